/- A part of the proof. -/
import Derived.Test.YtbjdfanphdfkdaaGreatDoorPK
set_option linter.all false
set_option maxRecDepth 100000
open Nat renaming reduceEqDiff -> qX, reduceLeDiff -> qK, reduceAdd -> qW, le_refl -> qC, lt_of_le_of_lt -> qG, sub_self -> qH, zero_le -> qM, mul_assoc -> qS, pow_lt_pow_right -> qT, add_zero -> xK, mod_lt -> xW, mul_le_mul_right -> xH, mul_one -> xI, pow_le_pow_right -> xL, mul_le_mul -> xM, mul_comm -> yX, lt_or_ge -> yZ, zero_add -> yJ, div_eq_of_lt -> yK, mod_eq_of_lt -> yW, pow_add -> yU, div_le_self -> yA
open List renaming getD_eq_getElem?_getD -> qZ, getElem?_cons_zero -> qV, getElem?_cons_succ -> qY, getElem?_append_right -> qB, getElem?_append_left -> qD, getElem?_eq_getElem -> qE, take_of_length_le -> qI, getElem?_set_ne -> qN, replicate_zero -> qO, length_map -> qP, append_nil -> xQ, nil_append -> xZ, length_nil -> xJ, mapM_cons -> xV, getElem?_set -> xU, ext_getElem -> xB, getElem?_set_self -> xC, length_set -> xD, set_append_right -> xE, getElem?_eq_none -> xG, drop_zero -> xO, map_congr_left -> xS, length_take -> yY
open Go.AL.AV.closed renaming closedL -> qJ
open Int renaming toNat_natCast -> qU, natAbs_ediv_le_natAbs -> qL, mul_ediv_mul_of_pos_left -> xX, tmod_eq_emod_of_nonneg -> xY, mul_assoc -> xA, ediv_mul_cancel -> xP, emod_lt_of_pos -> yQ, emod_nonneg -> yB
open Bool renaming and_self -> qA, true_and -> xT
open Option renaming getD_some -> yV
namespace Go.Proofs.YtbjdfanphdfkdaaGreatDoor
open Go Go.AL Go.Proofs Go.Limb Go.Det
theorem xdc(r s:List Int):∀k,dotS r s k=sumR (λt=>r.getD t 0*s.getD t 0) k:=by
 intro k
 induction k with
 |zero=>rfl
 |succ k ih=>show dotS r s k+_=sumR _ k+_;rw[ih]
structure MulB(n x y:Nat)(A B:List (List Int)):Prop where
 a:Bnd x A
 b:Bnd y B
 fit:8*(x*y)+x+y<BIG
theorem MulB.term{n x y:Nat}{A B:List (List Int)}(h:MulB n x y A B)(i j k:Nat):(ent A i k*ent B k j).natAbs<=x*y:=zdx (h.a i k) (h.b k j)
theorem MulB.bnd{n x y:Nat}{A B:List (List Int)}(h:MulB n x y A B)(hn:n<=8):Bnd (8*(x*y)) (mulM n A B):=by
 intro i j;by_cases hij:i<n/\j<n
 ·unfold mulM;rw[zcw hij.1 hij.2];have:=qqd (f:=λk=>ent A i k*ent B k j) (n:=n) (c:=x*y) λt _=>h.term i j t
  have:=xH (x*y) hn;omega
 ·rw[(zuv n A B).out (by omega)];simp
theorem xdd{n x y:Nat}{A B:List (List Int)}{ar tr:List AV}{ac tc cap:Option Nat}(hn:1<=n/\n<=8)(hM:MulB n x y A B)(hsA:Shp n A)(hal:ar.length=n)(har:∀i,i<n->zgh (A.getD i []) (ar.getD i .junk))(htl:tr.length=n)(htr:∀i,i<n->zgh ((trM n B).getD i []) (tr.getD i .junk))
  {i:Nat} (hi:i<n) {v43 v44:AV} {Q:Post} {ps:List (Nat×Option Nat)} {X0:List (List Int)} (hX0:X0.length=n)
  {E:Env} {H:Heap} (hH:MatH H 0 ps n X0) (e0:E 0= .vec ar n ac) (e9:E 9= .vec tr n tc) (e11:E 11= .sl 0 0 n 1 cap) (e12:E 12= .int .i64 (i:Nat)) (e43:E 43=v43) (e44:E 44=v44) (e48:E 48= .int .i64 (n:Nat)) (e49:E 49= .int .i64 0)
  (hQ:∀E' H' X,MatH H' 0 ps n X->X.length=n->(∀s t,ent X s t=if s=i/\t<n then ent (mulM n A B) s t else ent X0 s t)->E' 0= .vec ar n ac->E' 9= .vec tr n tc->E' 11= .sl 0 0 n 1 cap->E' 43=v43->E' 44=v44->Q (.exit 2) E' H'):
  Wg 0 70 (.loop l94_1) E H Q:=by
 refine zax (λk E H=>∃j X,j+k=n/\MatH H 0 ps n X/\X.length=n/\(∀s t,ent X s t=if s=i/\t<j then ent (mulM n A B) s t else ent X0 s t)/\E 0= .vec ar n ac/\E 9= .vec tr n tc/\E 11= .sl 0 0 n 1 cap/\E 12= .int .i64 (i:Nat)/\E 43=v43/\E 44=v44/\
  E 48= .int .i64 (n:Nat)/\E 49= .int .i64 (j:Nat)) (n:=n) ⟨0,X0,by omega,hH,hX0,λs t=>by rw[if_neg (by omega)],e0,e9,e11,e12,e43,e44,e48,e49⟩ ?_
 clear hH e0 e9 e11 e12 e43 e44 e48 e49 E H;rintro k E H ⟨j,X,hjk,hH,hXl,hX,e0,e9,e11,e12,e43,e44,e48,e49⟩;refine wM ?_;simp only[l94_1,r94_10,SS,reduceIte,e48,e49];refine⟨λhlt=>?_,λhge=>?_⟩
 ·obtain⟨k,rfl⟩:∃k',k=k'+1:=⟨k-1,by omega⟩
  have hj:j<n:=by omega
  obtain⟨csk,gk,lk,rk,fk⟩:=zfk hH (i:=i) (by omega);have ok:=zci (ps:=ps) (n:=n) (i:=i) (by rw[hH.len];omega);have hol:(ps.map (zcl n)).length=n:=by rw[qP,hH.len];exact hXl
  have hou:=hH.outer;have rA:=har i hi;have rT:=htr j hj;have lA:=hsA.row i hi;have lT:((trM n B).getD j []).length=n:=(zdd n _).row j hj;have hfit:=hM.fit
  have e1:∀t,t<n->((trM n B).getD j []).getD t 0=ent B t j:=by
   intro t ht
   show ent (trM n B) j t=_
   unfold trM;rw[zcw hj ht]
  have hdot:∀m,m<=n->dotS (A.getD i []) ((trM n B).getD j []) m=sumR (λt=>ent A i t*ent B t j) m:=by
   intro m hm;rw[xdc];refine zap λt ht=>?_
   rw[e1 t (by omega)];rfl
  have hval:dotS (A.getD i []) ((trM n B).getD j []) (A.getD i []).length=ent (mulM n A B) i j:=by
   rw[lA,hdot n (qC _)];unfold mulM;rw[zcw hi hj]
  have td:=mDot rA rT (by rw[lA,lT]) (by omega) (λt ht=>by
    rw[e1 t (by omega)];have:=hM.term i j t;have e:(A.getD i []).getD t 0=ent A i t:=rfl;rw[e];omega) (λm hm=>by
    rw[hdot m (by omega)];have h1:=qqd (f:=λt=>ent A i t*ent B t j) (n:=m) (c:=x*y) λt _=>hM.term i j t
    have h2:m*(x*y)<=8*(x*y):=xH _ (by omega);omega)
  rw[hval]at td;have hbv:=hM.bnd hn.2 i j;have hiv:zat (ent (mulM n A B) i j) (intV (ent (mulM n A B) i j)):=zbp (by omega);have hv0:=hiv;obtain⟨lv,cv,hcv1,hcv2,hcv3,hev⟩:=hiv;rw[hev]at td hv0;have hset:=zkl hH (i:=i) (j:=j) (by omega) hj hv0 gk;have w5:=wS1 j (by omega);obtain⟨acs,aci,hae,hac⟩:=rA;obtain⟨tcs,tci,hte,htc⟩:=rT;rw[hae,hte]at td;simp only[r94_11,r94_12,SS,fC,reduceCtorEq,reduceIte,qX,e0,e9,e11,e12,e49,qU,hou,hol,ok,hal,htl,hae,hte];refine⟨⟨by omega,by omega⟩,by omega,⟨by omega,by omega⟩,by omega,⟨by omega,by omega⟩,by omega,?_⟩;refine zaa td ?_;simp only[SS,reduceIte,qW,qX,gk,lk,qU];refine⟨⟨by omega,by omega⟩,by omega,rfl,?_⟩;simp only[r94_13,SS,reduceIte,qX,e49,w5];refine⟨k,_,_,by omega,⟨j+1,setM X i j (ent (mulM n A B) i j),by omega,hset,by rw[zcq];exact hXl,?_,?_,?_,?_,?_,?_,?_,?_,?_⟩,.refl⟩
  ·intro s t;rw[zhp (by omega) (by rw[hH.cols i (by omega)];exact hj),hX];by_cases h1:s=i/\t=j
   ·rw[if_pos h1,if_pos ⟨h1.1,by omega⟩,h1.1,h1.2]
   ·rw[if_neg h1];by_cases h2:s=i/\t<j
    ·rw[if_pos h2,if_pos ⟨h2.1,by omega⟩]
    ·rw[if_neg h2,if_neg (by omega)]
  all_goals simp only[UU,qX,reduceIte, *]
 ·have hjn:j=n:=by omega
  subst hjn;exact hQ _ _ X hH hXl hX (by exact e0) (by exact e9) (by exact e11) (by exact e43) (by exact e44)
theorem mMul{n x y:Nat}{A B:List (List Int)}{a b:AV}(ha:Sq n A a)(hb:Sq n B b)(hM:MulB n x y A B):Rt 94 [a,b] [] (.tup [matC (mulM n A B),.bool true]) []:=by
 have hn:1<=n/\n<=8:=⟨ha.lo,ha.hi⟩
 have hfit:=hM.fit;have hsA:Shp n A:=⟨ha.len,ha.cols⟩
 have hsB:Shp n B:=⟨hb.len,hb.cols⟩
 have t1:=qdl ha.mat ha.shape;rw[ha.cols 0 (by omega),ha.len]at t1;have hTs:Shp n (trM n B):=zdd n _;have t2:=zsr (n:=n) hb.mat (by omega) (by rw[hb.len];omega) (λi hi=>hb.cols i (by rw[hb.len]at hi;exact hi)) (T:=trM n B) hTs.len (λi hi=>by rw[hb.len];exact hTs.row i hi) (λi j hi hj=>by unfold trM;rw[zcw hi (by rw[hb.len]at hj;exact hj)])
 have hTb:Bnd y (trM n B):=by
  intro i j;by_cases hij:i<n/\j<n
  ·unfold trM;rw[zcw hij.1 hij.2];exact hM.b j i
  ·rw[hTs.out (by omega)];simp
 have hT:MatV (trM n B) (matC (trM n B)):=zul (qeg hTb (by omega));have c1:qJ [a]=true:=by simp only[qJ,ha.closed,qA]
 have c2:qJ [b]=true:=by simp only[qJ,hb.closed,qA]
 obtain⟨tr,tc,hte,htl,htr⟩:=hT;rw[hte]at t2;have hbl:=hb.len;obtain⟨ar,ac,hae,hal,har⟩:=ha.mat;obtain⟨br,bc,hbe,hbl2,hbr⟩:=hb.mat;subst hae hbe;rw[ha.len]at hal har t1 c1 ⊢;rw[hb.len]at t2 c2 ⊢;rw[hTs.len]at htl htr t2;refine oFw o94 ?_;simp only[c94,r94_0,r94_1,SS,reduceCtorEq,reduceIte];refine zaa t1 ?_ c1;simp only[SS,reduceIte,qX,qV,qY];simp only[r94_2,SS,reduceIte,qX];refine zaa t2 ?_ c2;simp only[SS,reduceIte,qX,qV,qY];simp only[r94_3,SS,fC,reduceIte,qX];refine⟨λhne=>absurd rfl hne,λ_=>?_⟩;simp only[r94_5,SS,reduceCtorEq,reduceIte,qX];refine zeb (qos (by omega) (by omega)) rfl ?_;obtain⟨H1,ps,hH1,hz⟩:=zjm n n;simp only[zcy,SS,reduceIte,qX,AV.ren,zbn,xK,hH1];simp only[r94_6,SS,reduceCtorEq,reduceIte,qX]
 refine zax (λk E H=>∃i X,i+k=n/\MatH H 0 ps n X/\X.length=n/\(∀s t,ent X s t=if s<i/\t<n then ent (mulM n A B) s t else 0)/\E 0= .vec ar n ac/\E 9= .vec tr n tc/\E 11= .sl 0 0 n 1 (some n)/\E 43= .int .i64 (n:Nat)/\E 44= .int .i64 (i:Nat)) (n:=n)
  ⟨0,zmat n n,by omega,hz,(zjj _ _).1,λs t=>by rw[if_neg (by omega),zlv],by rfl,by rfl,by rfl,by rfl,by rfl⟩ ?_
 rintro k E H ⟨i,X,hik,hH,hXl,hX,e0,e9,e11,e43,e44⟩;refine wM ?_;simp only[l94_0,r94_7,SS,reduceCtorEq,reduceIte,e43,e44];refine⟨λhlt=>?_,λhge=>?_⟩
 ·obtain⟨k,rfl⟩:∃k',k=k'+1:=⟨k-1,by omega⟩
  have hi:i<n:=by omega
  have w5:=wS1 i (by omega);simp only[r94_8,r94_9,SS,reduceIte,qX,e9,e44];refine xdd (ar:=ar) (tr:=tr) (ac:=ac) (tc:=tc) (cap:=some n) hn hM hsA hal har htl htr hi hXl hH (by exact e0) (by exact e9) (by exact e11) (by rfl) (by simp only[UU,qX];exact e43) (by simp only[UU,qX];exact e44) (by rfl) (by rfl) ?_;intro E' H' X' hH' hXl' hX' f0 f9 f11 f43 f44;simp only[SS,reduceCtorEq,reduceIte,qX,r94_14,f44,w5];refine⟨k,_,_,by omega,⟨i+1,X',by omega,hH',hXl',?_,?_,?_,?_,?_,?_⟩,.refl⟩
  ·intro s t;rw[hX',hX];by_cases h1:s=i/\t<n
   ·rw[if_pos h1,if_pos ⟨by omega,h1.2⟩]
   ·rw[if_neg h1];by_cases h2:s<i/\t<n
    ·rw[if_pos h2,if_pos ⟨by omega,h2.2⟩]
    ·rw[if_neg h2,if_neg (by omega)]
  all_goals simp only[UU,qX,reduceIte, *]
 ·have hin:i=n:=by omega
  subst hin
  have e:X=mulM i A B:=by
   refine zup hXl (zuv i A B).len (λs hs=>hH.cols s (by omega)) (zuv i A B).row λs t hs ht=>?_
   rw[hX,if_pos ⟨hs,ht⟩]
  subst e;simp only[r94_15,SS,reduceIte,qX,e11];obtain⟨v,g1,g2⟩:=zji (cap:=some i) (b:=true) hH;rw[hXl]at g1;exact⟨.inl trivial,_,v,rfl,g1,g2⟩
theorem zvb{n x y:Nat}{A B:List (List Int)}{a b:AV}(ha:Sq n A a)(hb:Sq n B b)(hM:MulB n x y A B):Rt 41 [a,b] [] (matC (mulM n A B)) []:=by
 have t1:=mMul ha hb hM;have c1:qJ [a,b]=true:=by simp only[qJ,ha.closed,hb.closed,qA]
 refine oF o41 ?_;simp only[c41,r41_0,r41_1,SS,reduceCtorEq,reduceIte,qX];refine zaa t1 ?_ c1;simp only[SS,reduceIte,qX,r41_2,qV,qY];exact dR
theorem qho{n x y:Nat}{A U:List (List Int)}{a u:AV}(ha:Sq n A a)(hu:Sq n U u)(hbA:Bnd x A)(hbU:Bnd y U)(hf:64*(y*x*y)+8*(y*x)+x+y<BIG):Rt 40 [a,u] [] (matC (cgM n A U)) []:=by
 have hn:1<=n/\n<=8:=⟨ha.lo,ha.hi⟩
 have hTs:Shp n (trM n U):=zdd n _
 have hTb:Bnd y (trM n U):=by
  intro i j;by_cases hij:i<n/\j<n
  ·unfold trM;rw[zcw hij.1 hij.2];exact hbU j i
  ·rw[hTs.out (by omega)];simp
 have t1:=zsr (n:=n) hu.mat (by omega) (by rw[hu.len];omega) (λi hi=>hu.cols i (by rw[hu.len]at hi;exact hi)) (T:=trM n U) hTs.len (λi hi=>by rw[hu.len];exact hTs.row i hi) (λi j hi hj=>by unfold trM;rw[zcw hi (by rw[hu.len]at hj;exact hj)]);have hsT:=zxy hTs hn hTb (by omega);have hM1:MulB n y x (trM n U) A:=⟨hTb,hbA,by omega⟩
 have t2:=zvb hsT ha hM1;have hb1:=hM1.bnd hn.2;have hs1:=zxy (zuv n (trM n U) A) hn hb1 (by omega);have e1:8*(8*(y*x)*y)=64*(y*x*y):=by rw[qS 8,<-qS]
 have hM2:MulB n (8*(y*x)) y (mulM n (trM n U) A) U:=⟨hb1,hbU,by omega⟩
 have t3:=zvb hs1 hu hM2;have c1:qJ [u]=true:=by simp only[qJ,hu.closed,qA]
 have c2:qJ [matC (trM n U),a]=true:=by simp only[qJ,ha.closed,hsT.closed,qA]
 have c3:qJ [matC (mulM n (trM n U) A),u]=true:=by simp only[qJ,hu.closed,hs1.closed,qA]
 refine oF o40 ?_;simp only[c40,r40_0,r40_1,SS,reduceCtorEq,reduceIte,qX];refine zaa t1 ?_ c1;simp only[SS,reduceCtorEq,reduceIte,qX,r40_2,qV,qY];refine zaa t2 ?_ c2;simp only[SS,reduceIte,qX];refine zaa t3 ?_ c3;simp only[SS,reduceIte,qX];exact dR
end Go.Proofs.YtbjdfanphdfkdaaGreatDoor
namespace Go.Limb
def zqy(l:List Nat)(i:Nat):List Nat:=l.set (i/32) (l.getD (i/32) 0 ||| 2^(i%32))
theorem qhp(l:List Nat)(i:Nat):(zqy l i).length=l.length:=by simp[zqy]
theorem xde(w:Nat):(4294967296:Nat)^w=2^(32*w):=by rw[Nat.pow_mul]
theorem qya{l:List Nat}{i:Nat}(h:Dig l)(h0:val l%2^(i+1)=0):l.getD (i/32) 0%2^(i%32+1)=0:=by
 rw[zxp l _ h,xde];have hs:i%32<32:=xW _ (by decide);have hi:i+1=32*(i/32)+(i%32+1):=by omega
 obtain⟨t,ht⟩:2^(i+1)∣val l:=Nat.dvd_of_mod_eq_zero h0;rw[ht];have hp:2^(i+1)=2^(32*(i/32))*2^(i%32+1):=by rw[<-yU,<-hi]
 rw[hp,qS,Nat.mul_div_cancel_left _ (Nat.pow_pos (by decide))];generalize i%32=s at*
 have e3:(4294967296:Nat)=2^(s+1)*2^(31-s):=by
  rw[<-yU,show s+1+(31-s)=32 by omega]
 rw[e3,Nat.mod_mul_right_mod,Nat.mul_mod_right]
theorem qbb{l:List Nat}{i:Nat}(h:Dig l)(hi:i/32<l.length)(h0:val l%2^(i+1)=0):val (zqy l i)=val l+2^i/\Dig (zqy l i):=by
 have hz:=qya h h0;have hs:i%32<32:=xW _ (by decide);have hb:=h.getD (i/32)
 have hpl:2^(i%32)<4294967296:=by
  have:2^(i%32)<2^32:=qT (by decide) hs;exact this
 have hor:l.getD (i/32) 0 ||| 2^(i%32)<4294967296:=Nat.or_lt_two_pow (n:=32) hb hpl
 refine⟨?_,h.set hor⟩;have hv:=zzm (l:=l) (i:=i/32) (v:=l.getD (i/32) 0 ||| 2^(i%32)) hi;rw[qov hz,Nat.mul_add]at hv
 have e:4294967296^(i/32)*2^(i%32)=2^i:=by
  rw[xde,<-yU];congr 1;omega
 rw[e]at hv;unfold zqy;rw[qov hz];omega
structure DivS(m n:List Nat)(k:Nat)(qs r:List Nat):Prop where
 len:qs.length=m.length
 dig:Dig qs
 canon:zck r
 lt:val r<val n
 ex:∃Q,val qs=Q*2^k/\val m/2^k=Q*val n+val r
theorem DivS.start{m n:List Nat}(hm:Dig m)(hn:val n≠0):DivS m n (32*m.length) (List.replicate m.length 0) []:=by
 have hr:∀k,val (List.replicate k 0)=0:=by
  intro k
  induction k with
  |zero=>rfl
  |succ k ih=>rw[List.replicate_succ,val,ih]
 refine⟨by simp,?_,zck.nil,by show 0<val n;omega,0,by rw[hr];omega,?_⟩
 ·intro d hd;rw[List.eq_of_mem_replicate hd];decide
 ·have:=zlf hm;rw[xde]at this;rw[yK this]
  show 0=0*val n+0
  omega
theorem qej{m:List Nat}{k:Nat}:val m/2^(k+1)=val m/2^k/2:=by
 rw[Nat.div_div_eq_div_mul,Nat.pow_succ]
theorem qek(Q k:Nat):Q*2^(k+1)=2*Q*2^k:=by
 rw[Nat.pow_succ,<-qS,yX _ 2,qS]
theorem DivS.low{m n qs r r2:List Nat}{k:Nat}(h:DivS m n (k+1) qs r)(c2:zck r2)(hv:val r2=2*val r+val m/2^k%2)(hlt:val r2<val n):DivS m n k qs r2:=by
 obtain⟨Q,e1,e2⟩:=h.ex;rw[qej]at e2;have:=(qdt (V:=val m/2^k) (b:=val m/2^k%2) (xW _ (by decide)) e2 h.lt rfl).1 (by omega);exact⟨h.len,h.dig,c2,hlt,2*Q,by rw[e1,qek],by rw[hv];exact this⟩
theorem DivS.high{m n qs r r2:List Nat}{k:Nat}(h:DivS m n (k+1) qs r)(hk:k<32*m.length)(c2:zck r2)(hge:val n<=2*val r+val m/2^k%2)(hv:val r2+val n=2*val r+val m/2^k%2):DivS m n k (zqy qs k) r2:=by
 obtain⟨Q,e1,e2⟩:=h.ex;rw[qej]at e2;have h2:=(qdt (V:=val m/2^k) (b:=val m/2^k%2) (xW _ (by decide)) e2 h.lt rfl).2 hge;have hs:=qbb (i:=k) h.dig (by rw[h.len];omega) (by rw[e1];exact Nat.mul_mod_left _ _);refine⟨by rw[qhp,h.len],hs.2,c2,by omega,2*Q+1,?_,?_⟩
 ·rw[hs.1,e1,qek,Nat.add_mul,Nat.one_mul]
 ·have e:val r2=2*val r+val m/2^k%2-val n:=by omega
  rw[e];exact h2.1
theorem DivS.done{m n qs r:List Nat}(h:DivS m n 0 qs r):val qs=val m/val n/\val r=val m%val n:=by
 obtain⟨Q,e1,e2⟩:=h.ex;simp only[Nat.pow_zero,xI,Nat.div_one]at e1 e2;have hlt:=h.lt;rw[e1,e2];constructor
 ·rw[yX,Nat.mul_add_div (by omega),yK hlt];omega
 ·rw[yX,Nat.mul_add_mod,yW hlt]
end Go.Limb
namespace Go.Proofs.YtbjdfanphdfkdaaGreatDoor
open Go Go.AL Go.Proofs Go.Limb
theorem canon_len{m n:List Nat}(hm:zck m)(hn:zck n)(h:val m<=val n):m.length<=n.length:=by
 rcases yZ n.length m.length with h1 | h1
 ·have h2:=zlf hn.1;have h3:=zmp hm.2 (by intro e;rw[e]at h1;simp at h1);have h4:4294967296^n.length<=4294967296^(m.length-1):=xL (by decide) (by omega);omega
 ·exact h1
theorem and1{x:Nat}(hx:x<4294967296):IntKind.u32.wrap (((BitVec.ofInt IntKind.u32.bits (x:Int) &&& BitVec.ofInt IntKind.u32.bits 1).toNat:Nat):Int)=((x%2:Nat):Int):=by
 have h:(BitVec.ofInt IntKind.u32.bits (x:Int) &&& BitVec.ofInt IntKind.u32.bits 1).toNat=x%2:=by
  show(BitVec.ofInt 32 (x:Int) &&& BitVec.ofInt 32 ((1:Nat):Int)).toNat=x%2
  rw[BitVec.toNat_and,BitVec.ofInt_natCast,BitVec.ofInt_natCast,BitVec.toNat_ofNat,BitVec.toNat_ofNat,yW hx];exact Nat.and_one_is_mod x
 rw[h];exact qoc (by omega)
theorem shrN{x s:Nat}(hs:s<32):Int.fdiv (x:Int) (2^min s IntKind.u32.bits)=((x/2^s:Nat):Int):=by
 have e:min s IntKind.u32.bits=s:=by show min s 32=s;omega
 rw[e];have e2:(2:Int)^s=((2^s:Nat):Int):=by simp
 rw[e2,Int.fdiv_eq_ediv_of_nonneg _ (Int.natCast_nonneg _)];rfl
theorem shlN{s:Nat}(hs:s<32):IntKind.u32.wrap ((1:Int)*2^min s IntKind.u32.bits)=((2^s:Nat):Int):=by
 have e:min s IntKind.u32.bits=s:=by show min s 32=s;omega
 rw[e,Int.one_mul];have e2:(2:Int)^s=((2^s:Nat):Int):=by simp
 rw[e2];refine qoc ?_;have:2^s<2^32:=qT (by decide) hs;exact this
theorem zxz{m n:List Nat}{c d:Option Nat}(cm:zck m)(cn:zck n)(lm:m.length<=1100)(ln:n.length<=1100)(hn0:val n≠0){E:Env}{Q:Post}(e0:E 0= .vec (u32s m) m.length c)(e1:E 1= .vec (u32s n) n.length d)
  (e4:E 4= .sl 0 0 m.length 1 (some m.length)) (e5:E 5= .vec [] 0 (some 0)) (e8:E 8= .int .i64 (((32*m.length:Nat):Int)-1))
  (hQ:∀E' qs r cr,DivS m n 0 qs r->E' 4= .sl 0 0 m.length 1 (some m.length)->E' 5= .vec (u32s r) r.length cr->Q (.exit 0) E' [some (u32s qs)]):
  Wg 0 75 (.loop l168_0) E [some (u32s (List.replicate m.length 0))] Q:=by
 refine zax (λk E H=>∃qs r cr,DivS m n k qs r/\k<=32*m.length/\E 0= .vec (u32s m) m.length c/\E 1= .vec (u32s n) n.length d/\E 4= .sl 0 0 m.length 1 (some m.length)/\E 5= .vec (u32s r) r.length cr/\E 8= .int .i64 ((k:Int)-1)/\H=[some (u32s qs)])
  (n:=32*m.length) ⟨_,[],some 0,DivS.start cm.1 hn0,qC _,e0,e1,e4,e5,e8,rfl⟩ ?_
 clear e0 e1 e4 e5 e8;rintro k E H ⟨qs,r,cr,hD,hk,e0,e1,e4,e5,e8,rfl⟩;refine wM ?_;simp only[l168_0,r168_6,SS,reduceIte,qX,e8];refine⟨λhge=>?_,λhlt=>?_⟩
 ·obtain⟨k,rfl⟩:∃k',k=k'+1:=⟨k-1,by omega⟩
  have e5k:((k+1:Nat):Int)-1=(k:Nat):=by omega
  rw[e5k]at e8;have hw:k/32<m.length:=by omega
  have hs:k%32<32:=xW _ (by decide);have g1:=zcp m (k/32) hw AV.junk;have bm:=cm.1.getD (k/32);have lr:=canon_len hD.canon cn (Nat.le_of_lt hD.lt);have hb1:m.getD (k/32) 0/2^(k%32)<4294967296:=qG (yA _ _) bm;have hbit:=xca m k cm.1;have hbl:m.getD (k/32) 0/2^(k%32)%2<=1:=by omega
  obtain⟨c1,t1⟩:=xcb r cr (m.getD (k/32) 0/2^(k%32)%2) hD.canon.1 hbl (by omega);have dd:=qxf r _ hD.canon.1 hbl;have dl:=qds r (m.getD (k/32) 0/2^(k%32)%2);have dv:=qxe r (m.getD (k/32) 0/2^(k%32)%2);generalize hdb:dblL r (m.getD (k/32) 0/2^(k%32)%2)=db at*;obtain⟨c2,t2⟩:=znr db c1 (by omega);have kc:=zbj dd;have kv:=zco db;have kl:=zlo db;generalize zbd db=r1 at*;rw[dv,hbit]at kv;have t3:=zcmp r1 n c2 d (by omega) (by omega);rw[zii kc cn]at t3;have w3:IntKind.i64.wrap ((k:Int)-1)=(k:Int)-1:=w64 (by omega) (by omega);have q1:Int.tdiv (k:Int) 32=((k/32:Nat):Int):=rfl;have q2:Int.tmod (k:Int) 32=((k%32:Nat):Int):=rfl;have q3:IntKind.i64.wrap ((k/32:Nat):Int)=((k/32:Nat):Int):=w64 (by omega) (by omega);have q4:IntKind.i64.wrap ((k%32:Nat):Int)=((k%32:Nat):Int):=w64 (by omega) (by omega);simp only[r168_7,SS,fC,reduceCtorEq,reduceIte,qX,e0,e5,e8,q1,q2,q3,qU,g1,zbk,shrN hs,and1 hb1];refine⟨by omega,⟨by omega,by omega⟩,by omega,by omega,by omega,?_⟩;refine zaa t1 ?_;simp only[SS,reduceIte,qX];refine zaa t2 ?_;simp only[SS,reduceIte,qX];simp only[r168_8,SS,reduceIte,qX,e1];refine zaa t3 ?_;simp only[SS,reduceIte,qX];refine⟨λhc=>?_,λhc=>?_⟩
  ·have hle:val n<=val r1:=by
    unfold sgn at hc;split at hc
    ·omega
    ·split at hc<;>omega
   have hl2:=canon_len cn kc hle;obtain⟨c3,t4⟩:=zkj r1 n c2 d (by omega) hl2 kc.1 cn.1;obtain⟨v1,v2,v3⟩:=zph r1 n kc.1 cn.1 hl2 hle r1.length 0 0 [] (by decide) rfl Dig.nil (by omega) (by simp[Limb.val]);generalize difL r1 n r1.length 0 0 []=r2 at*;obtain⟨c4,t5⟩:=znr r2 c3 (by omega);have mc:=zbj v2;have mv:=zco r2;generalize zbd r2=r3 at*;have hD2:=hD.high (r2:=r3) (by omega) mc (by rw[<-kv];exact hle) (by rw[mv,v1,kv]);have bq:=hD.dig.getD (k/32);have g2:=zcp qs (k/32) (by rw[hD.len];exact hw) AV.junk
   have hpl:2^(k%32)<4294967296:=by
    have:2^(k%32)<2^32:=qT (by decide) hs;exact this
   have wo:=or32 bq hpl;simp only[r168_9,SS,reduceIte,qX,e1];refine zaa t4 ?_;simp only[SS,reduceIte,qX];refine zaa t5 ?_;simp only[SS,reduceIte,qX];simp only[r168_10,SS,fC,reduceIte,qX,e4,e8,q1,q2,q3,qU,g2,zbk,hD.len,shlN hs,wo,zue];refine⟨by omega,⟨by omega,by omega⟩,by omega,by omega,by omega,⟨by omega,by omega⟩,by omega,rfl,?_⟩;simp only[r168_11,SS,reduceIte,qX,e8,w3];refine⟨k,_,_,by omega,⟨zqy qs k,r3,c4,hD2,by omega,?_,?_,?_,?_,?_,rfl⟩,.refl⟩<;>simp only[UU,qX,reduceIte, *]
  ·have hle:val r1<val n:=by
    unfold sgn at hc;split at hc
    ·assumption
    ·exfalso;split at hc<;>omega
   have hD2:=hD.low (r2:=r1) kc kv hle;simp only[r168_11,SS,reduceIte,qX,e8,w3];refine⟨k,_,_,by omega,⟨qs,r1,c2,hD2,by omega,?_,?_,?_,?_,?_,rfl⟩,.refl⟩<;>simp only[UU,qX,reduceIte, *]
 ·have hk0:k=0:=by omega
  subst hk0;exact hQ _ qs r cr hD (by exact e4) (by exact e5)
theorem xdf(m n:List Nat)(c d:Option Nat)(cm:zck m)(cn:zck n)(lm:m.length<=1100)(ln:n.length<=1100)(hn0:val n≠0):DivC m n c d:=by
 by_cases hsm:m.length<=2/\n.length<=2
 ·have p2:∀l:List Nat,Dig l->l.length<=2->val l<18446744073709551616:=by
   intro l hl h;have h1:=zlf hl;have h2:4294967296^l.length<=4294967296^2:=xL (by decide) h;omega
  exact zui m n c d cm cn (p2 m cm.1 hsm.1) (p2 n cn.1 hsm.2) hn0
 have dq:val m/val n<=val m:=yA _ _;have dr:val m%val n<=val m:=Nat.mod_le _ _;have lq:=canon_len (zcf (val m/val n)) cm (by rw[zdc];exact dq);have lr:=canon_len (zcf (val m%val n)) cm (by rw[zdc];exact dr);refine⟨zcn (val m/val n),zcn (val m%val n),none,none,zcf _,zcf _,by omega,by omega,zdc _,zdc _,?_⟩;have w1:IntKind.i64.wrap (32*(m.length:Int))=((32*m.length:Nat):Int):=wQ (by omega);have w2:IntKind.i64.wrap (((32*m.length:Nat):Int)-1)=((32*m.length:Nat):Int)-1:=w64 (by omega) (by omega);have hrep:List.replicate m.length (AV.int IntKind.u32 0)=u32s (List.replicate m.length 0):=by simp[u32s]
 refine oFw o168 ?_
 have fin:∀E' qs r cr,DivS m n 0 qs r->E' 4= .sl 0 0 m.length 1 (some m.length)->E' 5= .vec (u32s r) r.length cr->
   wG 0 75 (.seq (.reg r168_12 none) .ret) E' [some (u32s qs)] (λx E' H'=>(x= .ret\/x= .normal)/\∃v' v'',resA Tryz.prog [(.tmp 4),(.tmp 5)] E' H'=some v'/\AL.Fin 0 v' H' v'' []/\v''.wk=(.tup [.vec (u32s (zcn (val m/val n))) (zcn (val m/val n)).length none,.vec (u32s (zcn (val m%val n))) (zcn (val m%val n)).length none])):=by
  intro E' qs r cr hD e4 e5;obtain⟨v1,v2⟩:=hD.done;obtain⟨c3,t1⟩:=znr qs (some m.length) (by rw[hD.len];omega);have eq:zbd qs=zcn (val m/val n):=zlg (zbj hD.dig) (zcf _) (by rw[zco,v1,zdc]);have er:r=zcn (val m%val n):=zlg hD.canon (zcf _) (by rw[v2,zdc]);rw[eq]at t1;subst er;simp only[r168_12,SS,reduceCtorEq,reduceIte,e4];refine zpg (id:=0) (cs:=u32s qs) (d:=2) (args0:=[.sl 0 0 m.length 1 (some m.length)]) (args':=[.vec (u32s qs) qs.length (some m.length)]) t1 rfl ?_ rfl ?_ rfl (zqg _) rfl
  ·have:=qod (l:=qs) (n:=m.length) (c:=some m.length) hD.len.symm;rw[xV,this];simp[hD.len]
  simp only[zcy,zaf,qO,xQ,SS,reduceIte,qX,e5];refine⟨.inl trivial,_,_,rfl,.drop _ _ rfl (by intro i cs h;omega),?_⟩;simp only[AV.wk,AV.wk.wkL,qoi,UU,qX,reduceIte]
 rcases yZ 2 m.length with h2 | h2
 ·have d1:decide ((m.length:Int)<=2)=false:=dF;simp only[c168,r168_0,r168_1,SS,fC,reduceCtorEq,reduceIte,qX,d1];simp only[r168_4,r168_5,SS,reduceCtorEq,reduceIte,qX,qU,w1,w2,hrep];refine⟨by omega,⟨by omega,by omega,by omega,by omega⟩,?_⟩;refine zxz (c:=c) (d:=d) cm cn lm ln hn0 (by rfl) (by rfl) (by rfl) (by rfl) (by rfl) ?_;intro E' qs r cr hD f4 f5;have:=fin E' qs r cr hD f4 f5;simp only[SS,reduceCtorEq,reduceIte]at this ⊢;exact this
 ·have d1:decide ((m.length:Int)<=2)=true:=dT;have d2:decide ((n.length:Int)<=2)=false:=dF;simp only[c168,r168_0,r168_1,SS,fC,reduceCtorEq,reduceIte,qX,d1,d2];simp only[r168_4,r168_5,SS,reduceCtorEq,reduceIte,qX,qU,w1,w2,hrep];refine⟨by omega,⟨by omega,by omega,by omega,by omega⟩,?_⟩;refine zxz (c:=c) (d:=d) cm cn lm ln hn0 (by rfl) (by rfl) (by rfl) (by rfl) (by rfl) ?_;intro E' qs r cr hD f4 f5;have:=fin E' qs r cr hD f4 f5;simp only[SS,reduceCtorEq,reduceIte]at this ⊢;exact this
theorem zee:DivB BIG:=⟨qC _,λx y _ _ h0 m n c d cm cn lm ln _ hn=>xdf m n c d cm cn lm ln (by omega)⟩
theorem xdg{x y:Int}{a b:AV}(ha:zat x a)(hb:zat y b)(hy:y≠0):∃v,zat (x/y) v/\Rt 51 [a,b] [] v []:=
 zQuo ha hb hy (zee.2 x y ha.fits hb.fits hy) (qG (qL x y) ha.fits)
theorem zRem{x y:Int}{a b:AV}(ha:zat x a)(hb:zat y b)(hy:y≠0):∃v,zat (x%y) v/\Rt 351 [a,b] [] v []:=by
 obtain⟨v,w,hv,hw,t⟩:=qoe ha hb hy (zee.2 x y ha.fits hb.fits hy) (qG (qL x y) ha.fits);obtain⟨l,ca,_,_,_,rfl⟩:=ha;obtain⟨n,cb,_,_,_,rfl⟩:=hb;have hw0:=hw;obtain⟨lv,cv,_,_,_,rfl⟩:=hv;obtain⟨lw,cw,_,_,_,rfl⟩:=hw;refine⟨_,hw0,?_⟩;refine oF o351 ?_;simp only[c351,r351_0,r351_1,SS,reduceCtorEq,reduceIte,qW,qX,qK];refine zaa t ?_;simp only[SS,reduceIte,qW,qX,qK,qV,qY];simp only[r351_2,SS,reduceIte,qW,qX,qK];exact dR
theorem zGcd{x y:Int}{a b:AV}(ha:zat x a)(hb:zat y b):Rt 305 [a,b] [] (intV (Int.gcd x y:Int)) []:=by
 obtain⟨va,hva,t1⟩:=zAbs ha;obtain⟨vb,hvb,t2⟩:=zAbs hb;obtain⟨l,ca,_,_,_,rfl⟩:=ha;obtain⟨n,cb,_,_,_,rfl⟩:=hb;obtain⟨la,da,_,_,_,hea⟩:=id hva;obtain⟨lb,db,_,_,_,heb⟩:=id hvb;subst hea heb;refine oFw o305 ?_;simp only[c305,r305_0,r305_1,SS,reduceCtorEq,reduceIte,qW,qX,qK];refine zaa t1 ?_;simp only[SS,reduceIte,qW,qX,qK];refine zaa t2 ?_;simp only[SS,reduceIte,qW,qX,qK];refine⟨rfl,?_⟩
 refine zax (λk E H=>∃(p q:Nat) (u1 v1 u2 v2:AV),q=k/\Nat.gcd p q=Int.gcd x y/\zat (p:Int) (.agg [u1,v1])/\zat (q:Int) (.agg [u2,v2])/\E 4= .ptr 2 0/\E 5= .ptr 3 0/\E 6= .ptr 4 0/\
  H=[some [.bool (decide (x<0)),.vec (u32s l) l.length ca],some [.bool (decide (y<0)),.vec (u32s n) n.length cb],some [.bool false,.vec [] 0 (some 0)],some [u1,v1],some [u2,v2]]) (n:=y.natAbs)
  ⟨x.natAbs,y.natAbs,_,_,_,_,rfl,rfl,hva,hvb,by rfl,by rfl,by rfl,rfl⟩ ?_
 rintro k E H ⟨p,q,u1,v1,u2,v2,rfl,hg,h1,h2,e4,e5,e6,rfl⟩;refine wM ?_;have t3:=zxd h2;obtain⟨l1,c1,x1,y1⟩:=zaj h1;obtain⟨l2,c2,x2,y2⟩:=zaj h2;subst x1 y1 x2 y2;simp only[l305_0,r305_2,SS,reduceCtorEq,reduceIte,qW,qX,qK,e6];refine zaa t3 ?_;simp only[SS,reduceIte,qX];refine⟨λhne=>?_,λheq=>?_⟩
 ·have hq:(q:Int)≠0:=by
   intro e;rw[e]at hne;exact hne rfl
  obtain⟨w,hw,t4⟩:=zRem h1 h2 hq;obtain⟨lw,cw,_,_,_,rfl⟩:=id hw;have em:((p:Int)%(q:Int))=((p%q:Nat):Int):=by omega
  rw[em]at hw;have hlt:p%q<q:=xW _ (by omega);simp only[r305_3,SS,reduceIte,qW,qX,qK,e5,e6];refine zaa t4 ?_;simp only[SS,reduceIte,qW,qX,qK,e5,e6];refine⟨rfl,?_⟩;refine⟨p%q,_,_,hlt,⟨q,p%q,_,_,_,_,rfl,?_,h2,hw,?_,?_,?_,?_⟩,.refl⟩
  ·rw[<-hg,Nat.gcd_comm p q,Nat.gcd_rec q p,Nat.gcd_comm]
  ·exact e4
  ·exact e5
  ·exact e6
  ·rw[em]
 ·have hq:q=0:=by
   have h0:((q:Nat):Int).sign=0:=Decidable.not_not.1 heq;have:=Int.sign_eq_zero_iff_zero.1 h0;omega
  subst hq;rw[Nat.gcd_zero_right]at hg;rw[hg]at h1;simp only[r305_4,SS,reduceIte,qW,qX,qK,e4,e5];exact⟨.inl trivial,_,_,zfo (id:=2) (by exact e4) rfl,.drop _ _ rfl (by intro i cs h;omega),h1.wk⟩
end Go.Proofs.YtbjdfanphdfkdaaGreatDoor
namespace Go.Proofs.YtbjdfanphdfkdaaGreatDoor
open Go Go.AL Go.Det
def numR(n d:Int):Int:=n/(Int.gcd n d:Int)
def denR(n d:Int):Int:=d/(Int.gcd n d:Int)
theorem zqz{n d:Int}(hd:0<d):0<(Int.gcd n d:Int):=by
 have:=Int.gcd_pos_of_ne_zero_right n (show d≠0 by omega);omega
theorem qqe(n d:Int):numR n d*(Int.gcd n d:Int)=n:=xP (Int.gcd_dvd_left ..)
theorem qbc(n d:Int):denR n d*(Int.gcd n d:Int)=d:=xP (Int.gcd_dvd_right ..)
theorem zvc{n d:Int}(hd:0<d):0<denR n d:=by
 have h1:=zqz (n:=n) hd;have h2:=qbc n d;rcases Int.lt_or_le 0 (denR n d)with h | h
 ·exact h
 ·have:=Int.mul_le_mul_of_nonneg_right h (show(0:Int)<=(Int.gcd n d:Int) by omega);omega
theorem xzz(n d:Int):(numR n d).natAbs<=n.natAbs:=qL _ _
theorem kaa(n d:Int):(denR n d).natAbs<=d.natAbs:=qL _ _
theorem xdh{n d:Int}(hd:0<d):Int.gcd (numR n d) (denR n d)=1:=by
 have h1:=zqz (n:=n) hd;exact Int.gcd_ediv_gcd_ediv_gcd (by omega)
theorem qqf{n d:Int}(hd:0<d):numR n d/denR n d=n/d:=by
 have h1:=zqz (n:=n) hd;have e1:=qqe n d;have e2:=qbc n d;have e3:(numR n d*(Int.gcd n d:Int))/(denR n d*(Int.gcd n d:Int))=numR n d/denR n d:=xX _ _ h1;rw[e1,e2]at e3;exact e3.symm
theorem qyb{l d:Int}(hd:0<d):(numR l d*2+1*denR l d)/(denR l d*2)=zep l d:=by
 unfold zep;have h1:=zqz (n:=l) hd;have e1:=qqe l d;have e2:=qbc l d;have e3:((numR l d*2+1*denR l d)*(Int.gcd l d:Int))/((denR l d*2)*(Int.gcd l d:Int))=(numR l d*2+1*denR l d)/(denR l d*2):=xX _ _ h1;rw[<-e3];congr 1
 ·rw[Int.add_mul,Int.one_mul,e2,xA,Int.mul_comm 2,<-xA,e1];omega
 ·rw[xA,Int.mul_comm 2,<-xA,e2];omega
end Go.Proofs.YtbjdfanphdfkdaaGreatDoor
namespace Go.Proofs.YtbjdfanphdfkdaaGreatDoor
open Go Go.AL Go.Proofs Go.Limb
def znd(n d:Int)(v:AV):Prop:= ∃a1 a2 b1 b2,v= .agg [a1,a2,b1,b2]/\zat n (.agg [a1,a2])/\zat d (.agg [b1,b2])
theorem qNew{n d:Int}{a b:AV}(ha:zat n a)(hb:zat d b)(hd:0<d):∃v,znd (numR n d) (denR n d) v/\Rt 244 [a,b] [] (.tup [v,.bool true]) []:=by
 have t1:=zxd hb;have s1:d.sign=1:=Int.sign_eq_one_of_pos hd;rw[s1]at t1;have t2:=zGcd ha hb;have hg:=zqz (n:=n) hd
 have hgf:((Int.gcd n d:Nat):Int).natAbs<BIG:=by
  have h1:Int.gcd n d<=d.natAbs:=Nat.le_of_dvd (by omega) (Int.gcd_dvd_natAbs_right n d);have:=hb.fits;omega
 have hgi:=zbp hgf;obtain⟨v1,hv1,t3⟩:=xdg ha hgi (by omega);obtain⟨v2,hv2,t4⟩:=xdg hb hgi (by omega);obtain⟨lg,cg,_,_,_,heg⟩:=hgi;rw[heg]at t2 t3 t4;obtain⟨l,ca,_,_,_,rfl⟩:=ha;obtain⟨m,cb,_,_,_,rfl⟩:=hb;obtain⟨l1,c1,_,_,_,he1⟩:=id hv1;obtain⟨l2,c2,_,_,_,he2⟩:=id hv2;subst he1 he2;refine⟨_,⟨_,_,_,_,rfl,hv1,hv2⟩,?_⟩;refine oF o244 ?_;simp only[c244,r244_0,r244_1,SS,reduceCtorEq,reduceIte,qW,qX,qK];refine zaa t1 ?_;simp only[SS,reduceIte,qX];refine⟨λh=>absurd h (by decide),λ_=>?_⟩;simp only[r244_3,SS,reduceIte,qW,qX,qK];refine zaa t1 ?_;simp only[SS,reduceIte,qX];refine⟨λh=>absurd h (by decide),λ_=>?_⟩;simp only[r244_5,SS,reduceIte,qW,qX,qK];refine zaa t2 ?_;simp only[SS,reduceIte,qW,qX,qK];simp only[r244_6,SS,reduceIte,qW,qX,qK];refine zaa t3 ?_;simp only[SS,reduceIte,qW,qX,qK];refine zaa t4 ?_;simp only[SS,reduceIte,qW,qX,qK];refine⟨rfl,?_⟩;exact dR
theorem zjn{n d:Int}{v:AV}(h:znd n d v)(hd:0<d):∃w,znd (numR n d) (denR n d) w/\Rt 166 [v] [] w []:=by
 obtain⟨a1,a2,b1,b2,rfl,h1,h2⟩:=h;obtain⟨w,hw,t1⟩:=qNew h1 h2 hd;obtain⟨l1,c1,e1,e2⟩:=zaj h1;obtain⟨l2,c2,e3,e4⟩:=zaj h2;subst e1 e2 e3 e4;obtain⟨w1,w2,w3,w4,rfl,k1,k2⟩:=id hw;obtain⟨m1,d1,f1,f2⟩:=zaj k1;obtain⟨m2,d2,f3,f4⟩:=zaj k2;subst f1 f2 f3 f4;refine⟨_,hw,?_⟩;refine oF o166 ?_;simp only[c166,r166_0,r166_1,SS,reduceCtorEq,reduceIte,qW,qX,qK];refine zaa t1 ?_;simp only[SS,reduceIte,qW,qX,qK,qV,qY];simp only[r166_2,SS,fC,reduceIte,qX];simp only[r166_4,SS,reduceIte,qW,qX,qK];exact dR
theorem qqg{n d:Int}{a b:AV}(ha:zat n a)(hb:zat d b)(hd:0<d):∃v,znd (numR n d) (denR n d) v/\Rt 89 [a,b] [] v []:=by
 obtain⟨l,ca,q1,q2,q3,rfl⟩:=ha;obtain⟨m,cb,q4,q5,q6,rfl⟩:=hb;obtain⟨w,hw,t1⟩:=zjn (v:= .agg [.bool (decide (n<0)),.vec (u32s l) l.length ca,.bool (decide (d<0)),.vec (u32s m) m.length cb]) ⟨_,_,_,_,rfl,⟨l,ca,q1,q2,q3,rfl⟩,⟨m,cb,q4,q5,q6,rfl⟩⟩ hd;obtain⟨w1,w2,w3,w4,rfl,k1,k2⟩:=id hw;obtain⟨m1,d1,f1,f2⟩:=zaj k1;obtain⟨m2,d2,f3,f4⟩:=zaj k2;subst f1 f2 f3 f4;refine⟨_,hw,?_⟩;refine oF o89 ?_;simp only[c89,r89_0,r89_1,SS,reduceCtorEq,reduceIte,qW,qX,qK];refine zaa t1 ?_;simp only[SS,reduceIte,qW,qX,qK];exact dR
theorem kqt:∃v,znd 1 2 v/\Rt 165 [] [] v []:=by
 obtain⟨v1,hv1,t1⟩:=zgv 1 (by omega) (by omega);obtain⟨v2,hv2,t2⟩:=zgv 2 (by omega) (by omega);obtain⟨l1,c1,_,_,_,he1⟩:=id hv1;obtain⟨l2,c2,_,_,_,he2⟩:=id hv2;subst he1 he2;refine⟨_,⟨_,_,_,_,rfl,hv1,hv2⟩,?_⟩;refine oF o165 ?_;simp only[c165,r165_0,r165_1,SS,reduceCtorEq];refine zaa t1 ?_;simp only[SS];refine zaa t2 ?_;simp only[SS,reduceCtorEq,reduceIte,qW,qX,qK];exact dR
theorem qqh{n d:Int}(h:Int.gcd n d=1):numR n d=n:=by unfold numR;rw[h];exact Int.ediv_one _
theorem qqi{n d:Int}(h:Int.gcd n d=1):denR n d=d:=by unfold denR;rw[h];exact Int.ediv_one _
theorem qAdd{n d m e:Int}{v h:AV}(hv:znd n d v)(hh:znd m e h)(hd:0<d)(he:0<e)(c1:Int.gcd n d=1)(c2:Int.gcd m e=1)(f1:(n*e).natAbs<BIG)(f2:(m*d).natAbs<BIG)(f3:(n*e+m*d).natAbs<BIG)(f4:(d*e).natAbs<BIG):
  ∃w,znd (numR (n*e+m*d) (d*e)) (denR (n*e+m*d) (d*e)) w/\Rt 164 [v,h] [] w []:=by
 obtain⟨x,hx,t1⟩:=zjn hv hd;rw[qqh c1,qqi c1]at hx;obtain⟨y,hy,t2⟩:=zjn hh he;rw[qqh c2,qqi c2]at hy;obtain⟨a1,a2,a3,a4,rfl,p1,p2⟩:=hv;obtain⟨b1,b2,b3,b4,rfl,p3,p4⟩:=hh;obtain⟨x1,x2,x3,x4,rfl,k1,k2⟩:=hx;obtain⟨y1,y2,y3,y4,rfl,k3,k4⟩:=hy;obtain⟨m1,hm1,t3⟩:=zMul k1 k4 f1;obtain⟨m2,hm2,t4⟩:=zMul k3 k2 f2;obtain⟨s,hs,t5⟩:=zAdd hm1 hm2 f3;obtain⟨m3,hm3,t6⟩:=zMul k2 k4 f4;obtain⟨w,hw,t7⟩:=qNew hs hm3 (Int.mul_pos hd he);obtain⟨_,_,e1,e2⟩:=zaj p1;obtain⟨_,_,e3,e4⟩:=zaj p2;obtain⟨_,_,e5,e6⟩:=zaj p3;obtain⟨_,_,e7,e8⟩:=zaj p4;subst e1 e2 e3 e4 e5 e6 e7 e8;obtain⟨_,_,e1,e2⟩:=zaj k1;obtain⟨_,_,e3,e4⟩:=zaj k2;obtain⟨_,_,e5,e6⟩:=zaj k3;obtain⟨_,_,e7,e8⟩:=zaj k4;subst e1 e2 e3 e4 e5 e6 e7 e8;obtain⟨_,_,_,_,_,rfl⟩:=id hm1;obtain⟨_,_,_,_,_,rfl⟩:=id hm2;obtain⟨_,_,_,_,_,rfl⟩:=id hm3;obtain⟨_,_,_,_,_,rfl⟩:=id hs;obtain⟨w1,w2,w3,w4,rfl,j1,j2⟩:=id hw;obtain⟨_,_,e1,e2⟩:=zaj j1;obtain⟨_,_,e3,e4⟩:=zaj j2;subst e1 e2 e3 e4;refine⟨_,hw,?_⟩;refine oF o164 ?_;simp only[c164,r164_0,r164_1,SS,reduceCtorEq,reduceIte,qW,qX,qK];refine zaa t1 ?_;simp only[SS,reduceIte,qW,qX,qK];refine zaa t2 ?_;simp only[SS,reduceIte,qW,qX,qK];refine⟨rfl,?_⟩;simp only[r164_2,SS,reduceIte,qW,qX,qK];refine zaa t3 ?_;simp only[SS,reduceIte,qW,qX,qK];refine zaa t4 ?_;simp only[SS,reduceIte,qX];refine zaa t5 ?_;simp only[SS,reduceIte,qW,qX,qK];refine zaa t6 ?_;simp only[SS,reduceIte,qX];refine zaa t7 ?_;simp only[SS,reduceIte,qW,qX,qK,qV,qY];refine⟨rfl,?_⟩;simp only[r164_3,SS,reduceIte,qW,qX,qK];exact dR
theorem qyc{l d:Int}{v h:AV}(hv:znd (numR l d) (denR l d) v)(hh:znd 1 2 h)(hd:0<d)(hf:2*(l.natAbs+d.natAbs)<BIG):
  ∃w,znd (numR (numR l d*2+1*denR l d) (denR l d*2)) (denR (numR l d*2+1*denR l d) (denR l d*2)) w/\Rt 164 [v,h] [] w []:=by
 have hnl:=xzz l d;have hdl:=kaa l d;exact qAdd hv hh (zvc hd) (by decide) (xdh hd) rfl (by omega) (by omega) (by omega) (by omega)
theorem kab{n d:Int}{v:AV}(h:znd n d v)(hd:0<d):∃w,zat (n/d) w/\Rt 163 [v] [] w []:=by
 obtain⟨x,hx,t1⟩:=zjn h hd;have hdp:=zvc (n:=n) hd;obtain⟨a1,a2,a3,a4,rfl,p1,p2⟩:=h;obtain⟨x1,x2,x3,x4,rfl,k1,k2⟩:=hx;obtain⟨w,hw,t2⟩:=xdg k1 k2 (by omega);rw[qqf hd]at hw;obtain⟨_,_,e1,e2⟩:=zaj p1;obtain⟨_,_,e3,e4⟩:=zaj p2;subst e1 e2 e3 e4;obtain⟨_,_,e1,e2⟩:=zaj k1;obtain⟨_,_,e3,e4⟩:=zaj k2;subst e1 e2 e3 e4;obtain⟨_,_,_,_,_,rfl⟩:=id hw;refine⟨_,hw,?_⟩;refine oF o163 ?_;simp only[c163,r163_0,r163_1,SS,reduceCtorEq,reduceIte,qW,qX,qK];refine zaa t1 ?_;simp only[SS,reduceIte,qW,qX,qK];simp only[r163_2,SS,reduceIte,qW,qX,qK];refine zaa t2 ?_;simp only[SS,reduceIte,qW,qX,qK];exact dR
theorem qyd{l d:Int}{v:AV}(hv:znd (numR l d) (denR l d) v)(hd:0<d)(hf:2*(l.natAbs+d.natAbs)<BIG):∃w,zat (zep l d) w/\Rt 88 [v] [] w []:=by
 obtain⟨h,hh,t1⟩:=kqt;obtain⟨s,hs,t2⟩:=qyc hv hh hd hf;have hdp:=zvc (n:=l) hd;have hd2:0<denR l d*2:=by omega
 obtain⟨w,hw,t3⟩:=kab hs (zvc hd2);rw[qqf hd2,qyb hd]at hw;obtain⟨a1,a2,a3,a4,rfl,p1,p2⟩:=hv;obtain⟨b1,b2,b3,b4,rfl,p3,p4⟩:=hh;obtain⟨s1,s2,s3,s4,rfl,p5,p6⟩:=hs;obtain⟨_,_,e1,e2⟩:=zaj p1;obtain⟨_,_,e3,e4⟩:=zaj p2;obtain⟨_,_,e5,e6⟩:=zaj p3;obtain⟨_,_,e7,e8⟩:=zaj p4;subst e1 e2 e3 e4 e5 e6 e7 e8;obtain⟨_,_,e1,e2⟩:=zaj p5;obtain⟨_,_,e3,e4⟩:=zaj p6;subst e1 e2 e3 e4;obtain⟨_,_,_,_,_,rfl⟩:=id hw;refine⟨_,hw,?_⟩;refine oF o88 ?_;simp only[c88,r88_0,r88_1,SS,reduceCtorEq,reduceIte,qW,qX,qK];refine zaa t1 ?_;simp only[SS,reduceIte,qX];refine zaa t2 ?_;simp only[SS,reduceIte,qX];refine zaa t3 ?_;simp only[SS,reduceIte,qW,qX,qK];refine⟨rfl,?_⟩;exact dR
def idB(H:Heap)(ps:List (Nat×Option Nat))(uv:List AV):Nat->Heap
 |0=>H
 |i+1=>(idB H ps uv i).set (pid ps i) (some (setL ((getB (idB H ps uv i) (pid ps i)).getD []) (i*2) uv))
def idX(n:Nat):Nat->List (List Int)
 |0=>zmat n n
 |i+1=>setM (idX n i) i i 1
theorem zra(n:Nat):∀i,(idX n i).length=n:=by
 intro i
 induction i with
 |zero=>exact(zjj n n).1
 |succ i ih=>show(setM _ _ _ _).length=n;rw[zcq,ih]
theorem xdi{H:Heap}{ps:List (Nat×Option Nat)}{n:Nat}{u v:AV}(h:MatH H 0 ps n (zmat n n))(hz:zat 1 (.agg [u,v])):∀i,i<=n->MatH (idB H ps [u,v] i) 0 ps n (idX n i):=by
 intro i
 induction i with
 |zero=>intro _;exact h
 |succ i ih=>
  intro hi;have hM:=ih (by omega);obtain⟨cs,gk,_⟩:=zfk hM (i:=i) (by rw[zra];omega);have:=zkl hM (i:=i) (j:=i) (by rw[zra];omega) (by omega) hz gk
  show MatH ((idB H ps [u,v] i).set (pid ps i) (some (setL ((getB (idB H ps [u,v] i) (pid ps i)).getD []) (i*2) [u,v]))) 0 ps n (setM (idX n i) i i 1)
  rw[gk];exact this
theorem xdj{n:Nat}:∀i,i<=n->(∀s,s<n->((idX n i).getD s []).length=n)/\∀s t,ent (idX n i) s t=if s<i/\s=t then 1 else 0:=by
 intro i
 induction i with
 |zero=>intro _;exact⟨(zjj n n).2,λs t=>by rw[if_neg (by omega)];exact zlv n n s t⟩
 |succ i ih=>
  intro hi;obtain⟨h1,h2⟩:=ih (by omega);have hl:=zra n i
  have hrow:∀s,s<n->((setM (idX n i) i i 1).getD s []).length=n:=by
   intro s hs;unfold setM;rw[qZ,xU];by_cases e:i=s
   ·subst e;rw[if_pos rfl,if_pos (by omega),yV,xD];exact h1 i hs
   ·rw[if_neg e,<-qZ];exact h1 s hs
  refine⟨hrow,λs t=>?_⟩
  show ent (setM (idX n i) i i 1) s t=_
  rw[zhp (by omega) (by rw[h1 i (by omega)];omega),h2];by_cases e1:s=i/\t=i
  ·rw[if_pos e1,if_pos ⟨by omega,by omega⟩]
  ·rw[if_neg e1];by_cases e2:s<i/\s=t
   ·rw[if_pos e2,if_pos ⟨by omega,e2.2⟩]
   ·rw[if_neg e2,if_neg (by omega)]
theorem kac(n:Nat):idX n n=idM n:=by
 obtain⟨h1,h2⟩:=xdj (n:=n) n (qC _);refine qay (n:=n) ⟨zra n n,h1⟩ (zgb n) λs t hs ht=>?_
 rw[h2,zqt hs ht];by_cases e:s=t
 ·rw[if_pos ⟨hs,e⟩,if_pos e]
 ·rw[if_neg (λx=>e x.2),if_neg e]
theorem qhq{n:Nat}(hn:1<=n/\n<=16):∃H1 ps,MatH H1 0 ps n (idM n)/\Rt 37 [.int .i64 (n:Nat)] [] (.tup [.sl 0 0 n 1 (some n),.bool true]) H1:=by
 obtain⟨H1,ps,hH1,hz⟩:=zjm n n;obtain⟨v,hv,ts⟩:=zgv 1 (by omega) (by omega);have hv0:=hv;obtain⟨lv,cv,_,_,_,rfl⟩:=hv0;have hM:=xdi hz hv;refine⟨idB H1 ps _ n,ps,by have:=hM n (qC _);rw[kac]at this;exact this,?_⟩;refine oF o37 ?_;simp only[c37,r37_0,r37_1,SS,fC,reduceCtorEq,reduceIte,qX];refine⟨λ_=>⟨λh=>absurd h (by omega),λ_=>?_⟩,λh=>absurd h (by omega)⟩;simp only[r37_3,SS,reduceCtorEq,reduceIte,qX];refine zeb (qos hn.2 hn.2) rfl ?_;simp only[zcy,SS,reduceIte,qX,AV.ren,zbn,xK,hH1];simp only[r37_4,SS,reduceIte,qX];refine zax (λk E H=>∃i,i+k=n/\H=idB H1 ps [.bool (decide ((1:Int)<0)),.vec (u32s lv) lv.length cv] i/\E 4= .sl 0 0 n 1 (some n)/\E 16= .int .i64 (n:Nat)/\E 17= .int .i64 (i:Nat)) (n:=n) ⟨0,by omega,rfl,by rfl,by rfl,by rfl⟩ ?_;rintro k E H ⟨i,hik,rfl,e4,e16,e17⟩;refine wM ?_;simp only[l37_0,r37_5,SS,reduceCtorEq,reduceIte,e16,e17];refine⟨λhlt=>?_,λhge=>?_⟩
 ·obtain⟨k,rfl⟩:∃k',k=k'+1:=⟨k-1,by omega⟩
  have hi:i<n:=by omega
  have hMi:=hM i (by omega);have hXl:=zra n i;obtain⟨csk,gk,lk,rk,fk⟩:=zfk hMi (i:=i) (by omega);have ok:=zci (ps:=ps) (n:=n) (i:=i) (by rw[hMi.len];omega);have hol:(ps.map (zcl n)).length=n:=by rw[qP,hMi.len];exact hXl
  have hou:=hMi.outer;have w5:=wS1 i (by omega);simp only[r37_6,r37_7,SS,fC,reduceIte,qX,e4,e17,qU,hou,hol,ok];refine⟨⟨by omega,by omega⟩,by omega,?_⟩;refine zaa ts ?_;simp only[SS,reduceIte,qW,qX,gk,lk,qU];refine⟨⟨by omega,by omega⟩,by omega,rfl,?_⟩;simp only[r37_8,SS,reduceIte,qX,e17,w5];refine⟨k,_,_,by omega,⟨i+1,by omega,?_,?_,?_,?_⟩,.refl⟩
  ·show _=(idB H1 ps _ i).set (pid ps i) (some (setL ((getB (idB H1 ps _ i) (pid ps i)).getD []) (i*2) _))
   rw[gk];rfl
  all_goals simp only[UU,qX,reduceIte, *]
 ·have hin:i=n:=by omega
  subst hin;simp only[r37_9,SS,reduceIte,qX,e4];exact kR
open Go.Det
structure StepOut(n:Nat)(M:List (List Int))(out:AV):Prop where
 add:∀i j,CurA n (rowF M) i j->out= .tup [matC (zfl n M i j),.bool true]
 sw:∀i,CurS n (rowF M) i->out= .tup [matC (zgz n i),.bool true]
 none:(∀i,i<n->OKr (rowF M) i)->out= .tup [.vec [] 0 none,.bool false]
theorem qye{n N A0:Nat}{M:List (List Int)}{ar:List AV}{ac:Option Nat}{ds:List Int}(hsq:Sq n M (.vec ar n ac))(hL:Lead BIG n M ds)(hF:FitN N BIG A0)(hb:Bnd A0 M)(hnN:n<=N)(hp:∀t,t<=n->0<lead (rowF M) t)(hds:zeg BIG M n=some ds)(hdf:∀z∈ds,z.natAbs<=bndS A0 N)
  {H2:Heap} {ps:List (Nat×Option Nat)} (hH:MatH H2 0 ps n (idM n)) {out:AV} (ho:StepOut n M out) {i:Nat} (hi:i<n) (hpre:∀s,s<i->OKr (rowF M) s) {v22 v23:AV} {E:Env} {Q:Post}
  (e0:E 0= .vec ar n ac) (e4:E 4=rowV ds) (e6:E 6= .sl 0 0 n 1 (some n)) (e8:E 8= .int .i64 (i:Nat)) (e9:E 9= .int .i64 ((i:Int)-1)) (e22:E 22=v22) (e23:E 23=v23)
  (hret:∀E' H' v,E' 2= .sl 0 0 n 1 (some n)->E' 3= .bool true->AL.Fin 0 (.tup [.sl 0 0 n 1 (some n),.bool true]) H' v []->v.wk=out->Q .ret E' H')
  (hQ:∀E',(∀l,l<i->SZ (rowF M) i l)->E' 0= .vec ar n ac->E' 4=rowV ds->E' 6= .sl 0 0 n 1 (some n)->E' 8= .int .i64 (i:Nat)->E' 22=v22->E' 23=v23->Q (.exit 2) E' H2):
  Wg 0 83 (.loop l38_1) E H2 Q:=by
 have hn:1<=n/\n<=8:=⟨hsq.lo,hsq.hi⟩
 refine zax (λk E H=>k<=i/\(∀l,k<=l->l<i->SZ (rowF M) i l)/\H=H2/\E 0= .vec ar n ac/\E 4=rowV ds/\E 6= .sl 0 0 n 1 (some n)/\E 8= .int .i64 (i:Nat)/\E 9= .int .i64 ((k:Int)-1)/\E 22=v22/\E 23=v23) (n:=i)
  ⟨qC _,λl h1 h2=>absurd h2 (by omega),rfl,e0,e4,e6,e8,e9,e22,e23⟩ ?_
 clear e0 e4 e6 e8 e9 e22 e23 E;rintro k E H ⟨hki,hup,rfl,e0,e4,e6,e8,e9,e22,e23⟩;refine wM ?_;simp only[l38_1,r38_7,SS,reduceIte,qX,e9];refine⟨λhge=>?_,λhlt=>?_⟩
 ·obtain⟨k,rfl⟩:∃k',k=k'+1:=⟨k-1,by omega⟩
  have e9k:((k+1:Nat):Int)-1=(k:Nat):=by omega
  rw[e9k]at e9;have hk:k<n:=by omega
  have tS:=xzg zee hsq hL hi hk (qqb hF hb hnN hds hp (i:=i) hk);have c1:qJ [.vec ar n ac,rowV ds,.int .i64 (i:Nat),.int .i64 (k:Nat)]=true:=rfl;have w3:IntKind.i64.wrap ((k:Int)-1)=(k:Int)-1:=w64 (by omega) (by omega);simp only[r38_8,SS,reduceCtorEq,reduceIte,qX,e0,e4,e8,e9,e9k];refine zaa tS ?_ c1;simp only[SS,reduceIte,qX];by_cases hz:SZ (rowF M) i k
  ·have d1:decide (SZ (rowF M) i k)=true:=decide_eq_true hz;simp only[SS,fC,d1];simp only[r38_11,SS,reduceIte,qX,e9,w3];refine⟨k,_,_,by omega,⟨by omega,λl h1 h2=>?_,rfl,?_,?_,?_,?_,?_,?_,?_⟩,.refl⟩
   ·rcases(by omega:l=k\/k+1<=l)with e | e
    ·rw[e];exact hz
    ·exact hup l e h2
   all_goals simp only[UU,qX,reduceIte, *]
  ·have d1:decide (SZ (rowF M) i k)=false:=decide_eq_false hz;have hc:CurA n (rowF M) i k:=⟨hi,by omega,hpre,λl h1 h2=>hup l (by omega) h2,hz⟩
   have hout:=ho.add i k hc;obtain⟨hlam,hlb⟩:=qqc hF hb hnN hp (i:=i) (j:=k) hk;obtain⟨hdet,hlf⟩:=zgw hlam;have tL:=qam zee hsq hi hk hdet hlf;have hli:=zbp (z:=stg (rowF M) k i k) hlf;have tM:=zxo zee hL hn.2 (k:=k+1) (by omega);have hmin:zcj ds (k+1)=lead (rowF M) (k+1):=zgy hds hp (by omega);have hmi:=zbp (znb zee hL (k+1));rw[hmin]at tM hmi;have hdp:=hp (k+1) (by omega);obtain⟨q,hq,tQ⟩:=qqg hli hmi hdp;have hmb:=ziq hF hdf (k+1);rw[hmin]at hmb;have hfit:=hF.fit;have hsq1:=Nat.mul_le_mul_left (bndS A0 N) (zlz hF.one N);obtain⟨w,hw,tN⟩:=qyd hq hdp (by omega);obtain⟨x,hx,tG⟩:=zNeg hw;obtain⟨csk,gk,lk,rk,fk⟩:=zfk hH (i:=k) (by rw[(zgb n).len];exact hk);have ok:=zci (ps:=ps) (n:=n) (i:=k) (by rw[hH.len,(zgb n).len];exact hk);have hol:(ps.map (zcl n)).length=n:=by rw[qP,hH.len];exact(zgb n).len
   have hou:=hH.outer;have hx0:=hx;obtain⟨lx,cx,_,_,_,rfl⟩:=hx0;have hset:=zkl hH (i:=k) (j:=i) (by rw[(zgb n).len];exact hk) hi hx gk;have eU:setM (idM n) k i (-(zep (stg (rowF M) k i k) (lead (rowF M) (k+1))))=zfl n M i k:=rfl;rw[eU]at hset;have hUl:(zfl n M i k).length=n:=(qee (c:= -(zep (stg (rowF M) k i k) (lead (rowF M) (k+1)))) (i:=i) hk).len;obtain⟨a1,a2,b1,b2,rfl,p1,p2⟩:=id hq;obtain⟨_,_,y1,y2⟩:=zaj p1;obtain⟨_,_,y3,y4⟩:=zaj p2;subst y1 y2 y3 y4;obtain⟨lw,cw,_,_,_,hew⟩:=id hw;subst hew;have w6:=wS1 k (by omega);have cL:qJ [.vec ar n ac,.int .i64 (i:Nat),.int .i64 (k:Nat)]=true:=rfl;have cM:qJ [rowV ds,.int .i64 ((k+1:Nat):Int)]=true:=rfl;have cQ:qJ [intV (stg (rowF M) k i k),intV (lead (rowF M) (k+1))]=true:=by simp only[qJ,hli.closed,hmi.closed,qA]
   simp only[SS,fC,d1];simp only[r38_9,SS,fC,reduceCtorEq,reduceIte,qX,e0,e6,e8,e9,qU,hou,hol,ok];refine⟨⟨by omega,by omega⟩,by omega,?_⟩;refine zaa tL ?_ cL hli.closed;simp only[SS,reduceIte,qX,e4,e9,w6];refine zaa tM ?_ cM hmi.closed;simp only[SS,reduceIte,qX];refine zaa tQ ?_ cQ;simp only[SS,reduceIte,qX];refine zaa tN ?_;simp only[SS,reduceIte,qX];refine zaa tG ?_;simp only[SS,reduceIte,qW,qX,gk,lk,qU];refine⟨⟨by omega,by omega⟩,by omega,rfl,?_⟩;simp only[r38_10,SS,reduceIte,qX,e6];obtain⟨v,g1,g2⟩:=zji (cap:=some n) (b:=true) hset;rw[hUl]at g1;exact hret _ _ v (by rfl) (by rfl) g1 (by rw[g2,hout])
 ·have hk0:k=0:=by omega
  subst hk0;exact hQ _ (λl hl=>hup l (qM _) hl) (by exact e0) (by exact e4) (by exact e6) (by exact e8) (by exact e22) (by exact e23)
theorem xdk{n N A0:Nat}{M:List (List Int)}{a out:AV}{ds:List Int}(hsq:Sq n M a)(hF:FitN N BIG A0)(hb:Bnd A0 M)(hnN:n<=N)(hp:∀t,t<=n->0<lead (rowF M) t)(ho:StepOut n M out):Rt 38 [a] [] out []:=by
 have hn:1<=n/\n<=8:=⟨hsq.lo,hsq.hi⟩
 obtain⟨ds,hds,hdf⟩:=zur hF hb n hnN;have hds':zqk BIG M=some ds:=by unfold zqk;rw[hsq.len];exact hds
 have hL:=xbx hsq hds';have t1:=qdq zee hsq hds';obtain⟨H0,ps0,hM0,t2⟩:=qhq (n:=n) (by omega);have hM2:=zls (H:=[]) hM0;have hH2:zaf (effs (zag [] 0) 0 H0) (List.replicate H0.length none)=H0.map (renB (zag [] 0)):=zhn (H:=[]) (zag [] 0) (λi=>zbn 0 i) H0 [];simp only[xZ,xJ]at hM2;have c1:qJ [a]=true:=by simp only[qJ,hsq.closed,qA]
 obtain⟨ar,ac,hae,hal,har⟩:=hsq.mat;subst hae;rw[hsq.len]at hsq t1 c1 ⊢;refine oFw o38 ?_;simp only[c38,r38_0,r38_1,SS,reduceCtorEq,reduceIte];refine zaa t1 ?_ c1;simp only[SS,reduceIte,qX,qV,qY];simp only[r38_2,SS,reduceCtorEq,reduceIte,qX];refine zeb t2 rfl ?_;simp only[zcy,SS,reduceIte,qX,AV.ren,AV.ren.renL,zbn,xK,hH2,qV,qY];generalize H0.map (renB (zag [] 0))=H2 at*;generalize (ps0.map λp=>(0+p.1,p.2))=ps at*;simp only[r38_3,SS,reduceCtorEq,reduceIte,qX]
 have hret:∀E' H' v,E' 2= .sl 0 0 n 1 (some n)->E' 3= .bool true->AL.Fin 0 (.tup [.sl 0 0 n 1 (some n),.bool true]) H' v []->v.wk=out->∃v' v'',resA Tryz.prog [.tmp 2,.tmp 3] E' H'=some v'/\AL.Fin 0 v' H' v'' []/\v''.wk=out:=by
  intro E' H' v f2 f3 g gw;refine⟨.tup [.sl 0 0 n 1 (some n),.bool true],v,?_,g,gw⟩;simp only[resA,zgs,xV,List.mapM_nil,f2,f3];rfl
 refine zax (λk E H=>∃i,i+k=n/\H=H2/\E 0= .vec ar n ac/\E 4=rowV ds/\E 6= .sl 0 0 n 1 (some n)/\E 22= .int .i64 (n:Nat)/\E 23= .int .i64 (i:Nat)/\∀s,s<i->OKr (rowF M) s) (n:=n)
  ⟨0,by omega,rfl,by rfl,by rfl,by rfl,by rfl,by rfl,λs hs=>absurd hs (by omega)⟩ ?_
 rintro k E H ⟨i,hik,rfl,e0,e4,e6,e22,e23,hpre⟩;refine wM ?_;simp only[l38_0,r38_4,SS,reduceCtorEq,reduceIte,e22,e23];refine⟨λhlt=>?_,λhge=>?_⟩
 ·obtain⟨k,rfl⟩:∃k',k=k'+1:=⟨k-1,by omega⟩
  have hi:i<n:=by omega
  have w5:=wS1 i (by omega);have w3:IntKind.i64.wrap ((i:Int)-1)=(i:Int)-1:=w64 (by omega) (by omega);simp only[r38_5,r38_6,SS,reduceIte,qX,e23,w3];refine qye (ar:=ar) (ac:=ac) hsq hL hF hb hnN hp hds hdf hM2 ho hi hpre (by exact e0) (by exact e4) (by exact e6) (by rfl) (by rfl) (by simp only[UU,qX];exact e22) (by simp only[UU,qX];exact e23) ?_ ?_
  ·intro E' H' v f2 f3 g gw;simp only[SS,reduceCtorEq];exact⟨.inl trivial,hret E' H' v f2 f3 g gw⟩
  intro E' hSZ f0 f4 f6 f8 f22 f23;rcases Nat.eq_zero_or_pos i with h0 | h0
  ·have d0:decide ((0:Int)<(i:Nat))=false:=dF;simp only[SS,fC,reduceCtorEq,reduceIte,qX,r38_12,f0,f4,f8,d0];simp only[r38_15,SS,reduceIte,qX,f23,w5];refine⟨k,_,_,by omega,⟨i+1,by omega,rfl,?_,?_,?_,?_,?_,λs hs=>?_⟩,.refl⟩
   ·simp only[UU,qX, *]
   ·simp only[UU,qX, *]
   ·simp only[UU,qX, *]
   ·simp only[UU,qX, *]
   ·simp only[UU,qX,reduceIte, *]
   ·rcases(by omega:s<i\/s=i)with e | e
    ·exact hpre s e
    ·rw[e];exact⟨hSZ,λh=>absurd h (by omega)⟩
  ·have d0:decide ((0:Int)<(i:Nat))=true:=dT;have tV:=xby zee hsq hL h0 hi (xda hF hb hnN hds hdf hp h0 hi);simp only[SS,fC,reduceCtorEq,reduceIte,qX,r38_12,f0,f4,f8,d0];refine zaa tV ?_;by_cases hv:LV (rowF M) i
   ·have d1:decide (LV (rowF M) i)=true:=decide_eq_true hv;simp only[SS,fC,reduceIte,qX,d1];simp only[r38_15,SS,reduceIte,qX,f23,w5];refine⟨k,_,_,by omega,⟨i+1,by omega,rfl,?_,?_,?_,?_,?_,λs hs=>?_⟩,.refl⟩
    ·simp only[UU,qX, *]
    ·simp only[UU,qX, *]
    ·simp only[UU,qX, *]
    ·simp only[UU,qX, *]
    ·simp only[UU,qX,reduceIte, *]
    ·rcases(by omega:s<i\/s=i)with e | e
     ·exact hpre s e
     ·rw[e];exact⟨hSZ,λ_=>hv⟩
   ·have d1:decide (LV (rowF M) i)=false:=decide_eq_false hv;have hc:CurS n (rowF M) i:=⟨hi,h0,hpre,hSZ,hv⟩
    have hout:=ho.sw i hc;have hIl:=(zgb n).len;have o1:=zci (ps:=ps) (n:=n) (i:=i) (by rw[hM2.len,hIl];exact hi);have o2:=zci (ps:=ps) (n:=n) (i:=i-1) (by rw[hM2.len,hIl];omega);have hol:(ps.map (zcl n)).length=n:=by rw[qP,hM2.len];exact hIl
    have hou:=hM2.outer;have w7:(i:Int)-1=((i-1:Nat):Int):=by omega
    have w8:IntKind.i64.wrap ((i-1:Nat):Int)=((i-1:Nat):Int):=w64 (by omega) (by omega);have hlt0:=zas hou;have hsw:=(qdo hM2 (p:=i) (k:=i-1) (by rw[hIl];exact hi) (by rw[hIl];omega)).1;have hUl:(zdb (idM n) i (i-1)).length=n:=(zly (zgb n) hi (by omega)).1.len;simp only[SS,fC,reduceIte,qX,d1];simp only[r38_13,SS,fC,reduceIte,qX,f6,f8,w7,w8,qU,hou,hol,o1,o2,zbl hlt0,xD,List.set_set];refine⟨⟨by omega,by omega⟩,by omega,⟨by omega,by omega⟩,by omega,⟨by omega,by omega⟩,by omega,⟨by omega,by omega⟩,by omega,rfl,?_⟩;simp only[r38_14,SS,reduceIte,qX,f6];obtain⟨v,g1,g2⟩:=zji (cap:=some n) (b:=true) hsw;rw[hUl]at g1;exact⟨.inl trivial,hret _ _ v (by rfl) (by rfl) g1 (by rw[g2,hout];rfl)⟩
 ·have hin:i=n:=by omega
  subst hin;have hout:=ho.none hpre;simp only[r38_16,SS];exact⟨.inl trivial,_,_,rfl,.drop _ _ rfl (by intro i cs h;omega),by rw[hout];rfl⟩
end Go.Proofs.YtbjdfanphdfkdaaGreatDoor
namespace Go.Proofs.YtbjdfanphdfkdaaGreatDoor
open Go Go.AL Go.Proofs Go.Limb
theorem kad{z:Int}{a:AV}(ha:zat z a)(hz:In64 z):Rt 18 [a] [] (.tup [.int .i64 z,.bool true]) []:=by
 obtain⟨z1,z2⟩:=hz;obtain⟨l,ca,hc,hl,hv,rfl⟩:=ha;obtain⟨c1,t1⟩:=znr l ca (by omega);have k1:=zbj hc.1;have kv:=(zco l).trans hv;generalize zbd l=m at*;have hm2:=zkk k1 (by omega);have t2:=zlow m c1 k1.1 (by omega);rw[qI hm2,kv]at t2;have d1:decide ((2:Int)<(m.length:Nat))=false:=dF;by_cases hn:z<0
 ·have e1:decide (z<0)=true:=decide_eq_true hn;have d2:decide ((z.natAbs:Int)<=9223372036854775808)=true:=dT
  have w1:IntKind.i64.wrap (IntKind.u64.wrap (0-(z.natAbs:Int)))=z:=by
   simp[IntKind.wrap,IntKind.bits,IntKind.signed];omega
  refine oF o18 ?_;simp only[c18,r18_0,r18_1,SS,fC,reduceCtorEq,reduceIte,qW,qX,qK,e1];refine zaa t1 ?_;simp only[SS,reduceIte,qX];simp only[r18_2,SS,reduceIte,qX];refine zaa t2 ?_;simp only[SS,reduceIte,qX];simp only[r18_3,SS,fC,reduceIte,qX,d1];simp only[r18_5,SS,fC,reduceIte,qW,qX,qK,d2];simp only[r18_6,SS,reduceIte,qX,w1];exact dR
 ·have e1:decide (z<0)=false:=decide_eq_false hn;have d2:decide ((z.natAbs:Int)<9223372036854775808)=true:=dT
  have w1:IntKind.i64.wrap (z.natAbs:Int)=z:=by
   rw[show(z.natAbs:Int)=z by omega];exact w64 z1 z2
  refine oF o18 ?_;simp only[c18,r18_0,r18_1,SS,fC,reduceCtorEq,reduceIte,qW,qX,qK,e1];refine zaa t1 ?_;simp only[SS,reduceIte,qX];simp only[r18_2,SS,reduceIte,qX];refine zaa t2 ?_;simp only[SS,reduceIte,qX];simp only[r18_3,SS,fC,reduceIte,qX,d1];simp only[r18_5,SS,fC,reduceIte,qW,qX,qK];simp only[r18_7,SS,fC,reduceIte,qW,qX,qK,d2];simp only[r18_8,SS,reduceIte,qX,w1];exact dR
theorem kae{n:Nat}{M:List (List Int)}{rows:List AV}{c:Option Nat}(hn:1<=n/\n<=8)(hS:Shp n M)(hl:rows.length=n)(hr:∀i,i<n->zgh (M.getD i []) (rows.getD i .junk))(hf:∀i j,In64 (ent M i j)){i:Nat}(hi:i<n){rs:List (List Int)}(hrl:rs.length=i+1)(hr0:(rs.getD i []).length=n){E:Env}{Q:Post}
  (e0:E 0= .vec rows n c) (e5:E 5= .int .i64 (n:Nat)) (e7:E 7= .sl 0 0 n 1 (some n)) (e8:E 8= .int .i64 (i:Nat)) (e23:E 23= .int .i64 (n:Nat)) (e24:E 24= .int .i64 (i:Nat)) (e36:E 36= .int .i64 (n:Nat)) (e37:E 37= .int .i64 0)
  (hQ:∀E' r,r.length=n->(∀j,j<n->r.getD j 0=ent M i j)->E' 0= .vec rows n c->E' 5= .int .i64 (n:Nat)->E' 7= .sl 0 0 n 1 (some n)->E' 23= .int .i64 (n:Nat)->E' 24= .int .i64 (i:Nat)->Q (.exit 2) E' (bH n n (rs.set i r))):
  Wg 0 63 (.loop l39_1) E (bH n n rs) Q:=by
 refine zax (λk E H=>∃j r,j+k=n/\r.length=n/\(∀t,t<j->r.getD t 0=ent M i t)/\H=bH n n (rs.set i r)/\E 0= .vec rows n c/\E 5= .int .i64 (n:Nat)/\E 7= .sl 0 0 n 1 (some n)/\E 8= .int .i64 (i:Nat)/\E 23= .int .i64 (n:Nat)/\E 24= .int .i64 (i:Nat)/\
  E 36= .int .i64 (n:Nat)/\E 37= .int .i64 (j:Nat)) (n:=n)
  ⟨0,rs.getD i [],by omega,hr0,λt ht=>absurd ht (by omega),?_,e0,e5,e7,e8,e23,e24,e36,e37⟩ ?_
 ·congr 1;refine xB (by simp) λt h1 h2=>?_
  rw[List.getElem_set];split
  ·rename_i e;subst e;rw[qZ,qE h1];rfl
  ·rfl
 clear e0 e5 e7 e8 e23 e24 e36 e37 E;rintro k E H ⟨j,r,hjk,hrm,hr',rfl,e0,e5,e7,e8,e23,e24,e36,e37⟩;refine wM ?_;simp only[l39_1,r39_10,SS,reduceIte,e36,e37];refine⟨λhlt=>?_,λhge=>?_⟩
 ·obtain⟨k,rfl⟩:∃k',k=k'+1:=⟨k-1,by omega⟩
  have hj:j<n:=by omega
  have lM:=hS.row i hi;obtain⟨csi,ci,hei,hci⟩:=hr i hi;have hcl:=zda hci;obtain⟨u,v,hu,hz⟩:=zez hci j (by omega);obtain⟨lz,cz,hz1,hz2⟩:=zaj hz;subst hz1 hz2;have ts:=kad hz (hf i j);have w5:=wS1 j (by omega);have hset:(rs.set i r).length=i+1:=by simp[hrl]
  have gr:=ziv (N:=n) (n:=n) (i:=i) (rows:=rs.set i r) (by omega);have gri:(rs.set i r).getD i []=r:=by rw[qZ,xC (by omega)];rfl
  rw[gri]at gr;have go:getB (bH n n (rs.set i r)) 0=some (outS n n (i+1)):=by rw[zhu,hset]
  have gol:=zmd (N:=n) (n:=n) (i:=i+1) (by omega);have gog:=zht (N:=n) (n:=n) (i:=i+1) (k:=i) (by omega);have hent:(M.getD i []).getD j 0=ent M i j:=rfl;rw[hent]at ts;simp only[r39_11,r39_12,SS,fC,reduceCtorEq,reduceIte,qX,e0,e8,e37,qU,hl,hei,hcl,lM,hu];refine⟨⟨by omega,by omega⟩,by omega,⟨by omega,by omega⟩,by omega,?_⟩;refine zaa ts ?_;simp only[SS,reduceIte,qX,qV,qY];simp only[r39_13,SS,fC,reduceIte,qX];simp only[r39_15,SS,fC,reduceIte,qX,e7,e8,qU,go,gol,gog,gr,hrm,zca,zel];refine⟨⟨by omega,by omega⟩,by omega,⟨by omega,by omega⟩,by omega,?_⟩;simp only[r39_16,SS,reduceIte,qX,e37,w5,zju];refine⟨k,_,_,by omega,⟨j+1,r.set j (ent M i j),by omega,by simp[hrm],λt ht=>?_,?_,?_,?_,?_,?_,?_,?_,?_,?_⟩,.refl⟩
  ·rw[qZ];rcases(by omega:t<j\/t=j)with e | e
   ·rw[qN (by omega),<-qZ];exact hr' t e
   ·rw[e,xC (by omega)];rfl
  ·rw[List.set_set]
  all_goals simp only[UU,qX,reduceIte, *]
 ·have hjm:j=n:=by omega
  subst hjm;exact hQ _ r hrm hr' (by exact e0) (by exact e5) (by exact e7) (by exact e23) (by exact e24)
theorem xdl{n:Nat}{M:List (List Int)}{a:AV}(h:Sq n M a)(hf:∀i j,In64 (ent M i j)):Rt 39 [a] [] (.tup [.vec (zdm n M) n (some n),.bool true]) []:=by
 have hn:1<=n/\n<=8:=⟨h.lo,h.hi⟩
 have hS:Shp n M:=⟨h.len,h.cols⟩
 have t1:=qdl h.mat h.shape;rw[h.cols 0 (by omega),h.len]at t1;have c1:qJ [a]=true:=by simp only[qJ,h.closed,qA]
 obtain⟨rows,c,hae,hl,hr⟩:=h.mat;subst hae;rw[h.len]at hl hr t1 c1 ⊢;have hTl:=hS.len;refine oF o39 ?_;simp only[c39,r39_0,r39_1,SS,reduceCtorEq,reduceIte];refine zaa t1 ?_ c1;simp only[SS,reduceIte,qX,qV,qY];simp only[r39_2,SS,fC,reduceIte,qX];simp only[r39_4,SS,reduceIte,qX,qU];refine⟨by decide,⟨by omega,by omega,by omega,by omega⟩,?_⟩;simp only[r39_5,SS,reduceIte,qX];have hb0:[some (List.replicate n (AV.vec [] 0 (some 0)))]=bH n n []:=rfl;rw[hb0]
 refine zax (λk E H=>∃i,i+k=n/\H=bH n n (M.take i)/\E 0= .vec rows n c/\E 5= .int .i64 (n:Nat)/\E 7= .sl 0 0 n 1 (some n)/\E 23= .int .i64 (n:Nat)/\E 24= .int .i64 (i:Nat)) (n:=n)
  ⟨0,by omega,rfl,by rfl,by rfl,by rfl,by rfl,by rfl⟩ ?_
 rintro k E H ⟨i,hik,rfl,e0,e5,e7,e23,e24⟩;refine wM ?_;simp only[l39_0,r39_6,SS,reduceCtorEq,reduceIte,e23,e24];refine⟨λhlt=>?_,λhge=>?_⟩
 ·obtain⟨k,rfl⟩:∃k',k=k'+1:=⟨k-1,by omega⟩
  have hi:i<n:=by omega
  have htl:(M.take i).length=i:=by rw[yY];omega
  have w5:=wS1 i (by omega);have hbl:(bH n n (M.take i)).length=i+1:=by rw[jwu,htl]
  have go:getB (bH n n (M.take i)++[some (i64z (List.replicate n 0))]) 0=some (outS n n i):=by
   have:getB (bH n n (M.take i)) 0=some (outS n n i):=by rw[zhu,htl]
   exact this
  have gol:=zmd (N:=n) (n:=n) (i:=i) (by omega);have hnew:=jwv (N:=n) (n:=n) (rows:=M.take i) (List.replicate n 0) (by omega);rw[htl]at hnew;simp only[r39_7,r39_8,SS,reduceIte,qX,e5,e7,e24,qU,hbl,zuy,go,gol];refine⟨by decide,⟨by omega,by omega,by omega,by omega⟩,⟨by omega,by omega⟩,by omega,?_⟩;rw[hnew];have hrl:(M.take i++[List.replicate n 0]).length=i+1:=by simp;omega
  have hg0:getB (bH n n (M.take i++[List.replicate n 0])) 0=some (outS n n (i+1)):=by rw[zhu,hrl]
  have hgl:=zmd (N:=n) (n:=n) (i:=i+1) (by omega);have hgg:=zht (N:=n) (n:=n) (i:=i+1) (k:=i) (by omega);simp only[r39_9,SS,fC,reduceIte,qX,e7,qU,hg0,hgl,hgg];refine⟨⟨by omega,by omega⟩,by omega,?_⟩;refine kae (rows:=rows) (c:=c) hn hS hl hr hf hi (rs:=M.take i++[List.replicate n 0]) hrl ?_ (by exact e0) (by exact e5) (by exact e7) (by rfl) (by exact e23) (by exact e24) (by rfl) (by rfl) ?_
  ·rw[qZ,qB (by omega),htl,qH];simp
  intro E' r hrm hr' f0 f5 f7 f23 f24
  have er:r=M.getD i []:=by
   have hTi:=hS.row i hi;refine xB (by omega) λt h1 h2=>?_
   have h3:=hr' t (by omega);unfold ent at h3;rw[qZ,qE h1,qZ (l:=M.getD i []),qE h2]at h3;exact h3
  have eset:(M.take i++[List.replicate n 0]).set i r=M.take (i+1):=by
   rw[xE _ _ (by omega),htl,qH,er];rw[List.take_add_one,qZ,qE (by omega)];rfl
  rw[eset];simp only[r39_17,SS,reduceCtorEq,reduceIte,qX,f24,w5];refine⟨k,_,_,by omega,⟨i+1,by omega,rfl,?_,?_,?_,?_,?_⟩,.refl⟩
  all_goals simp only[UU,qX,reduceIte, *]
 ·have hin:i=n:=by omega
  have htl:M.take i=M:=qI (by omega);rw[htl];simp only[r39_18,SS,reduceIte,qX,e7];have this:=xzs (N:=n) (n:=n) (rows:=M) hS.len hS.row
  have key:frzI 0 (bH n n M) 4 (.tup [.sl 0 0 n 1 (some n),.bool true])=some (.tup [.vec (zdm n M) n (some n),.bool true]):=by
   rw[frzI];simp only[xV,List.mapM_nil,this];rfl
  exact⟨.inl trivial,.tup [.sl 0 0 n 1 (some n),.bool true],rfl,.freeze 4 _ _ _ key (by intro i cs h;omega)⟩
end Go.Proofs.YtbjdfanphdfkdaaGreatDoor
namespace Go.Proofs.YtbjdfanphdfkdaaGreatDoor
open Go Go.AL Go.Det Go.Limb
def qyf:Nat:=2^3000
def jwz:Nat:=2^12000
def znm:Nat:=2^12001
def qqj:Nat:=2^30000
structure WB(n:Nat)(c:Int):Prop where
 one:1<=c
 fit:FitN n BIG (bigK (c^n) (8*c^n)).toNat
 vec:vecB (c^n) (8*c^n) (bigK (c^n) (8*c^n)) 7<=((qyf:Nat):Int)
 bnd:(bndS (bigK (c^n) (8*c^n)).toNat n:Int)<=((jwz:Nat):Int)
 big:bigK (c^n) (8*c^n)<=2^800
theorem wb16{n:Nat}(h1:1<=n)(h5:n<=5):WB n 16:=by
 rcases(by omega:n=1\/n=2\/n=3\/n=4\/n=5)with rfl | rfl | rfl | rfl | rfl<;>
  exact⟨by decide +kernel,⟨by decide +kernel,by decide +kernel⟩,by decide +kernel,by decide +kernel,by decide +kernel⟩
theorem xdm{x y a b B:Nat}(hx:x<=a)(hy:y<=b)(h:64*(b*a*b)+8*(b*a)+a+b<B):64*(y*x*y)+8*(y*x)+x+y<B:=by
 have h1:=xM hy hx;have h2:=xM h1 hy;omega
theorem xdn{x y a b B:Nat}(hx:x<=a)(hy:y<=b)(h:8*(a*b)+a+b<B):8*(x*y)+x+y<B:=by
 have h1:=xM hx hy;omega
theorem kaf{x y:Nat}(hx:x<=2^800)(hy:y<=znm):64*(y*x*y)+8*(y*x)+x+y<BIG:=xdm hx hy (by decide +kernel)
theorem kag{x y:Nat}(hx:x<=qyf)(hy:y<=znm):8*(x*y)+x+y<BIG:=xdn hx hy (by decide +kernel)
theorem kah:jwz+1<=znm:=by decide +kernel
theorem kai:qyf<qqj:=by decide +kernel
theorem xdo:znm<qqj:=by decide +kernel
theorem qyg:1<=znm:=by decide +kernel
theorem jxa:qqj<BIG:=by decide +kernel
open Go.Proofs
theorem zya{n:Nat}{M:List (List Int)}(h:∀i,i<n->OKr (rowF M) i):StepOut n M (.tup [.vec [] 0 none,.bool false]):=
 ⟨λi j c=>absurd ((h i c.hi).1 j c.hj) c.no,λi c=>absurd ((h i c.hi).2 c.h0) c.no,λ_=>rfl⟩
theorem qbd{n i j:Nat}{M:List (List Int)}(h:CurA n (rowF M) i j):StepOut n M (.tup [matC (zfl n M i j),.bool true]):=
 ⟨λi' j' c=>by obtain⟨rfl,rfl⟩:=qxx h c;rfl,λi' c=>(jwy h c).elim,λhk=>absurd ((hk i h.hi).1 j h.hj) h.no⟩
theorem qhr{n i:Nat}{M:List (List Int)}(h:CurS n (rowF M) i):StepOut n M (.tup [matC (zgz n i),.bool true]):=
 ⟨λi' j' c=>(jwy c h).elim,λi' c=>by obtain rfl:=qxy h c;rfl,λhk=>absurd ((hk i h.hi).2 h.h0) h.no⟩
theorem xdp{H:Heap}{o n:Nat}{ps:List (Nat×Option Nat)}{M:List (List Int)}{cap:Option Nat}(h:MatH H o ps n M):∃vs,frzI 0 H 3 (.sl o 0 M.length 1 cap)=some (.vec vs M.length cap)/\MatV M (.vec vs M.length cap):=by
 obtain⟨vs,h1,h2,h3⟩:=zun (qdr h);have hl:=h.len;refine⟨vs,?_,⟨vs,cap,rfl,h2,h3⟩⟩;rw[frzI];simp only[Nat.not_lt_zero,if_false,h.outer,need,yJ,xI,qP,hl,qC,if_true,xO];rw[qI (by simp[hl]),h1];rfl
theorem jxb{n y:Nat}(hy:1<=y):Bnd y (idM n):=by
 intro i j;by_cases h:i<n/\j<n
 ·rw[zqt h.1 h.2];split<;>simp<;>omega
 ·rw[(zgb n).out (by omega)];simp
theorem qyh{n y i j:Nat}{M:List (List Int)}(hj:j<n)(hi:i<n)(hy:1<=y)(hc:(zep (stg (rowF M) j i j) (lead (rowF M) (j+1))).natAbs<=y):Bnd y (zfl n M i j):=by
 intro s t;unfold zfl addU;rw[(zgb n).ent_set hj hi];split
 ·rw[Int.natAbs_neg];exact hc
 ·exact jxb hy s t
theorem qyi{n y i:Nat}(hi:i<n)(hy:1<=y):Bnd y (zgz n i):=by
 intro s t;unfold zgz;rw[(zly (zgb n) hi (by omega)).2];exact jxb hy _ _
theorem qyj{n i j:Nat}{M:List (List Int)}(hj:j<n):Shp n (zfl n M i j):=qee hj
theorem qqk{n i:Nat}(hi:i<n):Shp n (zgz n i):=(zly (zgb n) hi (by omega)).1
theorem zmi{n:Nat}{c:Int}{M0 M T:List (List Int)}(h8:n<=8)(hW:WB n c)(hK1:(1:Int)<=8*c^n)(hp:Pos n (c^n) (rowF M0))(ha:∀s,s<n->ent M0 s s<=8*c^n)(hL:LState n (c^n) (8*c^n) M0 M T):
  Bnd (bigK (c^n) (8*c^n)).toNat M/\Bnd qyf T:=by
 obtain⟨b1,b2⟩:=hL.bound h8 hK1 hp ha (qpx (n:=n) (rowF M));have hv2:=hW.vec;refine⟨λi j=>?_,λi j=>?_⟩
 ·by_cases h:i<n/\j<n
  ·have:=b1 i j h.1 h.2;omega
  ·rw[hL.shM.out (by omega)];simp
 ·by_cases h:i<n/\j<n
  ·have:=b2 i j h.1 h.2;omega
  ·rw[hL.shT.out (by omega)];simp
theorem qyk{n:Nat}{c:Int}{M0:List (List Int)}{a:AV}(hsq:Sq n M0 a)(hW:WB n c)(hpos:Pos n (c^n) (rowF M0))(hac:∀s,s<n->ent M0 s s<=c)(hd:lead (rowF M0) n<=10000):
  ∃k M' T',Ends n M' T' k M0 (idM n)/\lead (rowF M') n=lead (rowF M0) n/\Red n (rowF M')/\LState n (c^n) (8*c^n) M0 M' T'/\Rt 15 [a] [] (.tup [.vec (zdm n M') n (some n),matC T',.int .i64 0]) []:=by
 have h1:=hsq.lo;have h8:=hsq.hi;have hc1:=hW.one;obtain⟨k0,M',T',hE,hst,hend,hred,hdet⟩:=xcz h1 h8 hc1 ⟨hsq.len,λi hi=>hsq.cols i hi⟩ hpos hac hd;refine⟨k0,M',T',hE,hdet,hred,hend,?_⟩
 have hK1:(1:Int)<=8*c^n:=by
  have:=hpos.pos 0 (by omega);have:=hpos.le 0 (by omega);omega
 have ha:∀s,s<n->ent M0 s s<=8*c^n:=λs hs=>by
  have h2:=qqa hc1 h1;have:=hac s hs;omega
 have hF:=hW.fit;have hb0:=(zmi h8 hW hK1 hpos ha hst).1;obtain⟨ds,hds,hdf⟩:=zur hF hb0 n (qC _);have hds':zqk BIG M0=some ds:=by unfold zqk;rw[hsq.len];exact hds
 obtain⟨d0,hd0,hd0f⟩:=qat (B:=BIG) hF.one (λk hk=>(hF.all (k:=k) hk).2) hst.shM hb0;have hd0e:d0=lead (rowF M0) n:=zqq hst.shM (λt ht=>by have:=hpos.pos t (by omega);omega) hd0
 have hval:valZ M0 ds=0:=by
  have hsy:=(qdz hst.shM).2 hpos.sym
  have hdf2:defB M0 ds=true:=by
   unfold defB;rw[hsy,xT,qas,zea hds];intro t ht;rw[qar hds hpos.pos t ht];exact hpos.pos (t+1) (by omega)
  unfold valZ;rw[hsy,hdf2];rfl
 have t1:=zxn zee hsq hds';rw[hval]at t1;have t2:=xze zee hsq hd0 (qG hd0f hF.lt);have e2:decide (d0<=10000)=true:=decide_eq_true (by rw[hd0e];exact hd);rw[e2]at t2;have t3:=qpu (n:=n) (by omega) (I:=idM n) (zgb n).len (zgb n).row (λi j hi hj=>zqt hi hj);obtain⟨ps0,L,hLm,tc⟩:=xza (n:=n) hsq.mat (by omega) (by rw[hsq.len];omega) (λi hi=>hsq.cols i (by rw[hsq.len]at hi;exact hi));have hM2:=zls (H:=[]) hLm;have hH2:zaf (effs (zag [] 0) 0 L) (List.replicate L.length none)=L.map (renB (zag [] 0)):=zhn (H:=[]) (zag [] 0) (λi=>zbn 0 i) L [];simp only[xZ,xJ]at hM2;have c1:qJ [a]=true:=by simp only[qJ,hsq.closed,qA]
 have hI:(matC (idM n)).closed=true:=rfl;have hlen:=hsq.len;obtain⟨ar,ac,hae,hal,har⟩:=hsq.mat;subst hae;rw[hlen]at hsq t1 t2 tc c1 ⊢;refine oF o15 ?_;simp only[c15,r15_0,r15_1,SS,reduceCtorEq,reduceIte];refine zaa t1 ?_ c1;simp only[SS,reduceIte,qX];simp only[r15_2,SS,reduceIte,qX];refine⟨λhne=>absurd rfl hne,λ_=>?_⟩;simp only[r15_4,SS,reduceCtorEq,reduceIte,qX];refine zaa t2 ?_ c1;simp only[SS,fC,reduceIte,qX];simp only[r15_6,SS,reduceCtorEq,reduceIte,qX];refine zeb tc c1 ?_;simp only[zcy,SS,reduceIte,qX,AV.ren,zbn,xK,hH2];generalize L.map (renB (zag [] 0))=H2 at*;generalize (ps0.map λp=>(0+p.1,p.2))=ps at*;simp only[r15_7,SS,reduceCtorEq,reduceIte,qX];refine zaa t3 ?_;simp only[SS,reduceIte,qX,qV,qY];obtain⟨vs,hfz,hmv⟩:=xdp (cap:=some n) hM2;rw[hlen]at hfz hmv;have hsq0:Sq n M0 (.vec vs n (some n)):=⟨hmv,hlen,hst.shM.row,h1,h8⟩
 refine W.weak (qcj 0 3 (qC _) (qM _) (λi cs h=>absurd h (by omega))) ?_
 refine zax (λk E H=>∃M T av,Ends n M' T' k M T/\LState n (c^n) (8*c^n) M0 M T/\Sq n M av/\E 6=av/\E 7=matC T/\H=[]) (n:=k0)
  ⟨M0,idM n,_,hE,hst,hsq0,?_,?_,rfl⟩ ?_
 ·unfold frzE;simp only[UU,qX,reduceIte];rw[if_neg (by simp[AV.under]),hfz];rfl
 ·unfold frzE;simp only[UU,qX,reduceIte];rfl
 rintro k E H ⟨M,T,av,hEn,hL,hsM,e6,e7,rfl⟩;refine wM ?_;obtain⟨hbM,hbT⟩:=zmi h8 hW hK1 hpos ha hL
 have hA200:(bigK (c^n) (8*c^n)).toNat<=2^800:=by
  have:=hW.big;have e:((2^800:Nat):Int)=(2:Int)^800:=Int.natCast_pow 2 800;omega
 have hTsq:Sq n T (matC T):=zxy hL.shT ⟨h1,h8⟩ hbT (by
  exact Nat.lt_trans kai jxa)
 have cM:qJ [av]=true:=by simp only[qJ,hsM.closed,qA]
 have next:∀U,Shp n U->Bnd (znm) U->Rt 40 [av,matC U] [] (matC (cgM n M U)) []/\Rt 41 [matC T,matC U] [] (matC (mulM n T U)) []/\Sq n U (matC U):=by
  intro U hU hbU
  have hUsq:=zxy hU ⟨h1,h8⟩ hbU (by
   exact Nat.lt_trans xdo jxa)
  exact⟨qho hsM hUsq hbM hbU (kaf hA200 (qC _)),zvb hTsq hUsq ⟨hbT,hbU,kag (qC _) (qC _)⟩,hUsq⟩
 have y1:1<=znm:=qyg;rcases qpz h8 hK1 (Int.le_refl _) hL hEn with⟨hok,rfl,rfl⟩ | ⟨k',i,j,rfl,hc,hL',hE'⟩ | ⟨k',i,rfl,hc,hL',hE'⟩
 ·have tS:=xdk (ds:=[]) hsM hF hbM (qC _) hL.pos.pos (zya hok)
  have hIn:∀i j,In64 (ent M i j):=by
   intro i j;by_cases h:i<n/\j<n
   ·have:=hred.entry h.1 h.2;have e:rowF M i j=ent M i j:=rfl;unfold In64;omega
   ·rw[hL.shM.out (by omega)];unfold In64;omega
  have tI:=xdl hsM hIn;simp only[l15_0,r15_8,SS,reduceCtorEq,reduceIte,e6];refine zaa tS ?_ cM;simp only[SS,reduceIte,qX,qV,qY];simp only[r15_9,SS,fC,reduceIte,qX];simp only[r15_10,SS,reduceIte,qX,e6];refine zaa tI ?_ cM;simp only[SS,reduceIte,qX,qV,qY];simp only[r15_11,SS,reduceIte,qX,e7];exact dR
 ·have hi:=hc.hi;have hj:=hc.hj
  have hnb:(zep (stg (rowF M) j i j) (lead (rowF M) (j+1))).natAbs<=znm:=by
   have h2:=xdb (l:=stg (rowF M) j i j) (hL.pos.pos (j+1) (by omega));have h3:=(qqc hF hbM (qC n) hL.pos.pos (i:=i) (j:=j) (by omega)).2;have h4:=hW.bnd;have h5':=kah;omega
  obtain⟨tC,tP,hUsq⟩:=next (zfl n M i j) (qyj (by omega)) (qyh (by omega) hi y1 hnb)
  have tS:=xdk (ds:=[]) hsM hF hbM (qC _) hL.pos.pos (qbd hc);have hcg:=zxy hL'.shM ⟨h1,h8⟩ (zmi h8 hW hK1 hpos ha hL').1 (qG (hF.all (k:=0) (qM _)).1 hF.lt);have c2:qJ [av,matC (zfl n M i j)]=true:=by simp only[qJ,hsM.closed,hUsq.closed,qA]
  have c3:qJ [matC T,matC (zfl n M i j)]=true:=rfl;simp only[l15_0,r15_8,SS,reduceCtorEq,reduceIte,e6];refine zaa tS ?_ cM;simp only[SS,reduceIte,qX,qV,qY];simp only[r15_9,SS,fC,reduceIte,qX];simp only[r15_12,SS,reduceIte,qX,e6];refine zaa tC ?_ c2;simp only[SS,reduceIte,qX,e7];refine zaa tP ?_ c3;simp only[SS,reduceIte,qX];exact⟨k',_,_,by omega,⟨_,_,_,hE',hL',hcg,by rfl,by rfl,rfl⟩,.refl⟩
 ·have hi:=hc.hi;have h0:=hc.h0;obtain⟨tC,tP,hUsq⟩:=next (zgz n i) (qqk hi) (qyi hi y1)
  have tS:=xdk (ds:=[]) hsM hF hbM (qC _) hL.pos.pos (qhr hc);have hcg:=zxy hL'.shM ⟨h1,h8⟩ (zmi h8 hW hK1 hpos ha hL').1 (qG (hF.all (k:=0) (qM _)).1 hF.lt);have c2:qJ [av,matC (zgz n i)]=true:=by simp only[qJ,hsM.closed,hUsq.closed,qA]
  have c3:qJ [matC T,matC (zgz n i)]=true:=rfl;simp only[l15_0,r15_8,SS,reduceCtorEq,reduceIte,e6];refine zaa tS ?_ cM;simp only[SS,reduceIte,qX,qV,qY];simp only[r15_9,SS,fC,reduceIte,qX];simp only[r15_12,SS,reduceIte,qX,e6];refine zaa tC ?_ c2;simp only[SS,reduceIte,qX,e7];refine zaa tP ?_ c3;simp only[SS,reduceIte,qX];exact⟨k',_,_,by omega,⟨_,_,_,hE',hL',hcg,by rfl,by rfl,rfl⟩,.refl⟩
theorem xdq{n:Nat}{M0:List (List Int)}{a:AV}(hsq:Sq n M0 a)(h5:n<=5)(hG:SmallG n M0)(hg:zkq n M0):
  ∃k M' T',Ends n M' T' k M0 (idM n)/\lead (rowF M') n=lead (rowF M0) n/\Red n (rowF M')/\LState n (16^n) (8*16^n) M0 M' T'/\Rt 15 [a] [] (.tup [.vec (zdm n M') n (some n),matC T',.int .i64 0]) []:=
 qyk hsq (wb16 hsq.lo h5) (qxw hG hg) (λs _=>(hG.bnd s s).2) hg.2
theorem zvd:FitN 8 BIG 16:=⟨by decide,by decide +kernel⟩
theorem zyb{n:Nat}{M:List (List Int)}(h:SmallG n M):Bnd 16 M:=by
 intro i j;have:=h.bnd i j;omega
theorem qbe{n:Nat}{M:List (List Int)}{ds:List Int}(hS:Shp n M)(hsy:∀i j,i<n->j<n->ent M i j=ent M j i)(hds:zeg BIG M n=some ds):valZ M ds=0↔∀k,k<n+1->0<lead (rowF M) k:=by
 have hsb:=(qdz hS).2 (λi j hi hj=>hsy i j hi hj);constructor
 ·intro hv
  have hdf:defB M ds=true:=by
   unfold valZ at hv;rw[hsb]at hv;cases e:defB M ds with
   |true=>rfl
   |false=>rw[e]at hv;simp at hv
  unfold defB at hdf;rw[hsb,xT,qas,zea hds]at hdf;intro k hk;exact(xce hds n (qC _) hdf).1 k (by omega)
 ·intro hp
  have hdf:defB M ds=true:=by
   unfold defB;rw[hsb,xT,qas,zea hds];intro t ht;rw[qar hds (λk hk=>hp k (by omega)) t ht];exact hp (t+1) (by omega)
  unfold valZ;rw[hsb,hdf];rfl
theorem kqu{n:Nat}{M:List (List Int)}{a:AV}(hG:SmallG n M)(ha:ImV M a)(hn:1<=n/\n<=8):Rt 46 [a] [] (.bool (decide (zkq n M))) []:=by
 have hS:=hG.shp;have hb:=zyb hG;have hsq:=zxy hS hn hb (qG (zvd.all (k:=0) (qM _)).1 zvd.lt);have t0:=mOf (n:=n) ha (by omega) (by rw[hS.len];omega) (λi hi=>hS.row i (by rw[hS.len]at hi;exact hi));obtain⟨ds,hds,hdf⟩:=zur zvd hb n hn.2;have hds':zqk BIG M=some ds:=by unfold zqk;rw[hS.len];exact hds
 obtain⟨d0,hd0,hd0f⟩:=qat (B:=BIG) zvd.one (λk hk=>(zvd.all (k:=k) (by omega)).2) hS hb;have hd0B:d0.natAbs<BIG:=by have:=(zvd.all hn.2).1;have:=zvd.lt;omega
 have t1:=zxn zee hsq hds';have t2:=mDet zee hsq.mat (by rw[hsq.len];omega) (λi hi=>by rw[hsq.len]at hi ⊢;exact hsq.cols i hi) hd0;obtain⟨v3,hv3,t3⟩:=zgv 10000 (by omega) (by omega);have t4:=zCmp (zbp hd0B) hv3;have hviff:=qbe hS hG.sym hds;have hcl:=hsq.closed;have c1:qJ [a]=true:=by simp only[qJ,ha.closed,qA]
 have c2:qJ [matC M]=true:=by simp only[qJ,hcl,qA]
 have c3:qJ [intV d0,v3]=true:=by simp only[qJ,(zbp hd0B).closed,hv3.closed,qA]
 refine oF o46 ?_;simp only[c46,r46_0,r46_1,SS,reduceCtorEq,reduceIte];refine zaa t0 ?_ c1;simp only[SS,reduceIte,qX];simp only[r46_2,SS,reduceIte,qX];refine zaa t1 ?_ c2;simp only[SS,fC,reduceIte,qX];refine⟨λh1=>?_,λh1=>?_⟩
 ·have hp:=hviff.1 h1;have hd0e:d0=lead (rowF M) n:=zqq hS (λt ht=>by have:=hp t (by omega);omega) hd0;refine zaa t2 ?_ c2 (zbp hd0B).closed;simp only[SS,fC,reduceIte,qX];refine zaa t3 ?_ rfl hv3.closed;simp only[SS,fC,reduceIte,qX];refine zaa t4 ?_ c3;simp only[SS,fC,reduceIte,qX]
  have e:decide ((if d0<10000 then(-1:Int)else if d0=10000 then 0 else 1)<=0)=decide (zkq n M):=by
   rw[decide_eq_decide];unfold zkq;rw[<-hd0e];constructor
   ·intro h;refine⟨hp,?_⟩;split at h
    ·omega
    ·split at h<;>omega
   ·rintro⟨_,h⟩;split
    ·omega
    ·split<;>omega
  rw[e];exact dR
 ·have hng:decide (zkq n M)=false:=decide_eq_false (λhg=>h1 (hviff.2 hg.1));have d1:decide (valZ M ds=0)=false:=decide_eq_false h1;rw[hng];simp only[d1];exact dR
end Go.Proofs.YtbjdfanphdfkdaaGreatDoor
namespace Go.Proofs.YtbjdfanphdfkdaaGreatDoor
open Go Go.AL Go.Proofs Go.Limb
theorem jxc{σ:Nat->Nat}{K N n:Nat}{rows:List (List Int)}(hσ:∀j,σ j=K+j):(bH N n rows).map (renB σ)=bO K N n rows:=by
 unfold bH bO;rw[List.map_cons,List.map_map];congr 1
 ·show some ((outS N n rows.length).map (AV.ren σ))=_
  congr 1;unfold outS outO;rw[List.map_append];congr 1
  ·unfold zqv zko;rw[List.map_map];refine xS λk _=>?_
   show AV.sl (σ (k+1)) 0 n 1 (some n)= .sl (K+k+1) 0 n 1 (some n)
   rw[hσ];rfl
  ·rw[List.map_replicate];rfl
 ·refine xS λr _=>?_
  show some ((i64z r).map (AV.ren σ))=some (i64z r)
  rw[zaq _ _ (zkp r)]
structure ChainR(n:Nat)(fork:Bool)(i:Nat)(R:List (List Int)):Prop where
 len:R.length=i
 row:∀s,s<i->(R.getD s []).length=n
 ent:∀s t,s<i->t<n->ent R s t=if s=t then 2 else if t<i/\(zce n fork s t=true\/zce n fork t s=true)then -1 else 0
def zrb(n:Nat)(fork:Bool)(i:Nat):Int:=if fork=true/\i+1=n/\3<n then(i:Int)-2 else(i:Int)-1
theorem zcx{n i k:Nat}{fork:Bool}:zce n fork i k=true↔(k:Int)=zrb n fork i:=by
 unfold zce zrb;split
 ·rw[beq_iff_eq];omega
 ·rw[beq_iff_eq];omega
theorem zed{n i k:Nat}{fork:Bool}(h:zce n fork i k=true):k<i:=by
 have:=zcx.1 h;unfold zrb at this;split at this<;>omega
theorem qhs{n:Nat}{fork:Bool}{R:List (List Int)}(h:ChainR n fork n R):R=zcc n fork:=by
 refine qay (n:=n) ⟨h.len,h.row⟩ (zdd _ _) λs t hs ht=>?_
 rw[h.ent s t hs ht];unfold zcc;rw[zcw hs ht];by_cases e:s=t
 ·rw[if_pos e,if_pos e]
 ·rw[if_neg e,if_neg e];by_cases e2:zce n fork s t=true\/zce n fork t s=true
  ·rw[if_pos ⟨ht,e2⟩,if_pos e2]
  ·rw[if_neg (λx=>e2 x.2),if_neg e2]
def zai(n i:Nat):List Int:=(List.replicate n 0).set i 2
theorem qel{R:List (List Int)}{i:Nat}(hl:R.length=i)(r:List Int)(s t:Nat):ent (R++[r]) s t=if s=i then r.getD t 0 else ent R s t:=by
 unfold ent;by_cases e:s=i
 ·rw[if_pos e,e,qZ (l:=R++[r]),qB (by omega),hl,qH];rfl
 ·rw[if_neg e];rcases yZ s i with h | h
  ·rw[qZ (l:=R++[r]),qD (by omega),<-qZ]
  ·rw[qZ (l:=R++[r]),xG (by simp;omega),qZ (l:=R),xG (by omega)]
theorem qql{n i t:Nat}(hi:i<n):(zai n i).getD t 0=if t=i then 2 else 0:=by
 unfold zai;rw[qZ,xU];by_cases e:i=t
 ·rw[if_pos e,if_pos (by simpa using hi),if_pos e.symm];rfl
 ·rw[if_neg e,if_neg (λx=>e x.symm),List.getElem?_replicate];split<;>rfl
theorem zhv{n i:Nat}{fork:Bool}{R:List (List Int)}(h:ChainR n fork i R)(hi:i<n)(hno:∀t,zce n fork i t=false):ChainR n fork (i+1) (R++[zai n i]):=by
 refine⟨by simp[h.len],λs hs=>?_,λs t hs ht=>?_⟩
 ·rcases(by omega:s<i\/s=i)with e | e
  ·rw[qZ,qD (by rw[h.len];exact e),<-qZ];exact h.row s e
  ·rw[e,qZ,qB (by rw[h.len];omega),h.len,qH];simp[zai]
 ·rw[qel h.len];by_cases e:s=i
  ·rw[if_pos e,qql hi];subst e;by_cases e2:t=s
   ·rw[if_pos e2,if_pos e2.symm]
   ·rw[if_neg e2,if_neg (λx=>e2 x.symm),if_neg];rintro⟨h1,h2 | h2⟩
    ·rw[hno]at h2;cases h2
    ·have:=zed h2;omega
  ·rw[if_neg e,h.ent s t (by omega) ht];by_cases e2:s=t
   ·rw[if_pos e2,if_pos e2]
   ·rw[if_neg e2,if_neg e2];by_cases e3:t<i/\(zce n fork s t=true\/zce n fork t s=true)
    ·rw[if_pos e3,if_pos ⟨by omega,e3.2⟩]
    ·rw[if_neg e3,if_neg];rintro⟨h1,h2⟩;rcases(by omega:t<i\/t=i)with e4 | e4
     ·exact e3 ⟨e4,h2⟩
     ·rw[e4]at h2;rcases h2 with h2 | h2
      ·have:=zed h2;omega
      ·rw[hno]at h2;cases h2
theorem zjo{n i k:Nat}{fork:Bool}{R:List (List Int)}(h:ChainR n fork i R)(hi:i<n)(hk:zce n fork i k=true):ChainR n fork (i+1) (setM (setM (R++[zai n i]) i k (-1)) k i (-1)):=by
 have hki:=zed hk
 have hone:∀t,zce n fork i t=true↔t=k:=by
  intro t;rw[zcx,<-zcx.1 hk];omega
 have hl:(R++[zai n i]).length=i+1:=by simp[h.len]
 have hrow:∀s,s<i+1->((R++[zai n i]).getD s []).length=n:=by
  intro s hs;rcases(by omega:s<i\/s=i)with e | e
  ·rw[qZ,qD (by rw[h.len];exact e),<-qZ];exact h.row s e
  ·rw[e,qZ,qB (by rw[h.len];omega),h.len,qH];simp[zai]
 have hset:∀(X:List (List Int)) (a b:Nat) (z:Int),(∀s,s<i+1->(X.getD s []).length=n)->X.length=i+1->a<i+1->∀s,s<i+1->((setM X a b z).getD s []).length=n:=by
  intro X a b z hX hXl ha s hs;unfold setM;rw[qZ,xU];by_cases e:a=s
  ·subst e;rw[if_pos rfl,if_pos (by omega),yV,xD];exact hX a hs
  ·rw[if_neg e,<-qZ];exact hX s hs
 have h1l:(setM (R++[zai n i]) i k (-1)).length=i+1:=by rw[zcq];exact hl
 have h1r:=hset _ i k (-1) hrow hl (by omega);refine⟨by rw[zcq];exact h1l,hset _ k i (-1) h1r h1l (by omega),λs t hs ht=>?_⟩;rw[zhp (by omega) (by rw[h1r k (by omega)];exact hi),zhp (by omega) (by rw[hrow i (by omega)];omega),qel h.len];by_cases a1:s=k/\t=i
 ·obtain⟨rfl,rfl⟩:=a1;rw[if_pos ⟨rfl,rfl⟩,if_neg (by omega),if_pos ⟨by omega,.inr hk⟩]
 ·rw[if_neg a1];by_cases a2:s=i/\t=k
  ·obtain⟨rfl,rfl⟩:=a2;rw[if_pos ⟨rfl,rfl⟩,if_neg (by omega),if_pos ⟨by omega,.inl hk⟩]
  ·rw[if_neg a2];by_cases e:s=i
   ·rw[if_pos e,qql hi];subst e;by_cases e2:t=s
    ·rw[if_pos e2,if_pos e2.symm]
    ·rw[if_neg e2,if_neg (λx=>e2 x.symm),if_neg];rintro⟨h1,h2 | h2⟩
     ·exact a2 ⟨rfl,(hone t).1 h2⟩
     ·have:=zed h2;omega
   ·rw[if_neg e,h.ent s t (by omega) ht];by_cases e2:s=t
    ·rw[if_pos e2,if_pos e2]
    ·rw[if_neg e2,if_neg e2];by_cases e3:t<i/\(zce n fork s t=true\/zce n fork t s=true)
     ·rw[if_pos e3,if_pos ⟨by omega,e3.2⟩]
     ·rw[if_neg e3,if_neg];rintro⟨h1,h2⟩;rcases(by omega:t<i\/t=i)with e4 | e4
      ·exact e3 ⟨e4,h2⟩
      ·rw[e4]at h2;rcases h2 with h2 | h2
       ·have:=zed h2;omega
       ·exact a1 ⟨(hone s).1 h2,e4⟩
set_option maxHeartbeats 4000000 in
theorem jxd{n:Nat}{fork:Bool}(hn:1<=n/\n<=8):Rt 43 [.int .i64 (n:Nat),.bool fork] [] (.sl 0 0 n 1 (some n)) (bH n n (zcc n fork)):=by
 refine oF o43 ?_;simp only[c43,r43_0,r43_1,SS,reduceCtorEq,reduceIte,qX,qU];refine⟨by decide,⟨by omega,by omega,by omega,by omega⟩,?_⟩;simp only[r43_2,SS,reduceIte,qX];have hb0:[some (List.replicate n (AV.vec [] 0 (some 0)))]=bH n n []:=rfl;rw[hb0]
 refine zax (λq E H=>∃i R,i+q=n/\ChainR n fork i R/\H=bH n n R/\E 0= .int .i64 (n:Nat)/\E 1= .bool fork/\E 5= .sl 0 0 n 1 (some n)/\E 11= .int .i64 (n:Nat)/\E 12= .int .i64 (i:Nat)) (n:=n)
  ⟨0,[],by omega,⟨rfl,λs h=>absurd h (by omega),λs t h=>absurd h (by omega)⟩,rfl,by rfl,by rfl,by rfl,by rfl,by rfl⟩ ?_
 rintro q E H ⟨i,R,hiq,hR,rfl,e0,e1,e5,e11,e12⟩;refine wM ?_;simp only[l43_0,r43_3,SS,reduceCtorEq,reduceIte,e11,e12];refine⟨λhlt=>?_,λhge=>?_⟩
 ·obtain⟨q,rfl⟩:∃q',q=q'+1:=⟨q-1,by omega⟩
  have hi:i<n:=by omega
  have hRl:=hR.len;have w5:=wS1 i (by omega);have w6:IntKind.i64.wrap ((i:Int)-1)=(i:Int)-1:=w64 (by omega) (by omega);have w7:IntKind.i64.wrap ((i:Int)-2)=(i:Int)-2:=w64 (by omega) (by omega);have w8:IntKind.i64.wrap ((n:Int)-1)=(n:Int)-1:=w64 (by omega) (by omega);have hbl:(bH n n R).length=i+1:=by rw[jwu,hRl]
  have go:getB (bH n n R++[some (i64z (List.replicate n 0))]) 0=some (outS n n i):=by
   have:getB (bH n n R) 0=some (outS n n i):=by rw[zhu,hRl]
   exact this
  have gol:=zmd (N:=n) (n:=n) (i:=i) (by omega);have hnew:=jwv (N:=n) (n:=n) (rows:=R) (List.replicate n 0) (by omega);rw[hRl]at hnew;simp only[r43_4,r43_5,SS,reduceCtorEq,reduceIte,qX,e0,e5,e12,qU,hbl,zuy,go,gol];refine⟨by decide,⟨by omega,by omega,by omega,by omega⟩,⟨by omega,by omega⟩,by omega,?_⟩;rw[hnew];have hrl:(R++[List.replicate n 0]).length=i+1:=by simp[hRl]
  have g0:getB (bH n n (R++[List.replicate n 0])) 0=some (outS n n (i+1)):=by rw[zhu,hrl]
  have gl:=zmd (N:=n) (n:=n) (i:=i+1) (by omega);have gg:=zht (N:=n) (n:=n) (i:=i+1) (k:=i) (by omega);have gr:=ziv (N:=n) (n:=n) (i:=i) (rows:=R++[List.replicate n 0]) (by omega)
  have grr:(R++[List.replicate n 0]).getD i []=List.replicate n 0:=by
   rw[qZ,qB (by omega),hRl,qH];simp
  rw[grr]at gr
  have eset:(R++[List.replicate n 0]).set i ((List.replicate n 0).set i 2)=R++[zai n i]:=by
   rw[xE _ _ (by omega),hRl,qH];rfl
  simp only[r43_6,SS,fC,reduceIte,qX,e5,qU,g0,gl,gg,gr,zca,List.length_replicate,zel,zju,eset];refine⟨⟨by omega,by omega⟩,by omega,⟨by omega,by omega⟩,by omega,?_⟩;simp only[r43_7,SS,reduceIte,qX,w6];have hrl2:(R++[zai n i]).length=i+1:=by simp[hRl]
  have k0:getB (bH n n (R++[zai n i])) 0=some (outS n n (i+1)):=by rw[zhu,hrl2]
  have tailS:∀k:Nat,zce n fork i k=true->k<i/\outS n n (i+1)=outS n n (i+1):=λk h=>⟨zed h,rfl⟩
  rcases(by cases fork<;>simp<;>omega:fork=false\/(fork=true/\i+1≠n)\/(fork=true/\i+1=n/\¬3<n)\/(fork=true/\i+1=n/\3<n))with hf | ⟨hf,h1⟩ | ⟨hf,h1,h2⟩ | ⟨hf,h1,h2⟩
  ·subst hf;have hprev:zrb n false i=(i:Int)-1:=by unfold zrb;rw[if_neg (by simp)]
   simp only[r43_8,SS,fC,reduceCtorEq,reduceIte,qX,e0,e1,w8];simp only[r43_10,SS,reduceIte,qX];refine⟨λhk0=>?_,λhk0=>?_⟩
   ·obtain⟨k,hk⟩:∃k:Nat,(i:Int)-1=(k:Int):=⟨((i:Int)-1).toNat,by omega⟩
    have hlk:zce n false i k=true:=zcx.2 (by rw[hprev];exact hk.symm);have hki:=zed hlk;have hnx:=zjo hR hi hlk;have gk:=zht (N:=n) (n:=n) (i:=i+1) (k:=k) (by omega);have r1:=ziv (N:=n) (n:=n) (i:=i) (rows:=R++[zai n i]) (by omega);have r2:=ziv (N:=n) (n:=n) (i:=k) (rows:=setM (R++[zai n i]) i k (-1)) (by rw[zcq];omega)
    have l1:((R++[zai n i]).getD i []).length=n:=by
     rw[qZ,qB (by omega),hRl,qH];simp[zai]
    have l2:((setM (R++[zai n i]) i k (-1)).getD k []).length=n:=by
     unfold setM;rw[qZ,qN (by omega),qD (by omega),<-qZ];exact hR.row k hki
    have s1:=zju (N:=n) (n:=n) (i:=i) (rows:=R++[zai n i]) (((R++[zai n i]).getD i []).set k (-1));have s1e:(R++[zai n i]).set i (((R++[zai n i]).getD i []).set k (-1))=setM (R++[zai n i]) i k (-1):=rfl;rw[s1e]at s1;have s2:=zju (N:=n) (n:=n) (i:=k) (rows:=setM (R++[zai n i]) i k (-1)) (((setM (R++[zai n i]) i k (-1)).getD k []).set i (-1));have s2e:(setM (R++[zai n i]) i k (-1)).set k (((setM (R++[zai n i]) i k (-1)).getD k []).set i (-1))=setM (setM (R++[zai n i]) i k (-1)) k i (-1):=rfl;rw[s2e]at s2;simp only[r43_11,SS,fC,reduceIte,qX,e5,hk,qU,k0,gl,gg,gk,r1,l1,zca,zel,s1,r2,l2,s2];refine⟨⟨by omega,by omega⟩,by omega,⟨by omega,by omega⟩,by omega,⟨by omega,by omega⟩,by omega,⟨by omega,by omega⟩,by omega,rfl,?_⟩;simp only[r43_12,SS,reduceIte,qX,e12,w5];refine⟨q,_,_,by omega,⟨i+1,_,by omega,hnx,rfl,?_,?_,?_,?_,?_⟩,.refl⟩
    all_goals simp only[UU,qX,reduceIte, *]
   ·have hno:∀t,zce n false i t=false:=by
     intro t;cases hb:zce n false i t with
     |false=>rfl
     |true=>have:=zcx.1 hb;rw[hprev]at this;omega
    have hnx:=zhv hR hi hno;simp only[r43_12,SS,reduceIte,qX,e12,w5];refine⟨q,_,_,by omega,⟨i+1,_,by omega,hnx,rfl,?_,?_,?_,?_,?_⟩,.refl⟩
    all_goals simp only[UU,qX,reduceIte, *]
  ·subst hf;have hprev:zrb n true i=(i:Int)-1:=by unfold zrb;rw[if_neg (λe=>h1 e.2.1)]
   have d1:decide ((i:Int)=(n:Int)-1)=false:=dF;simp only[r43_8,SS,fC,reduceCtorEq,reduceIte,qX,e0,e1,w8,d1];simp only[r43_10,SS,reduceIte,qX];refine⟨λhk0=>?_,λhk0=>?_⟩
   ·obtain⟨k,hk⟩:∃k:Nat,(i:Int)-1=(k:Int):=⟨((i:Int)-1).toNat,by omega⟩
    have hlk:zce n true i k=true:=zcx.2 (by rw[hprev];exact hk.symm);have hki:=zed hlk;have hnx:=zjo hR hi hlk;have gk:=zht (N:=n) (n:=n) (i:=i+1) (k:=k) (by omega);have r1:=ziv (N:=n) (n:=n) (i:=i) (rows:=R++[zai n i]) (by omega);have r2:=ziv (N:=n) (n:=n) (i:=k) (rows:=setM (R++[zai n i]) i k (-1)) (by rw[zcq];omega)
    have l1:((R++[zai n i]).getD i []).length=n:=by
     rw[qZ,qB (by omega),hRl,qH];simp[zai]
    have l2:((setM (R++[zai n i]) i k (-1)).getD k []).length=n:=by
     unfold setM;rw[qZ,qN (by omega),qD (by omega),<-qZ];exact hR.row k hki
    have s1:=zju (N:=n) (n:=n) (i:=i) (rows:=R++[zai n i]) (((R++[zai n i]).getD i []).set k (-1));have s1e:(R++[zai n i]).set i (((R++[zai n i]).getD i []).set k (-1))=setM (R++[zai n i]) i k (-1):=rfl;rw[s1e]at s1;have s2:=zju (N:=n) (n:=n) (i:=k) (rows:=setM (R++[zai n i]) i k (-1)) (((setM (R++[zai n i]) i k (-1)).getD k []).set i (-1));have s2e:(setM (R++[zai n i]) i k (-1)).set k (((setM (R++[zai n i]) i k (-1)).getD k []).set i (-1))=setM (setM (R++[zai n i]) i k (-1)) k i (-1):=rfl;rw[s2e]at s2;simp only[r43_11,SS,fC,reduceIte,qX,e5,hk,qU,k0,gl,gg,gk,r1,l1,zca,zel,s1,r2,l2,s2];refine⟨⟨by omega,by omega⟩,by omega,⟨by omega,by omega⟩,by omega,⟨by omega,by omega⟩,by omega,⟨by omega,by omega⟩,by omega,rfl,?_⟩;simp only[r43_12,SS,reduceIte,qX,e12,w5];refine⟨q,_,_,by omega,⟨i+1,_,by omega,hnx,rfl,?_,?_,?_,?_,?_⟩,.refl⟩
    all_goals simp only[UU,qX,reduceIte, *]
   ·have hno:∀t,zce n true i t=false:=by
     intro t;cases hb:zce n true i t with
     |false=>rfl
     |true=>have:=zcx.1 hb;rw[hprev]at this;omega
    have hnx:=zhv hR hi hno;simp only[r43_12,SS,reduceIte,qX,e12,w5];refine⟨q,_,_,by omega,⟨i+1,_,by omega,hnx,rfl,?_,?_,?_,?_,?_⟩,.refl⟩
    all_goals simp only[UU,qX,reduceIte, *]
  ·subst hf;have hprev:zrb n true i=(i:Int)-1:=by unfold zrb;rw[if_neg (λe=>h2 e.2.2)]
   have d1:decide ((i:Int)=(n:Int)-1)=true:=dT;have d2:decide ((3:Int)<(n:Nat))=false:=dF;simp only[r43_8,SS,fC,reduceCtorEq,reduceIte,qX,e0,e1,w8,d1,d2];simp only[r43_10,SS,reduceIte,qX];refine⟨λhk0=>?_,λhk0=>?_⟩
   ·obtain⟨k,hk⟩:∃k:Nat,(i:Int)-1=(k:Int):=⟨((i:Int)-1).toNat,by omega⟩
    have hlk:zce n true i k=true:=zcx.2 (by rw[hprev];exact hk.symm);have hki:=zed hlk;have hnx:=zjo hR hi hlk;have gk:=zht (N:=n) (n:=n) (i:=i+1) (k:=k) (by omega);have r1:=ziv (N:=n) (n:=n) (i:=i) (rows:=R++[zai n i]) (by omega);have r2:=ziv (N:=n) (n:=n) (i:=k) (rows:=setM (R++[zai n i]) i k (-1)) (by rw[zcq];omega)
    have l1:((R++[zai n i]).getD i []).length=n:=by
     rw[qZ,qB (by omega),hRl,qH];simp[zai]
    have l2:((setM (R++[zai n i]) i k (-1)).getD k []).length=n:=by
     unfold setM;rw[qZ,qN (by omega),qD (by omega),<-qZ];exact hR.row k hki
    have s1:=zju (N:=n) (n:=n) (i:=i) (rows:=R++[zai n i]) (((R++[zai n i]).getD i []).set k (-1));have s1e:(R++[zai n i]).set i (((R++[zai n i]).getD i []).set k (-1))=setM (R++[zai n i]) i k (-1):=rfl;rw[s1e]at s1;have s2:=zju (N:=n) (n:=n) (i:=k) (rows:=setM (R++[zai n i]) i k (-1)) (((setM (R++[zai n i]) i k (-1)).getD k []).set i (-1));have s2e:(setM (R++[zai n i]) i k (-1)).set k (((setM (R++[zai n i]) i k (-1)).getD k []).set i (-1))=setM (setM (R++[zai n i]) i k (-1)) k i (-1):=rfl;rw[s2e]at s2;simp only[r43_11,SS,fC,reduceIte,qX,e5,hk,qU,k0,gl,gg,gk,r1,l1,zca,zel,s1,r2,l2,s2];refine⟨⟨by omega,by omega⟩,by omega,⟨by omega,by omega⟩,by omega,⟨by omega,by omega⟩,by omega,⟨by omega,by omega⟩,by omega,rfl,?_⟩;simp only[r43_12,SS,reduceIte,qX,e12,w5];refine⟨q,_,_,by omega,⟨i+1,_,by omega,hnx,rfl,?_,?_,?_,?_,?_⟩,.refl⟩
    all_goals simp only[UU,qX,reduceIte, *]
   ·have hno:∀t,zce n true i t=false:=by
     intro t;cases hb:zce n true i t with
     |false=>rfl
     |true=>have:=zcx.1 hb;rw[hprev]at this;omega
    have hnx:=zhv hR hi hno;simp only[r43_12,SS,reduceIte,qX,e12,w5];refine⟨q,_,_,by omega,⟨i+1,_,by omega,hnx,rfl,?_,?_,?_,?_,?_⟩,.refl⟩
    all_goals simp only[UU,qX,reduceIte, *]
  ·subst hf;have hprev:zrb n true i=(i:Int)-2:=by unfold zrb;rw[if_pos ⟨rfl,h1,h2⟩]
   have d1:decide ((i:Int)=(n:Int)-1)=true:=dT;have d2:decide ((3:Int)<(n:Nat))=true:=dT;simp only[r43_8,SS,fC,reduceCtorEq,reduceIte,qX,e0,e1,w8,d1,d2];simp only[r43_9,SS,reduceIte,qX,w7];simp only[r43_10,SS,reduceIte,qX];refine⟨λhk0=>?_,λhk0=>?_⟩
   ·obtain⟨k,hk⟩:∃k:Nat,(i:Int)-2=(k:Int):=⟨((i:Int)-2).toNat,by omega⟩
    have hlk:zce n true i k=true:=zcx.2 (by rw[hprev];exact hk.symm);have hki:=zed hlk;have hnx:=zjo hR hi hlk;have gk:=zht (N:=n) (n:=n) (i:=i+1) (k:=k) (by omega);have r1:=ziv (N:=n) (n:=n) (i:=i) (rows:=R++[zai n i]) (by omega);have r2:=ziv (N:=n) (n:=n) (i:=k) (rows:=setM (R++[zai n i]) i k (-1)) (by rw[zcq];omega)
    have l1:((R++[zai n i]).getD i []).length=n:=by
     rw[qZ,qB (by omega),hRl,qH];simp[zai]
    have l2:((setM (R++[zai n i]) i k (-1)).getD k []).length=n:=by
     unfold setM;rw[qZ,qN (by omega),qD (by omega),<-qZ];exact hR.row k hki
    have s1:=zju (N:=n) (n:=n) (i:=i) (rows:=R++[zai n i]) (((R++[zai n i]).getD i []).set k (-1));have s1e:(R++[zai n i]).set i (((R++[zai n i]).getD i []).set k (-1))=setM (R++[zai n i]) i k (-1):=rfl;rw[s1e]at s1;have s2:=zju (N:=n) (n:=n) (i:=k) (rows:=setM (R++[zai n i]) i k (-1)) (((setM (R++[zai n i]) i k (-1)).getD k []).set i (-1));have s2e:(setM (R++[zai n i]) i k (-1)).set k (((setM (R++[zai n i]) i k (-1)).getD k []).set i (-1))=setM (setM (R++[zai n i]) i k (-1)) k i (-1):=rfl;rw[s2e]at s2;simp only[r43_11,SS,fC,reduceIte,qX,e5,hk,qU,k0,gl,gg,gk,r1,l1,zca,zel,s1,r2,l2,s2];refine⟨⟨by omega,by omega⟩,by omega,⟨by omega,by omega⟩,by omega,⟨by omega,by omega⟩,by omega,⟨by omega,by omega⟩,by omega,rfl,?_⟩;simp only[r43_12,SS,reduceIte,qX,e12,w5];refine⟨q,_,_,by omega,⟨i+1,_,by omega,hnx,rfl,?_,?_,?_,?_,?_⟩,.refl⟩
    all_goals simp only[UU,qX,reduceIte, *]
   ·have hno:∀t,zce n true i t=false:=by
     intro t;cases hb:zce n true i t with
     |false=>rfl
     |true=>have:=zcx.1 hb;rw[hprev]at this;omega
    have hnx:=zhv hR hi hno;simp only[r43_12,SS,reduceIte,qX,e12,w5];refine⟨q,_,_,by omega,⟨i+1,_,by omega,hnx,rfl,?_,?_,?_,?_,?_⟩,.refl⟩
    all_goals simp only[UU,qX,reduceIte, *]
 ·have hin:i=n:=by omega
  subst hin;have e:=qhs hR;subst e;simp only[r43_13,SS,reduceIte,qX,e5];exact kR
theorem xdr{P:Heap}{m o N n:Nat}{rows:List (List Int)}(hm:m<=o)(ho:P.length=o)(hN:rows.length=N)(hn:∀i,i<N->(rows.getD i []).length=n):frzI m (P++bO o N n rows) 3 (.sl o 0 N 1 (some N))=some (.vec (zdm n rows) N (some N)):=by
 have e0:outO o N n rows.length=zko o n N:=by
  unfold outO;rw[hN,qH,qO,xQ]
 have key:(zko o n N).mapM (frzI m (P++bO o N n rows) 2)=some (zdm n rows):=by
  have:zdm n rows=(List.range N).map λk=>AV.vec (i64z (rows.getD k [])) n (some n):=by
   refine xB (by simp[zdm,hN]) λk h1 h2=>?_
   simp only[zdm,List.getElem_map,List.getElem_range];have hk:k<rows.length:=by simpa[zdm]using h1
   rw[qZ,qE hk];rfl
  rw[this];unfold zko;rw[List.mapM_map]
  have:∀l:List Nat,(∀k∈l,k<N)->l.mapM (λk=>frzI m (P++bO o N n rows) 2 (.sl (o+k+1) 0 n 1 (some n)))=some (l.map λk=>AV.vec (i64z (rows.getD k [])) n (some n)):=by
   intro l
   induction l with
   |nil=>intro _;rfl
   |cons k l ih=>
    intro h;have hk:=h k (by simp)
    have e:frzI m (P++bO o N n rows) 2 (.sl (o+k+1) 0 n 1 (some n))=some (.vec (i64z (rows.getD k [])) n (some n)):=by
     rw[frzI];have hl:=hn k hk;simp only[show¬o+k+1<m by omega,if_false,znl ho (show k<rows.length by omega),need,yJ,xI,zca,hl,qC,if_true,xO];rw[qI (by rw[zca];omega),zuz];rfl
    rw[xV,e,ih (λx hx=>h x (by simp[hx]))];rfl
  exact this _ (λk hk=>List.mem_range.1 hk)
 rw[frzI];simp only[show¬o<m by omega,if_false,zgj ho,e0,need,yJ,xI,zgc,qC,if_true,xO];rw[qI (by rw[zgc];omega),key];rfl
def latC(d k:Int)(l q:List Int)(c c2:Option Nat):List AV:=[.int .u8 d,.int .u8 k,.vec (i8z l) l.length c,.vec (i8z q) q.length c2]
def tP2(d k:Int)(l q:List Int)(c c2:Option Nat)(j:Nat):Heap:=[some (latC d k l q c c2),some (zdq l c j)]
theorem zjp(d kd:Int)(l q:List Int)(c c2:Option Nat):qJ (latC d kd l q c c2)=true:=by
 simp only[latC,qJ,AV.closed,qA]
theorem zde(l:List Int)(c:Option Nat)(j:Nat):qJ (zdq l c j)=true:=by
 simp only[zdq,qJ,AV.closed,qA]
theorem qqm{d kd:Int}{l q:List Int}{c c2:Option Nat}{j n:Nat}{M:List (List Int)}{E:Env}{Q:Post}(h:zmc l)(hj:j<=l.length)(hn:1<=n/\n<=8)(hG:SmallG n M)
  (e5:E 5= .ptr 1 0) (e6:E 6= .int .i64 (n:Nat)) (e7:E 7= .sl 2 0 n 1 (some n))
  (hQ:∀E' H',E' 4=(if zkq n M then .vec (zdm n M) n (some n)else .sl 2 0 n 1 (some n))->H'=(if zkq n M then tP2 d kd l q c c2 j else tP2 d kd l q c c2 (zak l j n)++bO 2 n n (diaM l j n 2))->Q .ret E' H'):
  Wg 0 74 (.seq (.seq (.reg r17_19 none) (.cond (.t 69) (.seq (.reg r17_20 none) .ret) .skip)) (.seq (.reg r17_21 none) .ret)) E (tP2 d kd l q c c2 j++bO 2 n n M) Q:=by
 refine W.weak (qcj 2 3 (qM _) (by simp[tP2,bO]) (λi cs hi hg=>?_)) ?_
 ·rcases(by omega:i=0\/i=1)with rfl | rfl
  ·obtain rfl:latC d kd l q c c2=cs:=by simpa[tP2]using hg
   exact zbs _ _ (zjp ..)
  ·obtain rfl:zdq l c j=cs:=by simpa[tP2]using hg
   exact zbs _ _ (zde ..)
 have htk:(tP2 d kd l q c c2 j++bO 2 n n M).take 2=tP2 d kd l q c c2 j:=rfl;rw[htk];have hfz:=xdr (P:=tP2 d kd l q c c2 j) (m:=2) (o:=2) (qC _) rfl hG.shp.len hG.shp.row;have f5:frzE 2 3 (tP2 d kd l q c c2 j++bO 2 n n M) E 5= .ptr 1 0:=by unfold frzE;rw[e5,if_pos (by rfl)]
 have f6:frzE 2 3 (tP2 d kd l q c c2 j++bO 2 n n M) E 6= .int .i64 (n:Nat):=by unfold frzE;rw[e6,if_pos (by rfl)]
 have f7:frzE 2 3 (tP2 d kd l q c c2 j++bO 2 n n M) E 7= .vec (zdm n M) n (some n):=by unfold frzE;rw[e7,if_neg (by simp[AV.under]),hfz];rfl
 generalize frzE 2 3 (tP2 d kd l q c c2 j++bO 2 n n M) E=E1 at*
 have hIn:∀s t,In64 (ent M s t):=by
  intro s t;have:=hG.bnd s t;unfold In64;omega
 have hIm:ImV M (.vec (zdm n M) n (some n)):=qef hG.shp.len hG.shp.row hIn;have tG:=kqu hG hIm hn;have c7:qJ [.vec (zdm n M) n (some n)]=true:=by simp only[qJ,hIm.closed,qA]
 refine wM ?_;simp only[r17_19,SS,reduceIte,f7];refine zaa tG ?_ c7;simp only[SS,reduceIte,qX];refine⟨λhb=>?_,λhb=>?_⟩
 ·have hng:¬zkq n M:=by simpa using hb
  have tD:=zmg (c:=c) (most:=2) h hj hn (by omega);have heff:=zmh (H:=tP2 d kd l q c c2 j) (id:=1) (n:=n) (cs':=zdq l c (zak l j n)) (M:=diaM l j n 2) (by show 1<2;omega);simp only[r17_20,SS,reduceIte,qX,f5,f6];refine callA_one (id:=1) (cs:=zdq l c j) (cs':=zdq l c (zak l j n)) (L:=bO 1 n n (diaM l j n 2)) tD rfl rfl rfl (zde ..) (zde ..) ?_;simp only[zcy];rw[heff];simp only[SS,reduceIte,qX];refine hQ _ _ ?_ ?_
  ·simp only[UU,qX,reduceIte];rw[if_neg hng];rfl
  ·rw[if_neg hng];rfl
 ·have hg:zkq n M:=by simpa using hb
  simp only[r17_21,SS,reduceIte,qX,f7];refine hQ _ _ ?_ ?_
  ·simp only[UU,qX,reduceIte];rw[if_pos hg]
  ·rw[if_pos hg]
theorem xds{l:List Int}{kind n:Nat}:rawK l kind n<=l.length:=by
 have hz:(0:Nat)<=l.length:=qM _;unfold rawK;split
 ·exact zhr hz _
 split
 ·exact zhr hz 1
 split
 ·exact zhr hz 1
 ·exact zhr hz _
theorem qqn(d kd:Int)(l q:List Int)(c c2:Option Nat)(j j':Nat)(X:Heap):(tP2 d kd l q c c2 j++X).set 1 (some (zdq l c j'))=tP2 d kd l q c c2 j'++X:=rfl
theorem qht{d kd:Int}{l q:List Int}{c c2:Option Nat}{n:Nat}{E:Env}{Q:Post}(h:zmc l)(hk:0<=kd/\kd<256)(hn:1<=n/\n<=8)
  (e2:E 2= .ptr 0 0) (e5:E 5= .ptr 1 0) (e6:E 6= .int .i64 (n:Nat))
  (hQ:∀E',E' 5= .ptr 1 0->E' 6= .int .i64 (n:Nat)->E' 7= .sl 2 0 n 1 (some n)->Q .normal E' (tP2 d kd l q c c2 (rawK l (kd%8).toNat n)++bO 2 n n (rawM l (kd%8).toNat n))):
  Wg 0 74 (.seq (.reg r17_4 none) (.block 0 (.seq (.seq (.reg r17_5 none) (.cond (.t 24) .skip (.seq (.reg r17_6 none) (.cond (.t 24) .skip (.seq (.reg r17_7 none) (.cond (.t 24) .skip (.reg r17_8 none))))))) (.cond (.t 24) (.reg r17_9 none) (.seq (.reg r17_10 none) (.cond (.t 32) (.seq (.reg r17_11 none) (.reg r17_12 (some [(2,6),(4,6)]))) (.seq (.reg r17_13 none) (.cond (.t 45) (.seq (.reg r17_14 none) (.reg r17_15 (some [(4,10),(8,10)]))) (.seq (.reg r17_16 none) (.cond (.t 62) (.reg r17_17 none) (.reg r17_18 none))))))))))) E (tP2 d kd l q c c2 0) Q:=by
 have hz:(0:Nat)<=l.length:=qM _;have g0:getB (tP2 d kd l q c c2 0) 0=some (latC d kd l q c c2):=rfl;have g1:getB (tP2 d kd l q c c2 0) 1=some (zdq l c 0):=rfl;have hrem:Int.tmod kd 8=kd%8:=xY hk.1;have tGen:=qxs (c:=c) h hz hn;have h9:(1:Int)<=9/\(9:Int)<=9:=by omega
 have tD9:=zmg (c:=c) (most:=9) h hz hn (by omega);have tD1:=zmg (c:=c) (most:=1) h hz hn (by omega);have effG:=zmh (H:=tP2 d kd l q c c2 0) (id:=1) (n:=n) (cs':=zdq l c (zak l 0 (n+triK n))) (M:=genM l 0 n) (by show 1<2;omega);have eff9:=zmh (H:=tP2 d kd l q c c2 0) (id:=1) (n:=n) (cs':=zdq l c (zak l 0 n)) (M:=diaM l 0 n 9) (by show 1<2;omega);have eff1:=zmh (H:=tP2 d kd l q c c2 0) (id:=1) (n:=n) (cs':=zdq l c (zak l 0 n)) (M:=diaM l 0 n 1) (by show 1<2;omega);refine wM ?_;simp only[r17_4,SS,fC,reduceIte,qW,qX,qK,e2,g0,latC];refine⟨by decide,?_⟩;rw[hrem];rcases(by omega:kd%8=0\/kd%8=1\/kd%8=2\/kd%8=3\/kd%8=4\/kd%8=5\/kd%8=6\/kd%8=7)with e | e | e | e | e | e | e | e
 all_goals
  rw[e]at hQ ⊢;simp only[r17_5,r17_6,r17_7,r17_8,r17_9,r17_10,r17_11,r17_13,r17_14,r17_16,r17_17,r17_18,SS,fC,reduceIte,qX,e5,e6,Int.reduceEq,decide_true,decide_false]
 iterate 4
  ·refine callA_one (id:=1) (cs:=zdq l c 0) (cs':=zdq l c (zak l 0 (n+triK n))) (L:=bO 1 n n (genM l 0 n)) tGen rfl rfl rfl (zde ..) (zde ..) ?_;simp only[zcy];rw[effG];simp only[SS,reduceIte,qX];exact hQ _ (by exact e5) (by exact e6) (by rfl)
 ·have tC:=jxd (n:=n) (fork:=false) (by omega);have hS:Shp n (zcc n false):=zdd _ _;have hcl:qJ [.int .i64 (n:Nat),.bool false]=true:=rfl
  have effC:zaf (effs (zag [] (tP2 d kd l q c c2 0).length) 0 (bH n n (zcc n false))) (tP2 d kd l q c c2 0++List.replicate (bH n n (zcc n false)).length none)=tP2 d kd l q c c2 0++bO 2 n n (zcc n false):=by
   have:=zhn (H:=tP2 d kd l q c c2 0) (zag [] (tP2 d kd l q c c2 0).length) (λi=>zbn _ i) (bH n n (zcc n false)) [];simp only[xJ,xZ]at this;rw[this];exact congrArg (tP2 d kd l q c c2 0++ ·) (jxc (K:=2) (λi=>zbn 2 i))
  have hv:AV.ren (zag [] (tP2 d kd l q c c2 0).length) (.sl 0 0 n 1 (some n))= .sl 2 0 n 1 (some n):=rfl;have tB:=qpq (c:=c) (k:=0) (m:=3) h hz (by omega)
  have ko:∀j,getB (tP2 d kd l q c c2 j++bO 2 n n (zcc n false)) 2=some (outO 2 n n n):=λj=>by
   have:=zgj (P:=tP2 d kd l q c c2 j) (o:=2) (N:=n) (n:=n) (rows:=zcc n false) rfl;rw[hS.len]at this;exact this
  have kl:=zme (o:=2) (N:=n) (n:=n) (i:=n) (qC _);have kg:=zmf (o:=2) (N:=n) (n:=n) (i:=n) (k:=0) (by omega);have gr:=λj=>znl (P:=tP2 d kd l q c c2 j) (o:=2) (N:=n) (n:=n) (rows:=zcc n false) rfl (i:=0) (by rw[hS.len];omega)
  have lr:=hS.row 0 (by omega)
  have gz:(i64z ((zcc n false).getD 0 [])).getD 0 .junk= .int .i64 2:=by
   rw[zlu _ _ (by omega)];have:=zfs (fork:=false) (show 0<n by omega);unfold ent at this;rw[this]
  have hbz:=zbc l 0 (show(1:Int)<=3 by decide);have w2:IntKind.i64.wrap (2+zbx l 0%3)=2+zbx l 0%3:=w64 (by omega) (by omega);have hs:=λj=>zxx (P:=tP2 d kd l q c c2 j) (o:=2) (N:=n) (n:=n) (rows:=zcc n false) rfl (i:=0) (((zcc n false).getD 0 []).set 0 (2+zbx l 0%3))
  refine zeb tC hcl ?_;simp only[zcy,SS,reduceIte,qX];rw[effC,hv];have z0:Int.toNat 0=0:=rfl;simp only[r17_12,SS,fC,reduceIte,qW,qX,z0,ko,kl,kg,gr,lr,gz,zca,e5];refine⟨by omega,by omega,by omega,by omega,?_⟩;refine zgx (id:=1) tB rfl rfl ?_;simp only[zcy,zaf,keys,qO,xQ,SS,reduceIte,qX,qqn,z0,gr,lr,zca,w2,zel]
  have hr:rawM l 4 n=(zcc n false).set 0 (((zcc n false).getD 0 []).set 0 (2+zbx l 0%3)):=by
   unfold rawM;rw[if_neg (by decide),if_pos rfl];unfold qhn;rw[zfs (by omega)];rfl
  have h3:=hs (zit l 0);rw[<-hr]at h3;refine⟨⟨by omega,by omega⟩,by omega,rfl,?_⟩;refine Eq.mp (congrArg _ h3.symm) ?_;exact hQ _ (by exact e5) (by exact e6) (by rfl)
 ·have tC:=jxd (n:=n) (fork:=true) (by omega);have hS:Shp n (zcc n true):=zdd _ _;have hcl:qJ [.int .i64 (n:Nat),.bool true]=true:=rfl
  have effC:zaf (effs (zag [] (tP2 d kd l q c c2 0).length) 0 (bH n n (zcc n true))) (tP2 d kd l q c c2 0++List.replicate (bH n n (zcc n true)).length none)=tP2 d kd l q c c2 0++bO 2 n n (zcc n true):=by
   have:=zhn (H:=tP2 d kd l q c c2 0) (zag [] (tP2 d kd l q c c2 0).length) (λi=>zbn _ i) (bH n n (zcc n true)) [];simp only[xJ,xZ]at this;rw[this];exact congrArg (tP2 d kd l q c c2 0++ ·) (jxc (K:=2) (λi=>zbn 2 i))
  have hv:AV.ren (zag [] (tP2 d kd l q c c2 0).length) (.sl 0 0 n 1 (some n))= .sl 2 0 n 1 (some n):=rfl;have tB:=qpq (c:=c) (k:=0) (m:=2) h hz (by omega)
  have ko:∀j,getB (tP2 d kd l q c c2 j++bO 2 n n (zcc n true)) 2=some (outO 2 n n n):=λj=>by
   have:=zgj (P:=tP2 d kd l q c c2 j) (o:=2) (N:=n) (n:=n) (rows:=zcc n true) rfl;rw[hS.len]at this;exact this
  have kl:=zme (o:=2) (N:=n) (n:=n) (i:=n) (qC _);have kg:=zmf (o:=2) (N:=n) (n:=n) (i:=n) (k:=(n-1)) (by omega);have gr:=λj=>znl (P:=tP2 d kd l q c c2 j) (o:=2) (N:=n) (n:=n) (rows:=zcc n true) rfl (i:=(n-1)) (by rw[hS.len];omega)
  have lr:=hS.row (n-1) (by omega)
  have gz:(i64z ((zcc n true).getD (n-1) [])).getD (n-1) .junk= .int .i64 2:=by
   rw[zlu _ _ (by omega)];have:=zfs (fork:=true) (show(n-1)<n by omega);unfold ent at this;rw[this]
  have hbz:=zbc l 0 (show(1:Int)<=2 by decide);have w2:IntKind.i64.wrap (2+zbx l 0%2)=2+zbx l 0%2:=w64 (by omega) (by omega);have hs:=λj=>zxx (P:=tP2 d kd l q c c2 j) (o:=2) (N:=n) (n:=n) (rows:=zcc n true) rfl (i:=(n-1)) (((zcc n true).getD (n-1) []).set (n-1) (2+zbx l 0%2))
  refine zeb tC hcl ?_;simp only[zcy,SS,reduceIte,qX];rw[effC,hv];have w1:IntKind.i64.wrap ((n:Int)-1)=((n-1:Nat):Int):=wQ (by omega);simp only[r17_15,SS,fC,reduceIte,qX,w1,qU,ko,kl,kg,gr,lr,gz,zca,e5,e6];refine⟨⟨by omega,by omega⟩,by omega,⟨by omega,by omega⟩,by omega,?_⟩;refine zgx (id:=1) tB rfl rfl ?_;simp only[zcy,zaf,keys,qO,xQ,SS,reduceIte,qX,qqn,qU,gr,lr,zca,w2,zel]
  have hr:rawM l 5 n=(zcc n true).set (n-1) (((zcc n true).getD (n-1) []).set (n-1) (2+zbx l 0%2)):=by
   unfold rawM;rw[if_neg (by decide),if_neg (by decide),if_pos rfl];unfold qhn;rw[zfs (by omega)];rfl
  have h3:=hs (zit l 0);rw[<-hr]at h3;refine⟨⟨by omega,by omega⟩,by omega,?_,?_⟩
  ·have hne:2+(n-1)≠0:=by omega
   generalize 2+(n-1)=s at hne;simp[dynB,zhg];exact hne
  refine Eq.mp (congrArg _ h3.symm) ?_;exact hQ _ (by exact e5) (by exact e6) (by rfl)
 ·refine callA_one (id:=1) (cs:=zdq l c 0) (cs':=zdq l c (zak l 0 n)) (L:=bO 1 n n (diaM l 0 n 9)) tD9 rfl rfl rfl (zde ..) (zde ..) ?_;simp only[zcy];rw[eff9];simp only[SS,reduceIte,qX];exact hQ _ (by exact e5) (by exact e6) (by rfl)
 ·refine callA_one (id:=1) (cs:=zdq l c 0) (cs':=zdq l c (zak l 0 n)) (L:=bO 1 n n (diaM l 0 n 1)) tD1 rfl rfl rfl (zde ..) (zde ..) ?_;simp only[zcy];rw[eff1];simp only[SS,reduceIte,qX];exact hQ _ (by exact e5) (by exact e6) (by rfl)
theorem kqv{d kd most:Int}{l q:List Int}{c c2:Option Nat}{n:Nat}(h:zmc l)(hd:0<=d/\d<256)(hk:0<=kd/\kd<256)(hm:1<=most/\most<=8)(hn:(n:Int)=1+d%most):
  Rt 17 [.agg (latC d kd l q c c2),.int .i64 most] [] (.vec (zdm n (zqx l (kd%8).toNat n)) n (some n)) []:=by
 have hz:(0:Nat)<=l.length:=qM _;have hmod:=yQ d (show 0<most by omega);have hmod0:=yB d (show most≠0 by omega);have hn8:1<=n/\n<=8:=by omega
 have g0:getB [some (latC d kd l q c c2)] 0=some (latC d kd l q c c2):=rfl;refine oFW o17 ?_;unfold c17;refine wW ?_;simp only[r17_0,SS];refine wW ?_;simp only[r17_1,SS,fC,reduceIte,qW,qX,qK];refine⟨by show 3<=4;omega,⟨rfl,rfl⟩,?_⟩;have eH:([some (latC d kd l q c c2),some (setL [AV.vec [] 0 (some 0),AV.int IntKind.i64 0] 0 ((latC d kd l q c c2).getD 2 AV.junk).cells)]:Heap)=tP2 d kd l q c c2 0:=rfl;rw[eH];have g1:getB (tP2 d kd l q c c2 0) 0=some (latC d kd l q c c2):=rfl;have gd:(latC d kd l q c c2).getD 0 .junk= .int .u8 d:=rfl;have gl:(latC d kd l q c c2).length=4:=rfl;have wd:IntKind.i64.wrap d=d:=w64 (by omega) (by omega);have et:Int.tmod d most=d%most:=xY hd.1;have wm:IntKind.i64.wrap (d%most)=d%most:=w64 (by omega) (by omega);have wn:IntKind.i64.wrap (1+d%most)=(n:Int):=by rw[<-hn];exact w64 (by omega) (by omega)
 refine wW ?_;simp only[r17_2,SS,fC,reduceIte,qX,qK,g1,gd,gl,wd,et,wn];refine⟨by omega,?_⟩;refine wW ?_;simp only[r17_3,SS];refine zgr (qht h hk hn8 (by rfl) (by rfl) (by rfl) λE1 f5 f6 f7=>?_);simp only[SS];refine qqm h xds hn8 (zxv hn8.1) f5 f6 f7 λE2 H2 e4 eH2=>?_
 refine⟨.inl rfl,_,rfl,?_⟩;rw[e4,eH2];unfold zqx;by_cases hg:zkq n (rawM l (kd%8).toNat n)
 ·rw[if_pos hg,if_pos hg,if_pos hg];exact .freeze 1 _ _ _ rfl (by intro i cs h;omega)
 ·rw[if_neg hg,if_neg hg,if_neg hg];have hS:=zqw l (rawK l (kd%8).toNat n) n 2;have:=xzv (P:=tP2 d kd l q c c2 (zak l (rawK l (kd%8).toNat n) n)) (o:=2) rfl hS.len hS.row;exact .freeze 3 _ _ _ this (by intro i cs h;omega)
open Go.Det
theorem kaj{d kd most:Int}{l q:List Int}{c c2:Option Nat}{n:Nat}(h:zmc l)(hd:0<=d/\d<256)(hk:0<=kd/\kd<256)(hm:1<=most/\most<=5)(hn:(n:Int)=1+d%most):
  ∃k M' T',Ends n M' T' k (zqx l (kd%8).toNat n) (idM n)/\lead (rowF M') n=lead (rowF (zqx l (kd%8).toNat n)) n/\Red n (rowF M')/\LState n (16^n) (8*16^n) (zqx l (kd%8).toNat n) M' T'/\Rt 5 [.agg (latC d kd l q c c2),.int .i64 most] [] (.vec (zdm n M') n (some n)) []:=by
 have hmod:=yQ d (show 0<most by omega);have hmod0:=yB d (show most≠0 by omega);have hn8:1<=n/\n<=8:=by omega
 have tG:=kqv (c:=c) (c2:=c2) (q:=q) h hd hk (by omega:1<=most/\most<=8) hn;obtain⟨hG,hg⟩:=xcy (l:=l) (kind:=(kd%8).toNat) hn8.1 hn8.2;generalize zqx l (kd%8).toNat n=M0 at*;have hS:=hG.shp
 have hIn:∀s t,In64 (ent M0 s t):=by
  intro s t;have:=hG.bnd s t;unfold In64;omega
 have hIm:ImV M0 (.vec (zdm n M0) n (some n)):=qef hS.len hS.row hIn;have tO:=mOf (n:=n) hIm (by omega) (by rw[hS.len];omega) (λi hi=>hS.row i (by rw[hS.len]at hi;exact hi));have hsq:=zxy hS hn8 (zyb hG) (qG (zvd.all (k:=0) (qM _)).1 zvd.lt);obtain⟨k,M',T',hE,hdt,hred,hL,tR⟩:=xdq hsq (by omega) hG hg;refine⟨k,M',T',hE,hdt,hred,hL,?_⟩;have c1:qJ [.agg (latC d kd l q c c2),.int .i64 most]=true:=by simp only[qJ,AV.closed,zjp,qA]
 have c2':qJ [.vec (zdm n M0) n (some n)]=true:=by simp only[qJ,hIm.closed,qA]
 have c3:qJ [matC M0]=true:=by simp only[qJ,hsq.closed,qA]
 have g0:getB [some (latC d kd l q c c2)] 0=some (latC d kd l q c c2):=rfl;refine oF o5 ?_;simp only[c5,r5_0,r5_1,SS,reduceCtorEq,reduceIte,qX,g0];have et4:List.take 4 (latC d kd l q c c2)=latC d kd l q c c2:=rfl;refine⟨by show 4<=4;omega,?_⟩;rw[et4];refine zaa tG ?_ c1 hIm.closed;simp only[zcy,SS,reduceIte,qX];refine zaa tO ?_ c2' hsq.closed;simp only[zcy,SS,reduceIte,qX];refine zaa tR ?_ c3 (by simp only[AV.closed,qJ,qA];rfl);simp only[zcy,SS,reduceIte,qX,qV,qY,r5_2];exact⟨.inl trivial,_,rfl,.freeze 1 _ _ _ rfl (by intro i cs h;omega)⟩
end Go.Proofs.YtbjdfanphdfkdaaGreatDoor
namespace Go.Proofs.YtbjdfanphdfkdaaGreatDoor
open Go Go.AL Go.Proofs
theorem qqo{P:Program}{Γ:Glob}{n0:Nat}{E:Env}{H:Heap}{d:Option Nat}{g:Nat}{want:Bool}{k:CK}{os:List COp}{Q:List FP->Env->Heap->Prop}(h:E g= .bool want):regA P Γ n0 (⟨d,some (g,want),k⟩::os) E H Q=regA P Γ n0 (⟨d,none,k⟩::os) E H Q:=by
 rw[zpd,h];simp only[qfo,zbu,zjf h,true_implies];apply propext;refine⟨λx=>x.1,λx=>⟨x,λe=>?_⟩⟩;cases want<;>simp at e
open Go.Limb Go.Det
def cntB(l:List Bool)(i:Nat):Nat:=(l.take i).count true
theorem jcl{l:List Bool}{i:Nat}(h:i<l.length):cntB l (i+1)=cntB l i+(if l.getD i false=true then 1 else 0):=by
 unfold cntB;rw[List.take_succ,qE h,List.count_append,qZ,qE h];cases l[i]<;>rfl
theorem xgc(l:List Bool)(i:Nat):cntB l i<=i:=Nat.le_trans List.count_le_length (by rw[yY];omega)
def xft(h:AV)(L:List AV)(bs:List Bool):Prop:= ∀i,i<L.length->∃b t,L[i]?=some b/\b.closed=true/\t.closed=true/\Rt 9 [b,h,.int .i64 200000] [] (.tup [t,.bool (bs.getD i false),.int .i64 0]) []
def qif(n:Nat)(h:AV):Prop:= ∃d:Int,Rt 6 [h] [] (.int .i64 d) []/\(40<d\/∃L c bs,Rt 8 [.int .i64 (n:Int),.int .i64 d] [] (.tup [.vec L L.length c,.int .i64 0]) []/\AV.closed (.vec L L.length c)=true/\L.length<2^40/\bs.length=L.length/\xft h L bs/\cntB bs L.length=1)
theorem xgd{L:List AV}{N:Nat}{bs:List Bool}{cc:Option Nat}{h v6:AV}{P:List AV}(hN:L.length=N)(hN2:N<2^40)(hb:bs.length=N)(hh:h.closed=true)(hF:xft h L bs)
  {E:Env} {Q:Post} (e3:E 3=h) (e6:E 6=v6) (e7:E 7= .int .i64 0) (e27:E 27= .vec L N cc) (e28:E 28= .int .i64 (N:Int)) (e29:E 29= .int .i64 0)
  (hQ:∀E',E' 6=v6->E' 7= .int .i64 ((cntB bs N:Nat):Int)->Q (.exit 0) E' [some P]):
  Wg 0 55 (.loop l3_0) E [some P] Q:=by
 refine zax (λq E H=>∃i:Nat,i+q=N/\H=[some P]/\E 3=h/\E 6=v6/\E 7= .int .i64 ((cntB bs i:Nat):Int)/\E 27= .vec L N cc/\E 28= .int .i64 (N:Int)/\E 29= .int .i64 (i:Int)) (n:=N)
  ⟨0,by omega,rfl,e3,e6,e7,e27,e28,e29⟩ ?_
 clear e3 e6 e7 e27 e28 e29 E;rintro q E H ⟨i,hiq,rfl,e3,e6,e7,e27,e28,e29⟩;refine wM ?_;simp only[l3_0,r3_8,SS,reduceIte,e28,e29];refine⟨λhlt=>?_,λhge=>?_⟩
 ·obtain⟨q,rfl⟩:∃q',q=q'+1:=⟨q-1,by omega⟩
  have hi:i<N:=by omega
  obtain⟨b,t,hbi,cb,ct,tF⟩:=hF i (by omega);have gb:L.getD i AV.junk=b:=by rw[qZ,hbi];rfl
  have hc:=xgc bs i;have hs:=jcl (l:=bs) (i:=i) (by omega);have w5:=wS1 i (by omega);have w7:=wS1 (cntB bs i) (by omega);simp only[r3_9,r3_10,SS,fC,reduceIte,qX,e3,e27,e29,qU,gb,hN];refine⟨⟨by omega,by omega⟩,by omega,?_⟩;refine zaa tF ?_ (by simp only[qJ,AV.closed,cb,hh,qA]) (by simp only[AV.closed,qJ,ct,qA]);simp only[zcy,SS,reduceIte,qX,qV,qY,r3_11,r3_13,r3_14,r3_15,e7,e29,w5,w7];refine⟨λh=>absurd rfl h,λ_=>⟨λht=>?_,λhf=>?_⟩⟩
  ·rw[ht]at hs;refine⟨q,_,_,by omega,⟨i+1,by omega,rfl,?_,?_,?_,?_,?_,?_⟩,.refl⟩
   all_goals simp only[UU,qX,if_true, *]
  ·rw[hf]at hs;simp only[Bool.false_eq_true,if_false,xK]at hs;refine⟨q,_,_,by omega,⟨i+1,by omega,rfl,?_,?_,?_,?_,?_,?_⟩,.refl⟩
   all_goals simp only[UU,qX,reduceIte, *]
 ·have hin:i=N:=by omega
  subst hin;exact hQ _ (by simp only[UU,qX,e6]) (by simp only[UU,qX,e7])
theorem jcm{d kd:Int}{l q:List Int}{c c2:Option Nat}{n:Nat}{M:List (List Int)}(hn:n<2^40)(hA:Rt 7 [] [] (.bool true) [])(hF:Rt 5 [.agg (latC d kd l q c c2),.int .i64 3] [] (.vec (zdm n M) n (some n)) [])
  (hQ:qif n (.vec (zdm n M) n (some n))):Rt 3 [.agg (latC d kd l q c c2)] [] (.bool true) []:=by
 obtain⟨dt,hD,hh⟩:=hQ;have hv:AV.closed (.vec (zdm n M) n (some n))=true:=by simp only[AV.closed]
 generalize hg:AV.vec (zdm n M) n (some n)=v at hF hD hh hv;have cF:qJ [.agg (latC d kd l q c c2),.int .i64 3]=true:=by simp only[qJ,AV.closed,zjp,qA]
 have cV:qJ [v]=true:=by simp only[qJ,hv,qA]
 have g0:getB [some (latC d kd l q c c2)] 0=some (latC d kd l q c c2):=rfl;have et4:List.take 4 (latC d kd l q c c2)=latC d kd l q c c2:=rfl;refine oFW o3 ?_;unfold c3;refine wW ?_;simp only[r3_0,SS];refine wW ?_;simp only[r3_1,SS,reduceIte,qX,g0];refine⟨by show 4<=4;omega,?_⟩;rw[et4];refine zaa hF ?_ cF hv;simp only[SS,reduceIte,qX];refine wW ?_;simp only[r3_2,SS,reduceIte,qX];refine zaa hD ?_ cV;simp only[SS,reduceIte,qX];refine wW ?_;simp only[r3_3,SS,reduceCtorEq,reduceIte,qX];refine⟨λh40=>?_,λh40=>?_⟩
 ·simp only[r3_4,SS];refine zaa hA ?_;simp only[SS,reduceIte,qX];exact⟨.inl trivial,.bool true,rfl,.freeze 1 _ _ _ rfl (by intro i cs h;omega)⟩
 obtain⟨L,cc,bs,tA,cL,hL2,hbl,hFi,hcn⟩:=hh.resolve_left h40;have cT:AV.closed (.tup [.vec L L.length cc,.int .i64 0])=true:=by simp only[AV.closed,qJ]at cL ⊢;simp only[qA]
 refine wW ?_;simp only[r3_5,SS,reduceIte,qX,<-hg];refine zaa tA ?_ rfl cT;simp only[SS,reduceIte,qX,qV,qY];refine wW ?_;simp only[r3_6,SS];refine zgr (wW ?_);simp only[r3_7,SS,reduceIte,qX];refine zdk (xgd (L:=L) (N:=L.length) (bs:=bs) (cc:=cc) (h:=v) (v6:= .int .i64 0) (P:=latC d kd l q c c2) rfl hL2 hbl hv hFi (by simp only[UU,qX,reduceIte,hg]) (by simp only[UU,qX,reduceIte]) (by simp only[UU,qX,reduceIte]) (by simp only[UU,qX,reduceIte]) (by simp only[UU,qX,reduceIte]) (by simp only[UU,qX,reduceIte]) ?_);intro E1 f6 f7;simp only[SS,reduceCtorEq,reduceIte];refine wM ?_;replace f7:E1 7= .int .i64 1:=by rw[f7,hcn];rfl
 have d1:decide ((1:Int)=1)=true:=by decide
 simp only[r3_16,↓qqo,SS,reduceCtorEq,reduceIte,qX,f6,f7,decide_true];refine zaa hA ?_;simp only[SS,reduceIte,qX];exact⟨.inl trivial,.bool true,rfl,.freeze 1 _ _ _ rfl (by intro i cs h;omega)⟩
