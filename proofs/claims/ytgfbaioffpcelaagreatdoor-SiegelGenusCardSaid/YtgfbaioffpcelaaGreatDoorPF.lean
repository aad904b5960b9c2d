/- A part of the proof. -/
import Derived.Test.YtgfbaioffpcelaaGreatDoorPE
set_option linter.all false
set_option maxRecDepth 100000
open Nat renaming reduceEqDiff -> qQ, reduceLeDiff -> qX, reduceAdd -> qJ, le_refl -> qU, lt_or_ge -> qC, mul_le_mul_left -> xJ, add_sub_cancel -> xV, mul_le_mul -> xY, le_trans -> xB, pow_le_pow_right -> xG, reduceMul -> xH, sub_self -> xI, zero_add -> xM, pow_succ -> xS, lt_of_le_of_lt -> yX, pow_le_pow_left -> yA, add_mod -> yH, mul_mod -> yI, add_zero -> yP, dvd_of_mod_eq_zero -> yS, mod_lt -> yT, mul_le_mul_right -> zJ, pow_pos -> zK, mul_one -> zY, lt_irrefl -> zG, zero_mod -> jW, lt_of_not_le -> jY, le_of_not_lt -> jU, mul_pow -> jI, div_le_self -> jL, not_lt_zero -> jN
open List renaming getD_eq_getElem?_getD -> qZ, getElem?_eq_getElem -> qV, replicate_zero -> qY, append_nil -> qA, getElem?_cons_succ -> qE, getElem?_cons_zero -> qG, getElem?_append_right -> qI, getElem?_set_self -> qO, take_of_length_le -> xZ, getElem?_append_left -> xW, getElem?_map -> xA, ext_getElem -> xC, set_append_right -> xE, getElem?_eq_none -> xN, getElem?_set_ne -> xO, mapM_cons -> yJ, getElem_mem -> yK, length_set -> yV, length_append -> yD, mem_or_eq_of_mem_set -> yE, flatMap_cons -> yL, countP_cons -> yN, getElem?_replicate -> yO, foldl_cons -> zX, mem_of_getElem? -> zW, drop_zero -> zU, replicate_succ' -> zA, range_eq_range' -> zB, getElem?_range -> zC, getElem_of_mem -> zE, mapM_nil -> zL, mem_replicate -> zR, countP_append -> zS, map_set -> jZ, set_set -> jJ, take_add_one -> jK, append_assoc -> jV, getElem_set -> jC, length_take -> jD, length_cons -> jE, range'_succ -> jG, length_drop -> jH, range_succ -> jM, nil_append -> jP, countP_nil -> jR
open Int renaming mul_le_mul_of_nonneg_left -> qK, mul_le_mul_of_nonneg_right -> qW, mul_nonneg -> qB, toNat_natCast -> qD, le_of_mul_le_mul_left -> qH, eq_of_mul_eq_mul_left -> qL, reduceLT -> qN, add_zero -> qT, sign_eq_one_of_pos -> xQ, one_mul -> xK, mul_pos -> xU, natAbs_natCast -> xD, mul_comm -> xL, toNat_zero -> xP, natAbs_ediv_le_natAbs -> yQ, mul_nonneg_of_nonpos_of_nonpos -> yZ, reduceAdd -> yW, mul_ediv_mul_of_pos_left -> yY, natCast_mul -> yU, ediv_one -> yB, reduceLE -> yC, mul_one -> yG, mul_assoc -> yM, le_trans -> yR, natCast_add -> zZ, le_refl -> zV, ediv_mul_cancel -> zD, tmod_lt_of_pos -> zN, lt_tmod_of_pos -> zO, emod_lt_of_pos -> zP, pow_succ -> zT, gcd_dvd_right -> jQ, reduceEq -> jX, gcd_dvd_left -> jA, gcd_one_left -> jB, emod_nonneg -> jO
open Option renaming bind_some -> qM, bind_eq_some_iff -> qS, getD_some -> xT, map_some -> zQ
open Option.some renaming injEq -> qP
open Go.AL.AV.closed renaming closedL -> xX
open Bool renaming and_self -> zI, false_eq_true -> zM
namespace Go.Det
def stg(a:Nat->Row)(k i j:Nat):Int:=bord a k (a i) j
theorem zda(a:Nat->Row)(i j:Nat):stg a 0 i j=a i j:=by
 show zco (det []) j [] [a i]=_
 simp[zco,sg,det]
theorem zat(a:Nat->Row):lead a 0=1:=rfl
theorem zbh(a:Nat->Row)(k:Nat):lead a (k+1)=stg a k k k:=qmm a k
theorem zcg{a:Nat->Row}{k:Nat}(h:∀i,i<=k->lead a i≠0)(i j:Nat):lead a k*stg a (k+1) i j=lead a (k+1)*stg a k i j-stg a k i k*stg a k k j:=by
 rw[zbh];exact(qdw k h).2 (a i) j
theorem zvk{a:Nat->Row}{k:Nat}(h:∀i,i<=k->lead a i≠0)(i c:Nat)(hc:c<k):stg a k i c=0:=(qdw k h).1 (a i) c hc
theorem zge{a:Nat->Row}{n:Nat}(hs:∀i j,i<n->j<n->a i j=a j i):∀k,k<n->(∀i,i<=k->lead a i≠0)->∀i j,i<n->j<n->k<=i->k<=j->stg a k i j=stg a k j i:=by
 intro k
 induction k with
 |zero=>intro _ _ i j hi hj _ _;rw[zda,zda];exact hs i j hi hj
 |succ k ih=>
  intro hk h i j hi hj h1 h2;have h':∀i,i<=k->lead a i≠0:=λi hi=>h i (by omega)
  have e1:=zcg h' i j;have e2:=zcg h' j i;have s1:=ih (by omega) h' i j hi hj (by omega) (by omega);have s2:=ih (by omega) h' i k hi (by omega) (by omega) (by omega);have s3:=ih (by omega) h' k j (by omega) hj (by omega) (by omega);refine qL (h' k (by omega)) ?_;rw[e1,e2,s1,s2,s3];grind
theorem jfw{x d:Int}(h1:x<=d)(h2: -d<=x):x*x<=d*d:=by
 have h:=qB (show 0<=d-x by omega) (show 0<=d+x by omega);have e:(d-x)*(d+x)=d*d-x*x:=by grind
 omega
theorem zqo{x y a b:Int}(h1:x<=a)(h2: -a<=x)(h3:y<=b)(h4: -b<=y):x*y<=a*b/\ -(a*b)<=x*y:=by
 have ha:0<=a:=by omega
 have p1:=qB (show 0<=a-x by omega) (show 0<=b+y by omega);have p2:=qB (show 0<=a+x by omega) (show 0<=b-y by omega);have p3:=qB (show 0<=a-x by omega) (show 0<=b-y by omega);have p4:=qB (show 0<=a+x by omega) (show 0<=b+y by omega);have e1:(a-x)*(b+y)+(a+x)*(b-y)=2*(a*b)-2*(x*y):=by grind
 have e2:(a-x)*(b-y)+(a+x)*(b+y)=2*(a*b)+2*(x*y):=by grind
 omega
structure Red(n:Nat)(a:Nat->Row):Prop where
 n1:1<=n
 n8:n<=8
 sym:∀i j,i<n->j<n->a i j=a j i
 pos:∀k,k<n->0<lead a (k+1)
 small:lead a n<=10000
 sized:∀i j,i<n->j<i->2*stg a j i j<=lead a (j+1)/\ -(2*stg a j i j)<=lead a (j+1)
 lov:∀i,0<i->i<n->3*(lead a i*lead a i)<=4*(lead a (i-1)*lead a (i+1)+stg a (i-1) i (i-1)*stg a (i-1) i (i-1))
theorem Red.pos'{n:Nat}{a:Nat->Row}(h:Red n a):∀k,k<=n->0<lead a k:=by
 intro k hk;cases k with
 |zero=>rw[zat];decide
 |succ k=>exact h.pos k (by omega)
theorem Red.ne{n:Nat}{a:Nat->Row}(h:Red n a){k:Nat}(hk:k<=n):∀i,i<=k->lead a i≠0:=λi hi=>by have:=h.pos' i (by omega);omega
theorem Red.conv{n:Nat}{a:Nat->Row}(h:Red n a){i:Nat}(h0:0<i)(hi:i<n):lead a i*lead a i<=2*(lead a (i-1)*lead a (i+1)):=by
 obtain⟨s1,s2⟩:=h.sized i (i-1) hi (by omega);have e:i-1+1=i:=by omega
 rw[e]at s1 s2;have l:=h.lov i h0 hi;have q:=jfw s1 (by omega);have e2:2*stg a (i-1) i (i-1)*(2*stg a (i-1) i (i-1))=4*(stg a (i-1) i (i-1)*stg a (i-1) i (i-1)):=by grind
 omega
theorem Red.pow{n:Nat}{a:Nat->Row}(h:Red n a):∀k,k<n->(lead a k).toNat^(k+1)<=2^(k*(k+1)/2)*(lead a (k+1)).toNat^k:=by
 intro k
 induction k with
 |zero=>intro _;rw[zat];simp
 |succ k ih=>
  intro hk;have c:=h.conv (i:=k+1) (by omega) hk;have p0:=h.pos' k (by omega);have p1:=h.pos' (k+1) (by omega);have p2:=h.pos' (k+1+1) (by omega);have e0:k+1-1=k:=by omega
  rw[e0]at c;obtain⟨x,hx⟩:∃x:Nat,lead a k=x:=⟨(lead a k).toNat,by omega⟩
  obtain⟨y,hy⟩:∃x:Nat,lead a (k+1)=x:=⟨(lead a (k+1)).toNat,by omega⟩
  obtain⟨z,hz⟩:∃x:Nat,lead a (k+1+1)=x:=⟨(lead a (k+1+1)).toNat,by omega⟩
  have ih:=ih (by omega);rw[hx,hy]at ih;rw[hx,hy,hz]at c;rw[hy,hz];simp only[qD]at ih ⊢
  have c':y*y<=2*(x*z):=by
   have:((y*y:Nat):Int)<=((2*(x*z):Nat):Int):=by simpa using c
   omega
  have hy0:0<y:=by omega
  have q1:(y*y)^(k+1)<=(2*(x*z))^(k+1):=yA c' _;rw[jI,jI,jI]at q1;have q2:2^(k+1)*(x^(k+1)*z^(k+1))<=2^(k+1)*((2^(k*(k+1)/2)*y^k)*z^(k+1)):=xJ _ (zJ _ ih);have q3:=xB q1 q2
  have ee:(k+1)*(k+1+1)/2=k*(k+1)/2+(k+1):=by
   have:(k+1)*(k+1+1)=k*(k+1)+(k+1)*2:=by grind
   rw[this,Nat.add_mul_div_right _ _ (by decide)]
  rw[ee,Nat.pow_add 2];have e1:y^(k+1)*y^(k+1)=y^k*y^(k+1+1):=by rw[xS y (k+1),xS y k];grind
  have e2:2^(k+1)*((2^(k*(k+1)/2)*y^k)*z^(k+1))=y^k*(2^(k*(k+1)/2)*2^(k+1)*z^(k+1)):=by grind
  rw[e1,e2]at q3;exact Nat.le_of_mul_le_mul_left q3 (zK hy0)
theorem Red.step{n:Nat}{a:Nat->Row}(h:Red n a){k X Y:Nat}(hk:k<n)(hY:lead a (k+1)<=Y)(hX:2^(k*(k+1)/2)*Y^k<(X+1)^(k+1)):lead a k<=X:=by
 have p:=h.pow k hk;have p0:=h.pos' k (by omega);have p1:=h.pos' (k+1) (by omega);have h1:(lead a (k+1)).toNat<=Y:=by omega
 have h2:(lead a k).toNat^(k+1)<(X+1)^(k+1):=yX (xB p (xJ _ (yA h1 _))) hX;have h3:(lead a k).toNat<X+1:=jY λh4=>zG _ (Nat.lt_of_lt_of_le h2 (yA h4 _))
 omega
theorem Red.bnd1{a:Nat->Row}(h:Red 1 a):∀k,k<1->lead a k<=65535:=by
 have b1:lead a 1<=(10000:Nat):=h.small;have b0:lead a 0<=(1:Nat):=by rw[zat];decide
 intro k hk
 match k,hk with
 |0,_=>omega
 |k+1,hk=>exact absurd hk (by omega)
theorem Red.bnd2{a:Nat->Row}(h:Red 2 a):∀k,k<2->lead a k<=65535:=by
 have b2:lead a 2<=(10000:Nat):=h.small;have b1:lead a 1<=(141:Nat):=h.step (k:=1) (X:=141) (Y:=10000) (by decide) b2 (by decide);have b0:lead a 0<=(1:Nat):=by rw[zat];decide
 intro k hk
 match k,hk with
 |0,_=>omega
 |1,_=>omega
 |k+2,hk=>exact absurd hk (by omega)
theorem Red.bnd3{a:Nat->Row}(h:Red 3 a):∀k,k<3->lead a k<=65535:=by
 have b3:lead a 3<=(10000:Nat):=h.small;have b2:lead a 2<=(928:Nat):=h.step (k:=2) (X:=928) (Y:=10000) (by decide) b3 (by decide);have b1:lead a 1<=(43:Nat):=h.step (k:=1) (X:=43) (Y:=928) (by decide) b2 (by decide);have b0:lead a 0<=(1:Nat):=by rw[zat];decide
 intro k hk
 match k,hk with
 |0,_=>omega
 |1,_=>omega
 |2,_=>omega
 |k+3,hk=>exact absurd hk (by omega)
theorem Red.bnd4{a:Nat->Row}(h:Red 4 a):∀k,k<4->lead a k<=65535:=by
 have b4:lead a 4<=(10000:Nat):=h.small;have b3:lead a 3<=(2828:Nat):=h.step (k:=3) (X:=2828) (Y:=10000) (by decide) b4 (by decide);have b2:lead a 2<=(399:Nat):=h.step (k:=2) (X:=399) (Y:=2828) (by decide) b3 (by decide);have b1:lead a 1<=(28:Nat):=h.step (k:=1) (X:=28) (Y:=399) (by decide) b2 (by decide);have b0:lead a 0<=(1:Nat):=by rw[zat];decide
 intro k hk
 match k,hk with
 |0,_=>omega
 |1,_=>omega
 |2,_=>omega
 |3,_=>omega
 |k+4,hk=>exact absurd hk (by omega)
theorem Red.bnd5{a:Nat->Row}(h:Red 5 a):∀k,k<5->lead a k<=65535:=by
 have b5:lead a 5<=(10000:Nat):=h.small;have b4:lead a 4<=(6339:Nat):=h.step (k:=4) (X:=6339) (Y:=10000) (by decide) b5 (by decide);have b3:lead a 3<=(2009:Nat):=h.step (k:=3) (X:=2009) (Y:=6339) (by decide) b4 (by decide);have b2:lead a 2<=(318:Nat):=h.step (k:=2) (X:=318) (Y:=2009) (by decide) b3 (by decide);have b1:lead a 1<=(25:Nat):=h.step (k:=1) (X:=25) (Y:=318) (by decide) b2 (by decide);have b0:lead a 0<=(1:Nat):=by rw[zat];decide
 intro k hk
 match k,hk with
 |0,_=>omega
 |1,_=>omega
 |2,_=>omega
 |3,_=>omega
 |4,_=>omega
 |k+5,hk=>exact absurd hk (by omega)
theorem Red.bnd6{a:Nat->Row}(h:Red 6 a):∀k,k<6->lead a k<=65535:=by
 have b6:lead a 6<=(10000:Nat):=h.small;have b5:lead a 5<=(12187:Nat):=h.step (k:=5) (X:=12187) (Y:=10000) (by decide) b6 (by decide);have b4:lead a 4<=(7426:Nat):=h.step (k:=4) (X:=7426) (Y:=12187) (by decide) b5 (by decide);have b3:lead a 3<=(2262:Nat):=h.step (k:=3) (X:=2262) (Y:=7426) (by decide) b4 (by decide);have b2:lead a 2<=(344:Nat):=h.step (k:=2) (X:=344) (Y:=2262) (by decide) b3 (by decide);have b1:lead a 1<=(26:Nat):=h.step (k:=1) (X:=26) (Y:=344) (by decide) b2 (by decide);have b0:lead a 0<=(1:Nat):=by rw[zat];decide
 intro k hk
 match k,hk with
 |0,_=>omega
 |1,_=>omega
 |2,_=>omega
 |3,_=>omega
 |4,_=>omega
 |5,_=>omega
 |k+6,hk=>exact absurd hk (by omega)
theorem Red.bnd7{a:Nat->Row}(h:Red 7 a):∀k,k<7->lead a k<=65535:=by
 have b7:lead a 7<=(10000:Nat):=h.small;have b6:lead a 6<=(21461:Nat):=h.step (k:=6) (X:=21461) (Y:=10000) (by decide) b7 (by decide);have b5:lead a 5<=(23029:Nat):=h.step (k:=5) (X:=23029) (Y:=21461) (by decide) b6 (by decide);have b4:lead a 4<=(12356:Nat):=h.step (k:=4) (X:=12356) (Y:=23029) (by decide) b5 (by decide);have b3:lead a 3<=(3314:Nat):=h.step (k:=3) (X:=3314) (Y:=12356) (by decide) b4 (by decide);have b2:lead a 2<=(444:Nat):=h.step (k:=2) (X:=444) (Y:=3314) (by decide) b3 (by decide);have b1:lead a 1<=(29:Nat):=h.step (k:=1) (X:=29) (Y:=444) (by decide) b2 (by decide);have b0:lead a 0<=(1:Nat):=by rw[zat];decide
 intro k hk
 match k,hk with
 |0,_=>omega
 |1,_=>omega
 |2,_=>omega
 |3,_=>omega
 |4,_=>omega
 |5,_=>omega
 |6,_=>omega
 |k+7,hk=>exact absurd hk (by omega)
theorem Red.bnd8{a:Nat->Row}(h:Red 8 a):∀k,k<8->lead a k<=65535:=by
 have b8:lead a 8<=(10000:Nat):=h.small;have b7:lead a 7<=(35777:Nat):=h.step (k:=7) (X:=35777) (Y:=10000) (by decide) b8 (by decide);have b6:lead a 6<=(63999:Nat):=h.step (k:=6) (X:=63999) (Y:=35777) (by decide) b7 (by decide);have b5:lead a 5<=(57242:Nat):=h.step (k:=5) (X:=57242) (Y:=63999) (by decide) b6 (by decide);have b4:lead a 4<=(25599:Nat):=h.step (k:=4) (X:=25599) (Y:=57242) (by decide) b5 (by decide);have b3:lead a 3<=(5724:Nat):=h.step (k:=3) (X:=5724) (Y:=25599) (by decide) b4 (by decide);have b2:lead a 2<=(639:Nat):=h.step (k:=2) (X:=639) (Y:=5724) (by decide) b3 (by decide);have b1:lead a 1<=(35:Nat):=h.step (k:=1) (X:=35) (Y:=639) (by decide) b2 (by decide);have b0:lead a 0<=(1:Nat):=by rw[zat];decide
 intro k hk
 match k,hk with
 |0,_=>omega
 |1,_=>omega
 |2,_=>omega
 |3,_=>omega
 |4,_=>omega
 |5,_=>omega
 |6,_=>omega
 |7,_=>omega
 |k+8,hk=>exact absurd hk (by omega)
theorem Red.minor{n:Nat}{a:Nat->Row}(h:Red n a){k:Nat}(hk:k<=n):lead a k<=65535:=by
 rcases qC k n with hlt | hge
 ·have h1:=h.n1;have h8:=h.n8
  match n,h1,h8 with
  |1,_,_=>exact h.bnd1 k hlt
  |2,_,_=>exact h.bnd2 k hlt
  |3,_,_=>exact h.bnd3 k hlt
  |4,_,_=>exact h.bnd4 k hlt
  |5,_,_=>exact h.bnd5 k hlt
  |6,_,_=>exact h.bnd6 k hlt
  |7,_,_=>exact h.bnd7 k hlt
  |8,_,_=>exact h.bnd8 k hlt
  |n+9,_,h=>exact absurd h (by omega)
 ·have:k=n:=by omega
  rw[this];have:=h.small;omega
theorem back{d e x y u v C:Int}(hd:1<=d)(he:1<=e)(he2:e<=65536)(h:d*y=e*x-u*v)(hy1:y<=e*C)(hy2: -(e*C)<=y)(hu1:2*u<=e)(hu2: -(2*u)<=e)(hv1:2*v<=e)(hv2: -(2*v)<=e):
  x<=d*(C+16384)/\ -(d*(C+16384))<=x:=by
 have m:=zqo (x:=2*u) (y:=2*v) hu1 (by omega) hv1 (by omega);have e4:2*u*(2*v)=4*(u*v):=by grind
 rw[e4]at m;have k1:d*y<=d*(e*C):=qK hy1 (by omega);have k2:d*(-(e*C))<=d*y:=qK hy2 (by omega);have k3:e*e<=e*(d*65536):=qK (by omega) (by omega)
 have c1:e*x<=e*(d*(C+16384)):=by
  have:e*(d*(C+16384))=d*(e*C)+e*d*16384:=by grind
  have t:e*(d*65536)=4*(e*d*16384):=by grind
  omega
 have c2:e*(-(d*(C+16384)))<=e*x:=by
  have:e*(-(d*(C+16384)))=d*(-(e*C))-e*d*16384:=by grind
  have t:e*(d*65536)=4*(e*d*16384):=by grind
  omega
 exact⟨qH c1 (by omega),qH c2 (by omega)⟩
theorem Red.stage{n:Nat}{a:Nat->Row}(h:Red n a){i j:Nat}(hi:i<n)(hj:j<=i):∀m k,k+m=j->stg a k i j<=lead a k*(65536+16384*(m:Int))/\ -(lead a k*(65536+16384*(m:Int)))<=stg a k i j:=by
 intro m
 induction m with
 |zero=>
  intro k hk;have:k=j:=by omega
  subst this;have p:=h.pos' k (by omega);have b1:=h.minor (k:=k+1) (by omega);have p1:=h.pos' (k+1) (by omega)
  have q:(65536:Int)<=lead a k*(65536+16384*((0:Nat):Int)):=by
   have:1*65536<=lead a k*65536:=qW (by omega) (by decide);simpa using this
  rcases qC k i with hlt | hge
  ·obtain⟨s1,s2⟩:=h.sized i k hi hlt;omega
  ·have:k=i:=by omega
   subst this;rw[<-zbh];omega
 |succ m ih=>
  intro k hk;have p:=h.pos' k (by omega);have p1:=h.pos' (k+1) (by omega);have b1:=h.minor (k:=k+1) (by omega);obtain⟨y1,y2⟩:=ih (k+1) (by omega);have hn:=h.ne (k:=k) (by omega);have e:=zcg hn i j;obtain⟨u1,u2⟩:=h.sized i k hi (by omega);obtain⟨v1,v2⟩:=h.sized j k (by omega) (by omega);rw[zge h.sym k (by omega) hn k j (by omega) (by omega) (by omega) (by omega)]at e;have:=back (by omega) (by omega) (by omega) e y1 y2 u1 u2 v1 v2;have c:(65536+16384*(m:Int)+16384)=65536+16384*((m+1:Nat):Int):=by omega
  rw[c]at this;exact this
theorem Red.entry{n:Nat}{a:Nat->Row}(h:Red n a){i j:Nat}(hi:i<n)(hj:j<n):a i j<=180224/\ -180224<=a i j:=by
 have key:∀i j,i<n->j<=i->a i j<=180224/\ -180224<=a i j:=by
  intro i j hi hj;have:=h.stage hi hj j 0 (by omega);rw[zda,zat]at this;have h8:=h.n8;omega
 rcases Nat.le_total j i with h1 | h1
 ·exact key i j hi h1
 ·rw[h.sym i j hi hj];exact key j i hj h1
theorem jfx{d e x y u v C:Int}(hd:1<=d)(he:1<=e)(he2:e<=65536)(h:d*y=e*x-u*v)(hx1:x<=d*C)(hx2: -(d*C)<=x)(hu1:2*u<=e)(hu2: -(2*u)<=e)(hv1:2*v<=e)(hv2: -(2*v)<=e):
  y<=e*(C+16384)/\ -(e*(C+16384))<=y:=by
 have m:=zqo (x:=2*u) (y:=2*v) hu1 (by omega) hv1 (by omega);have e4:2*u*(2*v)=4*(u*v):=by grind
 rw[e4]at m;have k1:e*x<=e*(d*C):=qK hx1 (by omega);have k2:e*(-(d*C))<=e*x:=qK hx2 (by omega);have k3:e*e<=e*(d*65536):=qK (by omega) (by omega)
 have c1:d*y<=d*(e*(C+16384)):=by
  have:d*(e*(C+16384))=e*(d*C)+e*d*16384:=by grind
  have t:e*(d*65536)=4*(e*d*16384):=by grind
  omega
 have c2:d*(-(e*(C+16384)))<=d*y:=by
  have:d*(-(e*(C+16384)))=e*(-(d*C))-e*d*16384:=by grind
  have t:e*(d*65536)=4*(e*d*16384):=by grind
  omega
 exact⟨qH c1 (by omega),qH c2 (by omega)⟩
end Go.Det
namespace Go.Proofs.YtgfbaioffpcelaaGreatDoor
open Go Go.AL Go.Det
structure Shp(n:Nat)(M:List (List Int)):Prop where
 len:M.length=n
 row:∀i,i<n->(M.getD i []).length=n
theorem zjb{α:Type}{l:List α}{i j:Nat}{x d:α}(hi:i<l.length):(l.set i x).getD j d=if j=i then x else l.getD j d:=by
 rw[qZ];by_cases h:j=i
 ·subst h;rw[qO hi,if_pos rfl];rfl
 ·rw[xO (λe=>h e.symm),if_neg h,qZ]
theorem Shp.set{n:Nat}{M:List (List Int)}(h:Shp n M){i j:Nat}{z:Int}(hi:i<n):Shp n (setM M i j z):=by
 refine⟨by rw[zdd];exact h.len,λi' hi'=>?_⟩;unfold setM;rw[zjb (by rw[h.len];exact hi)];split
 ·rw[yV];exact h.row i hi
 ·exact h.row i' hi'
theorem Shp.ent_set{n:Nat}{M:List (List Int)}(h:Shp n M){i j:Nat}{z:Int}(hi:i<n)(hj:j<n)(i' l:Nat):ent (setM M i j z) i' l=if i'=i/\l=j then z else ent M i' l:=by
 unfold ent setM;rw[zjb (by rw[h.len];exact hi)];by_cases h1:i'=i
 ·subst h1;rw[if_pos rfl,zjb (by rw[h.row i' hi];exact hj)];by_cases h2:l=j
  ·rw[if_pos h2,if_pos ⟨rfl,h2⟩]
  ·rw[if_neg h2,if_neg (λe=>h2 e.2)]
 ·rw[if_neg h1,if_neg (λe=>h1 e.1)]
theorem qdx{B n k i:Nat}{last:Int}(hki:k<i)(hi:i<n):∀(m j:Nat) (M fin:List (List Int)),Shp n M->k<j->j+m<=n->elJ B k i last m j M=some fin->
  Shp n fin/\∀i' l,ent fin i' l=if i'=i/\j<=l/\l<j+m then(ent M k k*ent M i l-ent M i k*ent M k l)/last else ent M i' l:=by
 intro m
 induction m with
 |zero=>
  intro j M fin h _ _ he;simp only[elJ,qP]at he;subst he;refine⟨h,λi' l=>?_⟩;rw[if_neg (by omega)]
 |succ m ih=>
  intro j M fin h hj hm he;simp only[elJ,qS]at he;obtain⟨z,hz,he⟩:=he;obtain⟨_,_,_,_,_,hz,_⟩:=zxv hz;obtain⟨h1,h2⟩:=ih (j+1) _ _ (h.set hi) (by omega) (by omega) he;refine⟨h1,λi' l=>?_⟩;have es:=λi' l=>h.ent_set (i:=i) (j:=j) (z:=z) hi (by omega) i' l
  rw[h2 i' l,es k k,es i l,es i k,es k l,es i' l];by_cases c1:i'=i/\j+1<=l/\l<j+1+m
  ·rw[if_pos c1,if_neg (by omega),if_neg (by omega),if_neg (by omega),if_neg (by omega),if_pos (by omega)]
  ·rw[if_neg c1];by_cases c2:i'=i/\l=j
   ·rw[if_pos c2,if_pos (by omega),c2.2];exact hz
   ·rw[if_neg c2,if_neg (by omega)]
theorem qdy{B n k:Nat}{last:Int}:∀(m i:Nat) (M fin:List (List Int)),Shp n M->k<i->i+m=n->elI B n k last m i M=some fin->
  Shp n fin/\∀i' l,ent fin i' l=if i<=i'/\i'<n/\k+1<=l/\l<n then(ent M k k*ent M i' l-ent M i' k*ent M k l)/last else ent M i' l:=by
 intro m
 induction m with
 |zero=>
  intro i M fin h _ _ he;simp only[elI,qP]at he;subst he;refine⟨h,λi' l=>?_⟩;rw[if_neg (by omega)]
 |succ m ih=>
  intro i M fin h hi hm he;simp only[elI,qS]at he;obtain⟨M1,hM1,he⟩:=he;obtain⟨h1,h2⟩:=qdx hi (by omega) (n-(k+1)) (k+1) M M1 h (by omega) (by omega) hM1;obtain⟨h3,h4⟩:=ih (i+1) M1 fin h1 (by omega) (by omega) he;refine⟨h3,λi' l=>?_⟩;rw[h4 i' l,h2 k k,h2 i' l,h2 i' k,h2 k l];by_cases c1:i+1<=i'/\i'<n/\k+1<=l/\l<n
  ·rw[if_pos c1,if_neg (by omega),if_neg (by omega),if_neg (by omega),if_neg (by omega),if_pos (by omega)]
  ·rw[if_neg c1];by_cases c2:i'=i/\k+1<=l/\l<k+1+(n-(k+1))
   ·rw[if_pos c2,if_pos (by omega),c2.1]
   ·rw[if_neg c2,if_neg (by omega)]
def rowF(M:List (List Int)):Nat->Row:=λi j=>ent M i j
theorem qmo{B n:Nat}{N:List (List Int)}(hp:∀t,t<n->lead (rowF N) t≠0):∀(m k:Nat) (M:List (List Int)) (last d:Int),k+m=n->Shp n M->(∀i j,k<=i->i<n->k<=j->j<n->ent M i j=stg (rowF N) k i j)->
  last=lead (rowF N) k->detG B n m k M last false=some d->d=lead (rowF N) n:=by
 intro m
 induction m with
 |zero=>
  intro k M last d hk _ _ hl h;simp only[detG,qP]at h;have:k=n:=by omega
  subst this;simp at h;rw[<-h,hl]
 |succ m ih=>
  intro k M last d hk hs he hl h;have hkk:ent M k k=lead (rowF N) (k+1):=by rw[he k k (qU _) (by omega) (qU _) (by omega),<-zbh]
  obtain⟨m',hm'⟩:∃m',n-k=m'+1:=⟨n-k-1,by omega⟩
  by_cases h0:ent M k k=0
  ·
   have hkn:k+1=n:=by
    rcases qC (k+1) n with hlt | hge
    ·exact absurd (hkk.symm.trans h0) (hp (k+1) hlt)
    ·omega
   have hm0:m'=0:=by omega
   have hpv:piv M k (n-k) k=n:=by
    rw[hm',hm0];simp only[piv];rw[if_pos h0];exact hkn
   simp only[detG]at h;rw[if_pos hpv,qP]at h;rw[<-h,<-hkn,<-hkk,h0]
  ·have hpv:piv M k (n-k) k=k:=by
    rw[hm'];simp only[piv];rw[if_neg h0]
   simp only[detG,hpv]at h;rw[if_neg (by omega),if_neg (zG _),if_neg (zG _),qS]at h;obtain⟨M2,hM2,h⟩:=h;obtain⟨s1,s2⟩:=qdy (n-(k+1)) (k+1) M M2 hs (by omega) (by omega) hM2;have e2:ent M2 k k=lead (rowF N) (k+1):=by rw[s2,if_neg (by omega)];exact hkk
   refine ih (k+1) M2 _ d (by omega) s1 (λi j hi hin hj hjn=>?_) e2 h;rw[s2,if_pos ⟨hi,hin,hj,hjn⟩,hkk,hl,he i j (by omega) hin (by omega) hjn,he i k (by omega) hin (qU _) (by omega),he k j (qU _) (by omega) (by omega) hjn];have r:=zcg (a:=rowF N) (k:=k) (λt ht=>hp t (by omega)) i j;rw[<-r,Int.mul_ediv_cancel_left _ (hp k (by omega))]
theorem zlw{B n:Nat}{N:List (List Int)}(hs:Shp n N)(hp:∀t,t<n->lead (rowF N) t≠0){d:Int}(h:detO B N=some d):d=lead (rowF N) n:=by
 unfold detO at h;rw[hs.len]at h;exact qmo hp n 0 N 1 d (by omega) hs (λi j _ _ _ _=>(zda (rowF N) i j).symm) rfl h
theorem zyi:∀(cs:List Nat) (R R':List Row),R.length=R'.length->(∀i,i<R.length->∀c∈cs,(R.getD i (λ_=>0)) c=(R'.getD i (λ_=>0)) c)->det cs R=det cs R':=by
 intro cs
 induction cs with
 |nil=>intro R R' hl _;cases R<;>cases R'<;>simp at hl<;>rfl
 |cons c cs ih=>
  intro R R' hl h
  have key:∀(L L' p p':List Row),L.length=L'.length->p.length=p'.length->(∀i,i<L.length->∀x∈c::cs,(L.getD i (λ_=>0)) x=(L'.getD i (λ_=>0)) x)->
    (∀i,i<p.length->∀x∈c::cs,(p.getD i (λ_=>0)) x=(p'.getD i (λ_=>0)) x)->zco (det cs) c p L=zco (det cs) c p' L':=by
   intro L
   induction L with
   |nil=>intro L' p p' h1 _ _ _;cases L' with | nil=>rfl | cons _ _=>simp at h1
   |cons v L ihL=>
    intro L' p p' h1 h2 h3 h4;cases L' with
    |nil=>simp at h1
    |cons v' L'=>
     have hv:∀x∈c::cs,v x=v' x:=λx hx=>by simpa using h3 0 (by simp) x hx
     have hL:∀i,i<L.length->∀x∈c::cs,(L.getD i (λ_=>0)) x=(L'.getD i (λ_=>0)) x:=λi hi x hx=>by simpa using h3 (i+1) (by simpa using hi) x hx
     have hll:L.length=L'.length:=by simpa using h1
     simp only[zco]
     have app:∀(A A' X X':List Row),A.length=A'.length->(∀i,i<A.length->∀x∈c::cs,(A.getD i (λ_=>0)) x=(A'.getD i (λ_=>0)) x)->(∀i,i<X.length->∀x∈c::cs,(X.getD i (λ_=>0)) x=(X'.getD i (λ_=>0)) x)->
       ∀i,i<(A++X).length->∀x∈c::cs,((A++X).getD i (λ_=>0)) x=((A'++X').getD i (λ_=>0)) x:=by
      intro A A' X X' hA k1 k2 i hi x hx;rw[qZ,qZ];rcases qC i A.length with hlt | hge
      ·rw[xW hlt,xW (by omega),<-qZ,<-qZ];exact k1 i hlt x hx
      ·rw[qI hge,qI (by omega),hA,<-qZ,<-qZ];refine k2 (i-A'.length) ?_ x hx;rw[yD]at hi;omega
     have e1:det cs (p++L)=det cs (p'++L'):=ih _ _ (by simp[h2,hll]) (λi hi x hx=>app p p' L L' h2 h4 hL i hi x (List.mem_cons_of_mem _ hx))
     have e2:=ihL L' (p++[v]) (p'++[v']) hll (by simp[h2]) hL (app p p' [v] [v'] h2 h4 (λi hi x hx=>by
      have:i=0:=by simpa using hi
      subst this;exact hv x hx))
     rw[e1,e2,hll,hv c (by simp)]
  exact key R R' [] [] hl rfl h (λi hi=>by simp at hi)
theorem jbo{M:List (List Int)}{rs cs:List Nat}{s t:Nat}(hs:s<rs.length)(ht:t<cs.length):ent (selM M rs cs) s t=ent M (rs.getD s 0) (cs.getD t 0):=by
 simp only[ent,selM,selR,qZ,xA,qV hs,qV ht,zQ,xT]
theorem zyj{j i t:Nat}(h:t<j):(List.range j++[i]).getD t 0=t:=by
 rw[qZ,xW (by simpa using h),zC h];rfl
theorem zsy{j i:Nat}:(List.range j++[i]).getD j 0=i:=by
 rw[qZ,qI (by simp)];simp
theorem qbb{M:List (List Int)}{i j s t:Nat}(hs:s<=j)(ht:t<=j):ent (lamM M i j) s t=ent M (if s=j then i else s) t:=by
 unfold lamM;rw[jbo (by simp;omega) (by simp;omega)]
 have e:(List.range j++[j]).getD t 0=t:=by
  rcases qC t j with h | h
  ·exact zyj h
  ·have:t=j:=by omega
   rw[this];exact zsy
 rw[e];split
 ·rename_i h;rw[h,zsy]
 ·rw[zyj (by omega)]
theorem qbc(M:List (List Int))(i j:Nat):Shp (j+1) (lamM M i j):=by
 refine⟨by simp[lamM,selM],λt ht=>?_⟩;simp only[lamM,selM,qZ,xA];rw[qV (by simpa using ht)];simp[selR]
theorem qtu{M:List (List Int)}{i j t:Nat}(ht:t<=j):lead (rowF (lamM M i j)) t=lead (rowF M) t:=by
 unfold lead;refine zyi _ _ _ (by rw[zcp,zcp]) (λs hs c hc=>?_);rw[zcp]at hs;have:=zqn hc;rw[zja _ hs,zja _ hs]
 show ent (lamM M i j) s c=ent M s c
 rw[qbb (by omega) (by omega),if_neg (by omega)]
theorem qtv{M:List (List Int)}{i j:Nat}:lead (rowF (lamM M i j)) (j+1)=stg (rowF M) j i j:=by
 unfold lead stg bord;refine zyi _ _ _ (by rw[zcp,yD,zcp];rfl) (λs hs c hc=>?_);rw[zcp]at hs
 have hc:c<=j:=by
  rcases List.mem_cons.1 hc with e | e
  ·omega
  ·have:=zqn e;omega
 rw[zja _ hs]
 show ent (lamM M i j) s c=_
 rw[qbb (by omega) hc,qZ];rcases qC s j with h | h
 ·rw[if_neg (by omega),xW (by rw[zcp];exact h),<-qZ,zja _ h];rfl
 ·have:s=j:=by omega
  subst this;rw[if_pos rfl,qI (by rw[zcp];exact qU _),zcp,xI];rfl
theorem zlx{B i j:Nat}{M:List (List Int)}(hp:∀t,t<=j->lead (rowF M) t≠0){d:Int}(h:detO B (lamM M i j)=some d):d=stg (rowF M) j i j:=by
 rw[<-qtv];exact zlw (qbc M i j) (λt ht=>by rw[qtu (by omega)];exact hp t (by omega)) h
theorem zgt(M:List (List Int))(k:Nat):minK M k=lamM M k k:=rfl
theorem zyk{B:Nat}{M:List (List Int)}:∀{n:Nat} {ds:List Int},zeu B M n=some ds->∀k,k<n->detO B (minK M k)=some (ds.getD k 0):=by
 intro n
 induction n with
 |zero=>intro ds _ k hk;omega
 |succ n ih=>
  intro ds h k hk;have hpre:=zqa (m:=1) h;have hl:=zek h;rcases qC k n with hlt | hge
  ·have:=ih hpre k hlt;rw[this,qZ,qZ,List.getElem?_take_of_lt hlt]
  ·have:k=n:=by omega
   subst this;simp only[zeu,qS,qP]at h;obtain⟨l,h1,h⟩:=h;have hl1:=zek h1;obtain⟨d,h2,d',h3,h⟩:=h;obtain⟨rfl,_⟩:=zdc h3;subst h;rw[qZ,qI (by omega),hl1,xI];simpa using h2
theorem jbp{B n:Nat}{M:List (List Int)}{ds:List Int}(h:zeu B M n=some ds):∀k,k<=n->(∀t,t<k->0<ds.getD t 0)->(∀t,t<=k->0<lead (rowF M) t)/\∀t,t<k->ds.getD t 0=lead (rowF M) (t+1):=by
 intro k
 induction k with
 |zero=>intro _ _;exact⟨λt ht=>(by
  have e:t=0:=Nat.le_zero.1 ht;rw[e,zat];decide),λt ht=>absurd ht (by omega)⟩
 |succ k ih=>
  intro hk hp;obtain⟨h1,h2⟩:=ih (by omega) (λt ht=>hp t (by omega))
  have e:ds.getD k 0=lead (rowF M) (k+1):=by
   have:=zlx (i:=k) (j:=k) (λt ht=>by have:=h1 t ht;omega) (zyk h k (by omega));rw[this,zbh]
  refine⟨λt ht=>?_,λt ht=>?_⟩
  ·rcases qC t (k+1)with hlt | hge
   ·exact h1 t (by omega)
   ·have:t=k+1:=by omega
    rw[this,<-e];exact hp k (by omega)
  ·rcases qC t k with hlt | hge
   ·exact h2 t hlt
   ·have:t=k:=by omega
    rw[this];exact e
theorem qbd{B n:Nat}{M:List (List Int)}{ds:List Int}(h:zeu B M n=some ds)(hp:∀t,t<=n->0<lead (rowF M) t):∀k,k<n->ds.getD k 0=lead (rowF M) (k+1):=by
 intro k hk;have:=zlx (i:=k) (j:=k) (λt ht=>by have:=hp t (by omega);omega) (zyk h k hk);rw[this,zbh]
theorem qbe{ds:List Int}:(ds.all λd=>decide (0<d))=true↔∀t,t<ds.length->0<ds.getD t 0:=by
 rw[List.all_eq_true];constructor
 ·intro h t ht;rw[qZ,qV ht];exact of_decide_eq_true (h _ (yK ht))
 ·intro h d hd;obtain⟨t,ht,rfl⟩:=List.mem_iff_getElem.1 hd;have:=h t ht;rw[qZ,qV ht]at this;exact decide_eq_true this
def szP(M:List (List Int))(i j:Nat):Prop:=2*stg (rowF M) j i j<=lead (rowF M) (j+1)/\ -(2*stg (rowF M) j i j)<=lead (rowF M) (j+1)
def lvP(M:List (List Int))(i:Nat):Prop:=3*(lead (rowF M) i*lead (rowF M) i)<=4*(lead (rowF M) (i-1)*lead (rowF M) (i+1)+stg (rowF M) (i-1) i (i-1)*stg (rowF M) (i-1) i (i-1))
section
variable{B n:Nat}{M:List (List Int)}{ds:List Int}
theorem zhe(h:zeu B M n=some ds)(hp:∀t,t<=n->0<lead (rowF M) t){k:Nat}(hk:k<=n):zdb ds k=lead (rowF M) k:=by
 unfold zdb;split
 ·rename_i e;rw[e,zat]
 ·rw[qbd h hp (k-1) (by omega)];congr 1;omega
theorem qmp(h:zeu B M n=some ds)(hp:∀t,t<=n->0<lead (rowF M) t){i j:Nat}(hj:j<n){b:Bool}(hb:zqc B M ds i j=some b):b=true↔szP M i j:=by
 unfold zqc at hb;simp only[qS,qP]at hb;obtain⟨l,hl,x,hx,rfl⟩:=hb;have e:=zlx (λt ht=>by have:=hp t (by omega);omega) (zhc hl).1;rw[decide_eq_true_eq,zhe h hp (by omega),e];unfold szP;omega
theorem jbq(h:zeu B M n=some ds)(hp:∀t,t<=n->0<lead (rowF M) t){i:Nat}(h0:0<i)(hi:i<n){b:Bool}(hb:lovO B M ds i=some b):b=true↔lvP M i:=by
 unfold lovO at hb;simp only[qS,qP]at hb;obtain⟨l,hl,p,hp1,q,hq,s,hs,x,hx,r,hr,y,hy,rfl⟩:=hb;have e:=zlx (λt ht=>by have:=hp t (by omega);omega) (zhc hl).1;obtain⟨rfl,_⟩:=zdc hp1;obtain⟨rfl,_⟩:=zdc hq;obtain⟨rfl,_⟩:=zdc hs;obtain⟨rfl,_⟩:=zdc hx;obtain⟨rfl,_⟩:=zdc hr;obtain⟨rfl,_⟩:=zdc hy;rw[decide_eq_true_eq,zhe h hp (by omega),zhe h hp (by omega),zhe h hp (by omega),e];exact Iff.rfl
theorem qdz(hs:Shp n M):symB M=true↔∀i j,i<n->j<n->rowF M i j=rowF M j i:=by
 rw[zqb,hs.len];constructor
 ·intro h i j hi hj;rcases qC j i with h1 | h1
  ·exact h i hi j h1
  ·rcases qC i j with h2 | h2
   ·exact(h j hj i h2).symm
   ·have:i=j:=by omega
    rw[this]
 ·intro h i hi j hj;exact h i j hi (by omega)
end
def Bnd(A:Nat)(M:List (List Int)):Prop:= ∀i j,(ent M i j).natAbs<=A
theorem jbr(x y:Int):(x/y).natAbs<=x.natAbs:=yQ x y
theorem zeg{x y:Int}{a b:Nat}(hx:x.natAbs<=a)(hy:y.natAbs<=b):(x*y).natAbs<=a*b:=by
 rw[Int.natAbs_mul];exact xY hx hy
theorem zly{B:Nat}{z:Int}(h:z.natAbs<B):ck B z=some z:=by unfold ck;rw[if_pos h]
section
variable{B n A:Nat}
theorem jfy{k i:Nat}{last:Int}(hki:k<i)(hi:i<n)(hl:last≠0)(hlA:last.natAbs<=A)(hB:2*(A*A)<B)(hA:A<B):∀(m j:Nat) (M:List (List Int)),Shp n M->k<j->j+m<=n->
  (∀i' l,(ent M i' l).natAbs<=2*(A*A))->(∀l,(ent M k l).natAbs<=A)->(∀i',(ent M i' k).natAbs<=A)->(∀l,j<=l->(ent M i l).natAbs<=A)->∃fin,elJ B k i last m j M=some fin/\Shp n fin/\∀i' l,(ent fin i' l).natAbs<=2*(A*A):=by
 intro m
 induction m with
 |zero=>intro j M h _ _ h1 _ _ _;exact⟨M,rfl,h,h1⟩
 |succ m ih=>
  intro j M h hj hm h1 h2 h3 h4;have p:=zeg (h2 k) (h4 j (qU _));have q:=zeg (h3 i) (h2 j);have s:(ent M k k*ent M i j-ent M i k*ent M k j).natAbs<=2*(A*A):=by omega
  have t:=jbr (ent M k k*ent M i j-ent M i k*ent M k j) last
  have hn:newE B M k i j last=some ((ent M k k*ent M i j-ent M i k*ent M k j)/last):=by
   unfold newE;rw[if_neg hl,zly (by omega),zly (by omega),zly (by omega)];simp only[qM];rw[zly (by omega)];simp only[qM];rw[zly (by omega)]
  have es:=λi' l=>h.ent_set (i:=i) (j:=j) (z:=(ent M k k*ent M i j-ent M i k*ent M k j)/last) hi (by omega) i' l
  simp only[elJ,hn,qM];refine ih (j+1) _ (h.set hi) (by omega) (by omega) (λi' l=>?_) (λl=>?_) (λi'=>?_) (λl hl=>?_)
  ·rw[es];split
   ·omega
   ·exact h1 i' l
  ·rw[es,if_neg (by omega)];exact h2 l
  ·rw[es,if_neg (by omega)];exact h3 i'
  ·rw[es,if_neg (by omega)];exact h4 l (by omega)
theorem jfz{k:Nat}{last:Int}(hl:last≠0)(hlA:last.natAbs<=A)(hB:2*(A*A)<B)(hA:A<B):∀(m i:Nat) (M:List (List Int)),Shp n M->k<i->i+m=n->
  (∀i' l,(ent M i' l).natAbs<=2*(A*A))->(∀l,(ent M k l).natAbs<=A)->(∀i',(ent M i' k).natAbs<=A)->(∀i' l,i<=i'->(ent M i' l).natAbs<=A)->∃fin,elI B n k last m i M=some fin/\Shp n fin/\∀i' l,(ent fin i' l).natAbs<=2*(A*A):=by
 intro m
 induction m with
 |zero=>intro i M h _ _ h1 _ _ _;exact⟨M,rfl,h,h1⟩
 |succ m ih=>
  intro i M h hi hm h1 h2 h3 h4;obtain⟨M1,e1,s1,b1⟩:=jfy hi (by omega) hl hlA hB hA (n-(k+1)) (k+1) M h (by omega) (by omega) h1 h2 h3 (λl _=>h4 i l (qU _));obtain⟨_,f1⟩:=qdx hi (by omega) (n-(k+1)) (k+1) M M1 h (by omega) (by omega) e1;simp only[elI,e1,qM];refine ih (i+1) M1 s1 (by omega) (by omega) b1 (λl=>?_) (λi'=>?_) (λi' l hi'=>?_)
  ·rw[f1,if_neg (by omega)];exact h2 l
  ·rw[f1,if_neg (by omega)];exact h3 i'
  ·rw[f1,if_neg (by omega)];exact h4 i' l (by omega)
def bndS(A:Nat):Nat->Nat
 |0=>A
 |k+1=>2*(bndS A k*bndS A k)
theorem zjz{M:List (List Int)}{p k:Nat}(h:Shp n M)(hp:p<n)(hk:k<n):Shp n (zec M p k)/\∀i l,ent (zec M p k) i l=ent M (if i=k then p else if i=p then k else i) l:=by
 have g:∀i,(zec M p k).getD i []=M.getD (if i=k then p else if i=p then k else i) []:=by
  intro i;unfold zec;rw[zjb (by rw[yV,h.len];exact hk)];split
  ·rfl
  ·rw[zjb (by rw[h.len];exact hp)];split<;>rfl
 refine⟨⟨by simp[zec,h.len],λi hi=>?_⟩,λi l=>by unfold ent;rw[g]⟩;rw[g];refine h.row _ ?_;split
 ·exact hp
 ·split<;>assumption
theorem jbs{A0:Nat}(hA0:1<=A0)(hB:∀k,k<=n->2*(bndS A0 k*bndS A0 k)<B):∀(m k:Nat) (M:List (List Int)) (last:Int) (neg:Bool),k+m=n->Shp n M->Bnd (bndS A0 k) M->last≠0->last.natAbs<=bndS A0 k->
  ∃d,detG B n m k M last neg=some d/\d.natAbs<=bndS A0 n:=by
 have pos:∀k,1<=bndS A0 k:=by
  intro k
  induction k with
  |zero=>exact hA0
  |succ k ih=>have:=xY ih ih;simp only[bndS];omega
 have mono:∀k,bndS A0 k<=bndS A0 (k+1):=by
  intro k;have:=xJ (bndS A0 k) (pos k);simp only[bndS];omega
 have monoN:∀m k,bndS A0 k<=bndS A0 (k+m):=by
  intro m
  induction m with
  |zero=>intro k;exact qU _
  |succ m ih=>intro k;exact xB (ih k) (mono (k+m))
 intro m
 induction m with
 |zero=>
  intro k M last neg hk _ _ _ hl;have:k=n:=by omega
  subst this;cases neg
  ·exact⟨last,by simp[detG],hl⟩
  ·exact⟨-last,by simp[detG],by omega⟩
 |succ m ih=>
  intro k M last neg hk hs hb hl0 hl;simp only[detG];by_cases hpn:piv M k (n-k) k=n
  ·rw[if_pos hpn];exact⟨0,rfl,by simp⟩
  ·rw[if_neg hpn];have hpl:=qwz (M:=M) (k:=k) (m:=n-k) (p:=k);have hpne:=jfc (M:=M) (k:=k) (m:=n-k) (p:=k) (by omega);generalize hpe:piv M k (n-k) k=p at*
   obtain⟨hs',hb',hne⟩:Shp n (if k<p then zec M p k else M)/\Bnd (bndS A0 k) (if k<p then zec M p k else M)/\ent (if k<p then zec M p k else M) k k≠0:=by
    by_cases hkp:k<p
    ·rw[if_pos hkp];obtain⟨g1,g2⟩:=zjz hs (p:=p) (k:=k) (by omega) (by omega);exact⟨g1,λi j=>by rw[g2];exact hb _ _,by rw[g2,if_pos rfl];exact hpne⟩
    ·rw[if_neg hkp];have:p=k:=by omega
     subst this;exact⟨hs,hb,hpne⟩
   generalize (if k<p then zec M p k else M)=M1 at*;have hB1:=hB k (by omega);have hA1:bndS A0 k<=2*(bndS A0 k*bndS A0 k):=mono k;obtain⟨M2,e2,s2,b2⟩:=jfz hl0 hl hB1 (by omega) (n-(k+1)) (k+1) M1 hs' (by omega) (by omega) (λi l=>xB (hb' i l) hA1) (λl=>hb' k l) (λi=>hb' i k) (λi l _=>hb' i l);obtain⟨_,f2⟩:=qdy (n-(k+1)) (k+1) M1 M2 hs' (by omega) (by omega) e2;have ek:ent M2 k k=ent M1 k k:=by rw[f2,if_neg (by omega)]
   rw[e2,qM];exact ih (k+1) M2 _ _ (by omega) s2 b2 (by rw[ek];exact hne) (by rw[ek];exact xB (hb' k k) (mono k))
theorem zvl{A0:Nat}{M:List (List Int)}(hA0:1<=A0)(hB:∀k,k<=n->2*(bndS A0 k*bndS A0 k)<B)(hs:Shp n M)(hb:Bnd A0 M):∃d,detO B M=some d/\d.natAbs<=bndS A0 n:=by
 unfold detO;rw[hs.len];exact jbs hA0 hB n 0 M 1 false (by omega) hs hb (by decide) hA0
theorem zlz{A0:Nat}(hA0:1<=A0):∀k,1<=bndS A0 k:=by
 intro k
 induction k with
 |zero=>exact hA0
 |succ k ih=>have:=xY ih ih;simp only[bndS];omega
theorem qmq{A0:Nat}(hA0:1<=A0):∀m k,bndS A0 k<=bndS A0 (k+m):=by
 intro m
 induction m with
 |zero=>intro k;exact qU _
 |succ m ih=>
  intro k;have:=xJ (bndS A0 (k+m)) (zlz hA0 (k+m));refine xB (ih k) ?_
  show _<=2*(bndS A0 (k+m)*bndS A0 (k+m))
  omega
structure FitN(N B A0:Nat):Prop where
 one:1<=A0
 fit:8*(bndS A0 N*bndS A0 N)<B
theorem FitN.all{N A0:Nat}(h:FitN N B A0){k:Nat}(hk:k<=N):bndS A0 k<=bndS A0 N/\2*(bndS A0 k*bndS A0 k)<B:=by
 have m:=qmq h.one (N-k) k;have e:k+(N-k)=N:=by omega
 rw[e]at m;have:=xY m m;have:=h.fit;exact⟨m,by omega⟩
theorem FitN.lt{N A0:Nat}(h:FitN N B A0):bndS A0 N<B:=by
 have:=xJ (bndS A0 N) (zlz h.one N);have:=h.fit;omega
theorem jbt{A0:Nat}{M:List (List Int)}(hb:Bnd A0 M)(i j:Nat):Bnd A0 (lamM M i j):=by
 intro s t;rcases qC j s with h | h
 ·have:ent (lamM M i j) s t=0:=by
   unfold ent
   have:(lamM M i j).getD s []=[]:=by
    rw[qZ,xN (by simp[lamM,selM];omega)];rfl
   rw[this];rfl
  rw[this];simp
 ·rcases qC j t with h2 | h2
  ·have:ent (lamM M i j) s t=0:=by
    have hl:=(qbc M i j).row s (by omega);unfold ent;rw[qZ,xN (by omega)];rfl
   rw[this];simp
  ·rw[qbb h h2];exact hb _ _
theorem qxd{N A0:Nat}{M:List (List Int)}(hF:FitN N B A0)(hb:Bnd A0 M){i j:Nat}(hj:j<N):∃d,detO B (lamM M i j)=some d/\d.natAbs<=bndS A0 N:=by
 obtain⟨d,h1,h2⟩:=zvl (B:=B) hF.one (λk hk=>(hF.all (k:=k) (by omega)).2) (qbc M i j) (jbt hb i j);exact⟨d,h1,xB h2 (hF.all (k:=j+1) (by omega)).1⟩
theorem zvm{N A0:Nat}{M:List (List Int)}(hF:FitN N B A0)(hb:Bnd A0 M):∀k,k<=N->∃ds,zeu B M k=some ds/\∀z∈ds,z.natAbs<=bndS A0 N:=by
 intro k
 induction k with
 |zero=>intro _;exact⟨[],rfl,λz h=>by simp at h⟩
 |succ k ih=>
  intro hk;obtain⟨l,h1,h2⟩:=ih (by omega);obtain⟨d,h3,h4⟩:=qxd hF hb (i:=k) (j:=k) (by omega);refine⟨l++[d],?_,λz hz=>?_⟩
  ·simp only[zeu,h1,qM,zgt,h3];rw[zly (yX h4 hF.lt)];rfl
  ·rcases List.mem_append.1 hz with e | e
   ·exact h2 z e
   ·have:z=d:=by simpa using e
    rw[this];exact h4
theorem zjc{N A0:Nat}(hF:FitN N B A0){ds:List Int}(h:∀z∈ds,z.natAbs<=bndS A0 N)(k:Nat):(zdb ds k).natAbs<=bndS A0 N:=by
 unfold zdb;split
 ·exact zlz hF.one N
 ·rw[qZ];cases e:ds[k-1]? with
  |none=>simp
  |some z=>exact h z (zW e)
theorem qbf{N A0:Nat}{M:List (List Int)}(hF:FitN N B A0)(hb:Bnd A0 M){i j:Nat}(hj:j<N):∃l,lamO B M i j=some l/\l.natAbs<=bndS A0 N:=by
 obtain⟨d,h3,h4⟩:=qxd hF hb (i:=i) (j:=j) hj;refine⟨d,?_,h4⟩;unfold lamO;rw[h3,qM,zly (yX h4 hF.lt)]
theorem qmr{N A0:Nat}{M:List (List Int)}{ds:List Int}(hF:FitN N B A0)(hb:Bnd A0 M){i j:Nat}(hj:j<N):∃b,zqc B M ds i j=some b:=by
 obtain⟨l,h1,h2⟩:=qbf hF hb (i:=i) (j:=j) hj;have:=hF.fit;have:=xJ (bndS A0 N) (zlz hF.one N);unfold zqc;rw[h1,qM,zly (by omega)];exact⟨_,rfl⟩
theorem jbu{N A0:Nat}{M:List (List Int)}{ds:List Int}(hF:FitN N B A0)(hb:Bnd A0 M)(hd:∀z∈ds,z.natAbs<=bndS A0 N){i:Nat}(hi:i-1<N):∃b,lovO B M ds i=some b:=by
 obtain⟨l,h1,h2⟩:=qbf hF hb (i:=i) (j:=i-1) hi;have hf:=hF.fit;have p:=zeg (zjc hF hd (i-1)) (zjc hF hd (i+1));have q:=zeg h2 h2;have r:=zeg (zjc hF hd i) (zjc hF hd i);unfold lovO;rw[h1,qM,zly (by omega),qM,zly (by omega),qM,zly (by omega),qM,zly (by omega),qM,zly (by omega),qM,zly (by omega)];exact⟨_,rfl⟩
end
end Go.Proofs.YtgfbaioffpcelaaGreatDoor
namespace Go.Det
theorem zvn{a:Nat->Row}{k j c:Nat}(hj:j<k):stg a k j c=0:=by
 unfold stg bord;have hm:a j∈zdm a k:=by simp only[zdm,List.mem_map,List.mem_range];exact⟨j,hj,rfl⟩
 exact qdu (qmk _) (qml _) (L2:=[]) hm
def addG(a:Nat->Row)(i j:Nat)(c:Int):Nat->Row:=λs t=>a s t+(if s=i then c*a j t else 0)+(if t=i then c*a s j else 0)+(if s=i/\t=i then c*c*a j j else 0)
theorem qms{a:Nat->Row}{i j:Nat}{c:Int}(hji:j<i)(hp:∀t,t<=i->lead a t≠0):∀k,k<=i->(∀t,t<=k->lead (addG a i j c) t=lead a t)/\
  ∀s t,stg (addG a i j c) k s t=stg a k s t+(if s=i then c*stg a k j t else 0)+(if t=i then c*stg a k s j else 0)+(if s=i/\t=i then c*c*stg a k j j else 0):=by
 intro k
 induction k with
 |zero=>
  intro _;refine⟨λt ht=>?_,λs t=>?_⟩
  ·have:t=0:=Nat.le_zero.1 ht;subst this;rfl
  ·simp only[zda];rfl
 |succ k ih=>
  intro hk;obtain⟨h1,h2⟩:=ih (by omega);have hki:k≠i:=by omega
  have hl:lead (addG a i j c) (k+1)=lead a (k+1):=by
   rw[zbh,h2,if_neg hki,if_neg hki,if_neg (λe=>hki e.1),zbh];omega
  refine⟨λt ht=>?_,λs t=>?_⟩
  ·rcases qC t (k+1)with e | e
   ·exact h1 t (by omega)
   ·have:t=k+1:=by omega
    rw[this];exact hl
  ·have hne:∀t,t<=k->lead (addG a i j c) t≠0:=λt ht=>by rw[h1 t ht];exact hp t (by omega)
   have hne0:∀t,t<=k->lead a t≠0:=λt ht=>hp t (by omega)
   have e:=zcg hne s t;rw[h1 k (qU _),hl,h2 s t,h2 s k,h2 k t]at e;simp only[hki,and_false,false_and,if_false,qT]at e;have r1:=zcg hne0 s t;have r2:=zcg hne0 j t;have r3:=zcg hne0 s j;have r4:=zcg hne0 j j;refine qL (hp k (by omega)) ?_;rw[e];by_cases hs:s=i
   ·by_cases ht:t=i
    ·subst hs ht;simp only[and_self,if_true];grind
    ·simp only[hs,ht,if_true,if_false,and_false];subst hs;grind
   ·by_cases ht:t=i
    ·simp only[hs,ht,if_true,if_false,false_and];subst ht;grind
    ·simp only[hs,ht,if_false,false_and];grind
theorem qea{a:Nat->Row}{i j n:Nat}{c:Int}(hji:j<i)(hp:∀t,t<=n->lead a t≠0)(hin:i<=n):∀m,i+m<=n->(∀t,t<=i+m->lead (addG a i j c) t=lead a t)/\∀s t,stg (addG a i j c) (i+m) s t=stg a (i+m) s t:=by
 intro m
 induction m with
 |zero=>
  intro _;obtain⟨h1,h2⟩:=qms (c:=c) hji (λt ht=>hp t (by omega)) i (qU _);refine⟨h1,λs t=>?_⟩;have z1:∀t,stg a i j t=0:=λt=>zvn hji
  have z2:∀s,stg a i s j=0:=λs=>zvk (λt ht=>hp t (by omega)) s j hji
  rw[yP,h2,z1,z1,z2];simp
 |succ m ih=>
  intro hm;obtain⟨h1,h2⟩:=ih (by omega);have hl:lead (addG a i j c) (i+m+1)=lead a (i+m+1):=by rw[zbh,h2,zbh]
  refine⟨λt ht=>?_,λs t=>?_⟩
  ·rcases qC t (i+m+1)with e | e
   ·exact h1 t (by omega)
   ·have:t=i+m+1:=by omega
    rw[this];exact hl
  ·have hne:∀t,t<=i+m->lead (addG a i j c) t≠0:=λt ht=>by rw[h1 t ht];exact hp t (by omega)
   have hne0:∀t,t<=i+m->lead a t≠0:=λt ht=>hp t (by omega)
   have e:=zcg hne s t;rw[h1 _ (qU _),hl,h2,h2,h2,<-zcg hne0 s t]at e;exact qL (hne0 _ (qU _)) e
theorem zma{a:Nat->Row}{i j n:Nat}{c:Int}(hji:j<i)(hin:i<n)(hp:∀t,t<=n->lead a t≠0){t:Nat}(ht:t<=n):lead (addG a i j c) t=lead a t:=by
 have:=(qea (c:=c) hji hp (by omega) (n-i) (by omega)).1 t (by omega);exact this
theorem jbv{a:Nat->Row}{i j n:Nat}{c:Int}(hji:j<i)(hin:i<n)(hp:∀t,t<=n->lead a t≠0){s t:Nat}(hts:t<s)(hs:s<n):
  stg (addG a i j c) t s t=stg a t s t+if s=i then(if t<=j then c*stg a t j t else 0)else 0:=by
 rcases qC t i with hlt | hge
 ·rw[(qms (c:=c) hji (λt ht=>hp t (by omega)) t (by omega)).2 s t];rw[if_neg (show¬t=i by omega),if_neg (show¬(s=i/\t=i) by omega)];by_cases e:s=i
  ·rw[if_pos e,if_pos e];by_cases h:t<=j
   ·rw[if_pos h];omega
   ·rw[if_neg h,zvn (show j<t by omega)];simp
  ·rw[if_neg e,if_neg e];omega
 ·obtain⟨m,rfl⟩:∃m,t=i+m:=⟨t-i,by omega⟩
  rw[(qea (c:=c) hji hp (by omega) m (by omega)).2 s (i+m),if_neg (by omega)];omega
def sw(p:Nat)(s:Nat):Nat:=if s=p then p+1 else if s=p+1 then p else s
theorem qhc{p s:Nat}(h1:s≠p)(h2:s≠p+1):sw p s=s:=by unfold sw;rw[if_neg h1,if_neg h2]
theorem sw_p{p:Nat}:sw p p=p+1:=by unfold sw;rw[if_pos rfl]
theorem sw_q{p:Nat}:sw p (p+1)=p:=by unfold sw;rw[if_neg (by omega),if_pos rfl]
def swG(a:Nat->Row)(p:Nat):Nat->Row:=λs t=>a (sw p s) (sw p t)
theorem qmt{a:Nat->Row}{p:Nat}(hp:∀t,t<=p->lead a t≠0):∀k,k<=p->(∀t,t<=k->lead (swG a p) t=lead a t)/\∀s t,stg (swG a p) k s t=stg a k (sw p s) (sw p t):=by
 intro k
 induction k with
 |zero=>
  intro _;refine⟨λt ht=>?_,λs t=>by simp only[zda];rfl⟩;have:t=0:=Nat.le_zero.1 ht;subst this;rfl
 |succ k ih=>
  intro hk;obtain⟨h1,h2⟩:=ih (by omega);have hkk:sw p k=k:=qhc (by omega) (by omega);have hl:lead (swG a p) (k+1)=lead a (k+1):=by rw[zbh,h2,hkk,zbh]
  refine⟨λt ht=>?_,λs t=>?_⟩
  ·rcases qC t (k+1)with e | e
   ·exact h1 t (by omega)
   ·have:t=k+1:=by omega
    rw[this];exact hl
  ·have hne:∀t,t<=k->lead (swG a p) t≠0:=λt ht=>by rw[h1 t ht];exact hp t (by omega)
   have hne0:∀t,t<=k->lead a t≠0:=λt ht=>hp t (by omega)
   have e:=zcg hne s t;rw[h1 k (qU _),hl,h2,h2,h2,hkk,<-zcg hne0]at e;exact qL (hp k (by omega)) e
theorem jga{a:Nat->Row}{n p:Nat}(hs:∀i j,i<n->j<n->a i j=a j i)(hpn:p+1<n)(hp:∀t,t<=p+1->lead a t≠0):
  lead a (p+1)*lead (swG a p) (p+1)=lead a p*lead a (p+2)+stg a p (p+1) p*stg a p (p+1) p:=by
 have h2:=(qmt (λt ht=>hp t (by omega)) p (qU _)).2;have r:=zcg (a:=a) (k:=p) (λt ht=>hp t (by omega)) (p+1) (p+1);have sy:=zge hs p (by omega) (λt ht=>hp t (by omega)) p (p+1) (by omega) hpn (qU _) (by omega);rw[zbh (swG a p) p,h2,sw_p,zbh a (p+1)];rw[sy]at r;omega
theorem dd(d U V W Z:Int):d*d*(U*V-W*Z)=d*U*(d*V)-d*W*(d*Z):=by grind
theorem jis(a11 a12 a21 a22 a1t a2t as1 as2 ast:Int):(a11*a22-a21*a12)*(a11*ast-as1*a1t)-(a11*as2-as1*a12)*(a11*a2t-a21*a1t)=a11*(a11*(a22*ast-as2*a2t)-a12*(a21*ast-as1*a2t)+a1t*(a21*as2-as1*a22)):=by grind
theorem jit(a11 a12 a21 a22 a1t a2t as1 as2 ast:Int):(a11*a22-a21*a12)*(a22*ast-as2*a2t)-(a22*as1-as2*a21)*(a22*a1t-a12*a2t)=a22*(a11*(a22*ast-as2*a2t)-a12*(a21*ast-as1*a2t)+a1t*(a21*as2-as1*a22)):=by grind
theorem mlc(u d x:Int):u*(d*d*x)=d*d*(u*x):=by grind
theorem jbw{a:Nat->Row}{n p:Nat}(hs:∀i j,i<n->j<n->a i j=a j i)(hpn:p+1<n)(hp:∀t,t<=n->lead a t≠0)(hm:lead (swG a p) (p+1)≠0):
  ∀m,p+2+m<=n->(∀t,t<=p+2+m->t≠p+1->lead (swG a p) t=lead a t)/\∀s t,stg (swG a p) (p+2+m) s t=stg a (p+2+m) (sw p s) (sw p t):=by
 have ne0:∀{k},k<=n->∀t,t<=k->lead a t≠0:=λhk t ht=>hp t (by omega)
 obtain⟨l1,l2⟩:=qmt (a:=a) (p:=p) (ne0 (by omega)) p (qU _);have np:∀t,t<=p->lead (swG a p) t≠0:=λt ht=>by rw[l1 t ht];exact hp t (by omega)
 have np1:∀t,t<=p+1->lead (swG a p) t≠0:=λt ht=>by
  rcases qC t (p+1)with e | e
  ·exact np t (by omega)
  ·have:t=p+1:=by omega
   rw[this];exact hm
 have e1:lead (swG a p) (p+1)=stg a p (p+1) (p+1):=by rw[zbh,l2,sw_p]
 have dp:lead a (p+1)=stg a p p p:=zbh a p;have A:∀s t,lead a p*stg a (p+1) s t=stg a p p p*stg a p s t-stg a p s p*stg a p p t:=λs t=>by rw[<-dp];exact zcg (ne0 (by omega)) s t
 have B:∀s t,lead a p*stg (swG a p) (p+1) s t=stg a p (p+1) (p+1)*stg a p (sw p s) (sw p t)-stg a p (sw p s) (p+1)*stg a p (p+1) (sw p t):=λs t=>by
  have:=zcg np s t;rw[l1 p (qU _),e1,l2,l2,l2,sw_p]at this;exact this
 have q2:lead (swG a p) (p+2)=lead a (p+2):=by
  rw[zbh (swG a p) (p+1),zbh a (p+1)];refine qL (hp p (by omega)) ?_;rw[A,B,sw_q];grind
 intro m
 induction m with
 |zero=>
  intro _;refine⟨λt ht hne=>?_,λs t=>?_⟩
  ·rcases qC t (p+1)with e | e
   ·exact l1 t (by omega)
   ·have:t=p+2:=by omega
    rw[this];exact q2
  ·have ra:=zcg (a:=a) (k:=p+1) (ne0 (by omega)) (sw p s) (sw p t);have rb:=zcg np1 s t;rw[q2,e1]at rb;rw[dp]at ra;have x1:=A (sw p s) (sw p t);have x2:=A (sw p s) (p+1);have x3:=A (p+1) (sw p t);have x4:=A (p+1) (p+1);have y1:=B s t;have y2:=B s (p+1);have y3:=B (p+1) t;rw[sw_q]at y2 y3;have hd2:=zbh a (p+1);rw[hd2]at ra rb
   have key:lead a p*lead a p*stg (swG a p) (p+2) s t=lead a p*lead a p*stg a (p+2) (sw p s) (sw p t):=by
    have ka:stg a p p p*(lead a p*lead a p*stg a (p+1+1) (sw p s) (sw p t))=stg a p p p*(stg a p p p*(stg a p (p+1) (p+1)*stg a p (sw p s) (sw p t)-stg a p (sw p s) (p+1)*stg a p (p+1) (sw p t))-stg a p p (p+1)*(stg a p (p+1) p*stg a p (sw p s) (sw p t)-stg a p (sw p s) p*stg a p (p+1) (sw p t))+stg a p p (sw p t)*(stg a p (p+1) p*stg a p (sw p s) (p+1)-stg a p (sw p s) p*stg a p (p+1) (p+1))):=by
     rw[mlc,ra,dd,x1,x2,x3,x4,jis]
    have kb:stg a p (p+1) (p+1)*(lead a p*lead a p*stg (swG a p) (p+1+1) s t)=stg a p (p+1) (p+1)*(stg a p p p*(stg a p (p+1) (p+1)*stg a p (sw p s) (sw p t)-stg a p (sw p s) (p+1)*stg a p (p+1) (sw p t))-stg a p p (p+1)*(stg a p (p+1) p*stg a p (sw p s) (sw p t)-stg a p (sw p s) p*stg a p (p+1) (sw p t))+stg a p p (sw p t)*(stg a p (p+1) p*stg a p (sw p s) (p+1)-stg a p (sw p s) p*stg a p (p+1) (p+1))):=by
     rw[mlc,rb,dd,x4,y1,y2,y3,jit]
    have n1:stg a p p p≠0:=by rw[<-dp];exact hp (p+1) (by omega)
    have n2:stg a p (p+1) (p+1)≠0:=by rw[<-e1];exact hm
    exact(qL n2 kb).trans (qL n1 ka).symm
   have h0:=hp p (by omega);exact qL (Int.mul_ne_zero h0 h0) key
 |succ m ih=>
  intro hm';obtain⟨h1,h2⟩:=ih (by omega);have hk:sw p (p+2+m)=p+2+m:=qhc (by omega) (by omega);have hl:lead (swG a p) (p+2+m+1)=lead a (p+2+m+1):=by rw[zbh,h2,hk,zbh]
  refine⟨λt ht hne=>?_,λs t=>?_⟩
  ·rcases qC t (p+2+m+1)with e | e
   ·exact h1 t (by omega) hne
   ·have:t=p+2+m+1:=by omega
    rw[this];exact hl
  ·have hne:∀t,t<=p+2+m->lead (swG a p) t≠0:=λt ht=>by
    rcases qC t (p+2)with e | e
    ·exact np1 t (by omega)
    ·rw[h1 t ht (by omega)];exact hp t (by omega)
   have e:=zcg hne s t;rw[h1 _ (qU _) (by omega),hl,h2,h2,h2,hk,<-zcg (ne0 (by omega))]at e;exact qL (hp _ (by omega)) e
theorem jbx{a:Nat->Row}{n p:Nat}(hs:∀i j,i<n->j<n->a i j=a j i)(hpn:p+1<n)(hp:∀t,t<=n->0<lead a t)(hlov:¬3*(lead a (p+1)*lead a (p+1))<=4*(lead a p*lead a (p+2)+stg a p (p+1) p*stg a p (p+1) p)):
  (∀t,t<=n->t≠p+1->lead (swG a p) t=lead a t)/\0<lead (swG a p) (p+1)/\lead (swG a p) (p+1)<lead a (p+1):=by
 have hne:∀t,t<=n->lead a t≠0:=λt ht=>by have:=hp t ht;omega
 have mid:=jga hs hpn (λt ht=>hne t (by omega));have p0:=hp p (by omega);have p1:=hp (p+1) (by omega);have p2:=hp (p+2) (by omega);have m1:=xU p0 p2
 have m2:0<=stg a p (p+1) p*stg a p (p+1) p:=by
  rcases Int.le_total 0 (stg a p (p+1) p)with h | h
  ·exact qB h h
  ·exact yZ h h
 have pm:0<lead (swG a p) (p+1):=by
  have:0<lead a (p+1)*lead (swG a p) (p+1):=by omega
  rcases(by omega:lead (swG a p) (p+1)<=0\/0<lead (swG a p) (p+1))with h | h
  ·have:=qK h (show 0<=lead a (p+1) by omega);omega
  ·exact h
 refine⟨λt ht hne2=>?_,pm,?_⟩
 ·rcases qC t (p+2)with e | e
  ·exact(qmt (λt ht=>hne t (by omega)) p (qU _)).1 t (by omega)
  ·exact(jbw hs hpn hne (by omega) (n-(p+2)) (by omega)).1 t (by omega) hne2
 ·have h1:lead a (p+1)*lead (swG a p) (p+1)<lead a (p+1)*lead a (p+1):=by
   have:=xU p1 p1;omega
  exact Int.lt_of_mul_lt_mul_left h1 (by omega)
structure Pos(n:Nat)(D:Int)(a:Nat->Row):Prop where
 sym:∀i j,i<n->j<n->a i j=a j i
 pos:∀k,k<=n->0<lead a k
 le:∀k,k<=n->lead a k<=D
section
variable{n:Nat}{D:Int}{a:Nat->Row}
theorem Pos.ne(h:Pos n D a){k:Nat}(hk:k<=n):∀t,t<=k->lead a t≠0:=λt ht=>by have:=h.pos t (by omega);omega
theorem Pos.sq(h:Pos n D a){s k:Nat}(hs:s<n)(hk:k<s):lead a k*stg a (k+1) s s=lead a (k+1)*stg a k s s-stg a k s k*stg a k s k:=by
 have e:=zcg (h.ne (k:=k) (by omega)) s s;rw[zge h.sym k (by omega) (h.ne (by omega)) k s (by omega) hs (qU _) (by omega)]at e;exact e
theorem sq_nonneg(x:Int):0<=x*x:=by
 rcases Int.le_total 0 x with h | h
 ·exact qB h h
 ·exact yZ h h
theorem qhd{x y:Int}(hx:0<x)(h:0<x*y):0<y:=by
 rcases(by omega:y<=0\/0<y)with h2 | h2
 ·have:=qK h2 (show 0<=x by omega);omega
 ·exact h2
theorem Pos.diag(h:Pos n D a){s:Nat}(hs:s<n):∀m k,k+m=s->0<stg a k s s:=by
 intro m
 induction m with
 |zero=>
  intro k hk;have:k=s:=by omega
  subst this;rw[<-zbh];exact h.pos _ (by omega)
 |succ m ih=>
  intro k hk;have e:=h.sq hs (show k<s by omega);have h1:=ih (k+1) (by omega);have h2:=xU (h.pos k (by omega)) h1;have h3:=sq_nonneg (stg a k s k);exact qhd (h.pos (k+1) (by omega)) (by omega)
theorem Pos.down(h:Pos n D a){s:Nat}(hs:s<n):∀k,k<=s->stg a k s s<=lead a k*a s s:=by
 intro k
 induction k with
 |zero=>intro _;rw[zda,zat];omega
 |succ k ih=>
  intro hk;have e:=h.sq hs (show k<s by omega);have h3:=sq_nonneg (stg a k s k);have h1:=qK (ih (by omega)) (show 0<=lead a (k+1) by have:=h.pos (k+1) (by omega);omega)
  have h2:lead a k*stg a (k+1) s s<=lead a k*(lead a (k+1)*a s s):=by
   have:lead a (k+1)*(lead a k*a s s)=lead a k*(lead a (k+1)*a s s):=by grind
   omega
  exact qH h2 (h.pos k (by omega))
theorem Pos.lam_sq(h:Pos n D a){s k:Nat}(hs:s<n)(hk:k<s):stg a k s k*stg a k s k<=lead a (k+1)*(lead a k*a s s):=by
 have e:=h.sq hs hk;have h1:=xU (h.pos k (by omega)) (h.diag hs (s-(k+1)) (k+1) (by omega));have h2:=qK (h.down hs k (by omega)) (show 0<=lead a (k+1) by have:=h.pos (k+1) (by omega);omega);omega
theorem zjd{x m:Int}(hm:0<=m)(h:x*x<=m*m):x<=m/\ -m<=x:=by
 constructor
 ·rcases(by omega:x<=m\/m<x)with h1 | h1
  ·exact h1
  ·have h2:=qK (show m+1<=x by omega) (show 0<=x by omega);have h3:=qW (show m+1<=x by omega) (show 0<=m+1 by omega);have e1:(m+1)*(m+1)=m*m+2*m+1:=by grind
   have e2:x*(m+1)=(m+1)*x:=xL _ _;omega
 ·rcases(by omega: -m<=x\/x< -m)with h1 | h1
  ·exact h1
  ·have h2:=qK (show m+1<= -x by omega) (show 0<= -x by omega);have h3:=qW (show m+1<= -x by omega) (show 0<=m+1 by omega);have e1:(m+1)*(m+1)=m*m+2*m+1:=by grind
   have e2: -x*(m+1)=(m+1)* -x:=xL _ _;have e3: -x* -x=x*x:=by grind
   omega
theorem Pos.one(h:Pos n D a):1<=D:=by have:=h.le 0 (by omega);rw[zat]at this;omega
theorem Pos.lam_le(h:Pos n D a){s k:Nat}{K:Int}(hs:s<n)(hk:k<s)(hK:a s s<=K)(hK1:1<=K):stg a k s k<=lead a (k+1)*(K*D)/\ -(lead a (k+1)*(K*D))<=stg a k s k:=by
 have p1:=h.pos (k+1) (by omega);have p0:=h.pos k (by omega);have l0:=h.le k (by omega);have hD:=h.one;have hKD:1<=K*D:=by have:=qK hD (show 0<=K by omega);omega
 refine zjd (qB (by omega) (by omega)) ?_;have q:=h.lam_sq hs hk
 have q1:lead a k*a s s<=D*K:=by
  have m1:=qK hK (show 0<=lead a k by omega);have m2:=qW l0 (show 0<=K by omega);omega
 have q2:=qK q1 (show 0<=lead a (k+1) by omega);have c:D*K=K*D:=xL _ _
 have q3:lead a (k+1)*(K*D)<=(lead a (k+1)*(K*D))*(lead a (k+1)*(K*D)):=by
  have z:1<=lead a (k+1)*(K*D):=by have:=qK hKD (show 0<=lead a (k+1) by omega);omega
  have:=qK z (show 0<=lead a (k+1)*(K*D) by omega);omega
 rw[c]at q2;omega
theorem Pos.norm_le(h:Pos n D a){s:Nat}(hs:s<n){m:Int}(hl:∀k,k<s->stg a k s k<=lead a (k+1)*m/\ -(lead a (k+1)*m)<=stg a k s k):∀c k,k+c=s->stg a k s s<=lead a k*(D+(c:Int)*(D*(m*m))):=by
 intro c
 induction c with
 |zero=>
  intro k hk;have:k=s:=by omega
  subst this;rw[<-zbh];have h1:=h.le (k+1) (by omega);have h0:=h.pos k (by omega);have:=qW (show(1:Int)<=lead a k by omega) (show 0<=D by have:=h.one;omega);have e:lead a k*(D+((0:Nat):Int)*(D*(m*m)))=lead a k*D:=by simp
  omega
 |succ c ih=>
  intro k hk;have e:=h.sq hs (show k<s by omega);have i1:=ih (k+1) (by omega);obtain⟨l1,l2⟩:=hl k (by omega);have q:=jfw l1 l2;have p0:=h.pos k (by omega);have p1:=h.pos (k+1) (by omega);have d1:=h.le (k+1) (by omega);have m1:=qK i1 (show 0<=lead a k by omega);have mm:=sq_nonneg m
  have x1:lead a (k+1)*(lead a (k+1)*(m*m))<=lead a (k+1)*(lead a k*(D*(m*m))):=by
   refine qK ?_ (by omega);have y1:=qW d1 mm;have y2:=qW (show(1:Int)<=lead a k by omega) (qB (show 0<=D by omega) mm);omega
  have z:lead a (k+1)*stg a k s s<=lead a (k+1)*(lead a k*(D+((c+1:Nat):Int)*(D*(m*m)))):=by
   have e1:lead a (k+1)*m*(lead a (k+1)*m)=lead a (k+1)*(lead a (k+1)*(m*m)):=by grind
   have e2:lead a k*(lead a (k+1)*(D+(c:Int)*(D*(m*m))))=lead a (k+1)*(lead a k*(D+(c:Int)*(D*(m*m)))):=by grind
   have e3:lead a (k+1)*(lead a k*(D+((c+1:Nat):Int)*(D*(m*m))))=lead a (k+1)*(lead a k*(D+(c:Int)*(D*(m*m))))+lead a (k+1)*(lead a k*(D*(m*m))):=by
    have:((c+1:Nat):Int)=(c:Int)+1:=by omega
    rw[this];grind
   omega
  exact qH z p1
theorem Pos.norm(h:Pos n D a){s:Nat}(hs:s<n){m:Int}(hl:∀k,k<s->stg a k s k<=lead a (k+1)*m/\ -(lead a (k+1)*m)<=stg a k s k):a s s<=D+(s:Int)*(D*(m*m)):=by
 have:=h.norm_le hs hl s 0 (by omega);rw[zda,zat]at this;omega
theorem Pos.entry(h:Pos n D a){s t:Nat}(hs:s<n)(ht:t<=s):∀m k,k+m=t->2*stg a k s t<=stg a k s s+stg a k t t/\ -(2*stg a k s t)<=stg a k s s+stg a k t t:=by
 intro m
 induction m with
 |zero=>
  intro k hk;have hkt:k=t:=by omega
  subst hkt;rcases qC k s with h1 | h1
  ·have e:=h.sq hs h1;have p:=xU (h.pos k (by omega)) (h.diag hs (s-(k+1)) (k+1) (by omega));have d:=zbh a k;rw[d]at e;have p1:=h.diag hs (s-k) k (by omega);have p2:0<stg a k k k:=by rw[<-d];exact h.pos _ (by omega)
   have q:2*stg a k s k*(2*stg a k s k)<=(stg a k s s+stg a k k k)*(stg a k s s+stg a k k k):=by
    have w:=sq_nonneg (stg a k s s-stg a k k k);have e1:(stg a k s s-stg a k k k)*(stg a k s s-stg a k k k)=(stg a k s s+stg a k k k)*(stg a k s s+stg a k k k)-4*(stg a k k k*stg a k s s):=by grind
    have e2:2*stg a k s k*(2*stg a k s k)=4*(stg a k s k*stg a k s k):=by grind
    omega
   have:=zjd (by omega) q;omega
  ·have:k=s:=by omega
   subst this;have:=h.diag hs 0 k (by omega);omega
 |succ m ih=>
  intro k hk;obtain⟨i1,i2⟩:=ih (k+1) (by omega);have e1:=h.sq hs (show k<s by omega);have e2:=h.sq (show t<n by omega) (show k<t by omega);have hn:=h.ne (k:=k) (by omega);have e3:=zcg hn s t;rw[zge h.sym k (by omega) hn k t (by omega) (by omega) (qU _) (by omega)]at e3;have p0:=h.pos k (by omega);have p1:=h.pos (k+1) (by omega);have w1:=sq_nonneg (stg a k s k-stg a k t k);have w2:=sq_nonneg (stg a k s k+stg a k t k);have f1:(stg a k s k-stg a k t k)*(stg a k s k-stg a k t k)=stg a k s k*stg a k s k+stg a k t k*stg a k t k-2*(stg a k s k*stg a k t k):=by grind
  have f2:(stg a k s k+stg a k t k)*(stg a k s k+stg a k t k)=stg a k s k*stg a k s k+stg a k t k*stg a k t k+2*(stg a k s k*stg a k t k):=by grind
  have m1:=qK i1 (show 0<=lead a k by omega);have m2:=qK i2 (show 0<=lead a k by omega);have g1:lead a k*(2*stg a (k+1) s t)=2*(lead a k*stg a (k+1) s t):=by grind
  have g2:lead a k*(-(2*stg a (k+1) s t))= -(2*(lead a k*stg a (k+1) s t)):=by grind
  have g3:lead a k*(stg a (k+1) s s+stg a (k+1) t t)=lead a k*stg a (k+1) s s+lead a k*stg a (k+1) t t:=by grind
  have c1:lead a (k+1)*(2*stg a k s t)<=lead a (k+1)*(stg a k s s+stg a k t t):=by
   have h1:lead a (k+1)*(2*stg a k s t)=2*(lead a (k+1)*stg a k s t):=by grind
   have h2:lead a (k+1)*(stg a k s s+stg a k t t)=lead a (k+1)*stg a k s s+lead a (k+1)*stg a k t t:=by grind
   omega
  have c2:lead a (k+1)*(-(2*stg a k s t))<=lead a (k+1)*(stg a k s s+stg a k t t):=by
   have h1:lead a (k+1)*(-(2*stg a k s t))= -(2*(lead a (k+1)*stg a k s t)):=by grind
   have h2:lead a (k+1)*(stg a k s s+stg a k t t)=lead a (k+1)*stg a k s s+lead a (k+1)*stg a k t t:=by grind
   omega
  exact⟨qH c1 p1,qH c2 p1⟩
theorem Pos.bound(h:Pos n D a){K:Int}(hK:∀s,s<n->a s s<=K){s t:Nat}(hs:s<n)(ht:t<n):a s t<=K/\ -K<=a s t:=by
 have key:∀s t,s<n->t<=s->a s t<=K/\ -K<=a s t:=by
  intro s t hs ht;have:=h.entry hs ht t 0 (by omega);simp only[zda]at this;have:=hK s hs;have:=hK t (by omega);omega
 rcases Nat.le_total t s with h1 | h1
 ·exact key s t hs h1
 ·rw[h.sym s t hs ht];exact key t s ht h1
end
def SZ(a:Nat->Row)(i j:Nat):Prop:=2*stg a j i j<=lead a (j+1)/\ -(2*stg a j i j)<=lead a (j+1)
def LV(a:Nat->Row)(i:Nat):Prop:=3*(lead a i*lead a i)<=4*(lead a (i-1)*lead a (i+1)+stg a (i-1) i (i-1)*stg a (i-1) i (i-1))
def OKr(a:Nat->Row)(i:Nat):Prop:=(∀j,j<i->SZ a i j)/\(0<i->LV a i)
structure CurA(n:Nat)(a:Nat->Row)(i j:Nat):Prop where
 hi:i<n
 hj:j<i
 pre:∀s,s<i->OKr a s
 up:∀l,j<l->l<i->SZ a i l
 no:¬SZ a i j
structure CurS(n:Nat)(a:Nat->Row)(i:Nat):Prop where
 hi:i<n
 h0:0<i
 pre:∀s,s<i->OKr a s
 up:∀l,l<i->SZ a i l
 no:¬LV a i
structure Good(n:Nat)(D K:Int)(a:Nat->Row):Prop where
 cA:∀i j,CurA n a i j->(∀s,s<n->s≠i->a s s<=K)/\∀l,l<=j->stg a l i l<=lead a (l+1)*(2^(i-1-j)*(K*D))/\ -(lead a (l+1)*(2^(i-1-j)*(K*D)))<=stg a l i l
 cS:∀i,CurS n a i->∀s,s<n->a s s<=K
 cE:(∀i,i<n->OKr a i)->∀s,s<n->a s s<=K
section
variable{n:Nat}{D K:Int}{a:Nat->Row}
theorem zvo(e:Nat):(1:Int)<=2^e:=by
 induction e with
 |zero=>decide
 |succ e ih=>rw[zT];omega
theorem zyl{e f:Nat}(h:e<=f):(2:Int)^e<=2^f:=by
 induction f with
 |zero=>
  have:e=0:=by omega
  subst this;exact zV _
 |succ f ih=>
  rcases qC e (f+1)with h1 | h1
  ·have:=ih (by omega);have:=zvo f;rw[zT];omega
  ·have:e=f+1:=by omega
   rw[this];exact zV _
theorem zvp(h:Pos n D a)(hK:1<=K)(ha:∀s,s<n->a s s<=K):Good n D K a:=by
 refine⟨λi j c=>⟨λs hs _=>ha s hs,λl hl=>?_⟩,λ_ _=>ha,λ_=>ha⟩;have:=h.lam_le c.hi (show l<i by have:=c.hj;omega) (ha i c.hi) hK;have p:=h.pos (l+1) (by have:=c.hj;have:=c.hi;omega);have hKD:0<=K*D:=qB (by omega) (by have:=h.one;omega)
 have q:lead a (l+1)*(K*D)<=lead a (l+1)*(2^(i-1-j)*(K*D)):=by
  refine qK ?_ (by omega);have:=qW (zvo (i-1-j)) hKD;omega
 omega
theorem jby(h:Pos n D a)(h8:n<=8)(hKD:8*D<=K){s:Nat}(hs:s<n)(hz:∀l,l<s->SZ a s l):a s s<=K:=by
 have:=h.norm hs (m:=1) (λk hk=>by
  obtain⟨z1,z2⟩:=hz k hk;have:=h.pos (k+1) (by omega);omega)
 have e:(D:Int)*(1*1)=D:=by omega
 rw[e]at this;have hD:=h.one;have:(s:Int)*D<=7*D:=qW (by omega) (by omega);omega
theorem jbz{i j:Nat}{c:Int}(h:Pos n D a)(hi:i<n)(hj:j<i):Pos n D (addG a i j c):=by
 have hn:=h.ne (k:=n) (qU _);refine⟨λs t hs ht=>?_,λk hk=>by rw[zma hj hi hn hk];exact h.pos k hk,λk hk=>by rw[zma hj hi hn hk];exact h.le k hk⟩;unfold addG;rw[h.sym s t hs ht,h.sym j t (by omega) ht,h.sym s j hs (by omega)];have e:(s=i/\t=i)↔(t=i/\s=i):=And.comm;simp only[e];omega
theorem qeb{i j:Nat}{c:Int}(h:Pos n D a)(h8:n<=8)(hK:1<=K)(hKD:8*D<=K)(hc:CurA n a i j)(hg:Good n D K a)(hz:2*(stg a j i j+c*lead a (j+1))<=lead a (j+1)/\ -(2*(stg a j i j+c*lead a (j+1)))<=lead a (j+1)):
  (c<=2^(i-1-j)*(K*D)/\ -(2^(i-1-j)*(K*D))<=c)/\Pos n D (addG a i j c)/\Good n D K (addG a i j c)/\
   (∀i' j',CurA n (addG a i j c) i' j'->i<=i'/\(i'=i->j'<j))/\∀i',CurS n (addG a i j c) i'->i<=i':=by
 have hi:=hc.hi;have hj:=hc.hj;have hn:=h.ne (k:=n) (qU _);have hp':=jbz (c:=c) h hi hj;obtain⟨g1,g2⟩:=hg.cA i j hc
 have hM:1<=2^(i-1-j)*(K*D):=by
  have h1:=zvo (i-1-j);have h2:1<=K*D:=by have:=qK h.one (show 0<=K by omega);omega
  have:=qK h2 (show(0:Int)<=2^(i-1-j) by omega);omega
 have hcb:c<=2^(i-1-j)*(K*D)/\ -(2^(i-1-j)*(K*D))<=c:=by
  obtain⟨b1,b2⟩:=g2 j (qU _);have p:=h.pos (j+1) (by omega);generalize 2^(i-1-j)*(K*D)=M at*;generalize lead a (j+1)=d at*
  have t1:d*(2*c)<=d*(2*M+1):=by
   have e1:d*(2*c)=2*(c*d):=by grind
   have e2:d*(2*M+1)=2*(d*M)+d:=by grind
   omega
  have t2:d*(-(2*c))<=d*(2*M+1):=by
   have e1:d*(-(2*c))= -(2*(c*d)):=by grind
   have e2:d*(2*M+1)=2*(d*M)+d:=by grind
   omega
  have u1:=qH t1 p;have u2:=qH t2 p;omega
 have lam:∀s t,t<s->s<n->stg (addG a i j c) t s t=stg a t s t+if s=i then(if t<=j then c*stg a t j t else 0)else 0:=λs t h1 h2=>jbv hj hi hn h1 h2
 have ld:∀t,t<=n->lead (addG a i j c) t=lead a t:=λt ht=>zma hj hi hn ht
 have szk:∀s l,l<s->s<n->s≠i->(SZ (addG a i j c) s l↔SZ a s l):=λs l h1 h2 h3=>by
  unfold SZ;rw[lam s l h1 h2,if_neg h3,ld _ (by omega),qT]
 have lvk:∀s,0<s->s<n->s≠i->(LV (addG a i j c) s↔LV a s):=λs h1 h2 h3=>by
  unfold LV;rw[lam s (s-1) (by omega) h2,if_neg h3,ld _ (by omega),ld _ (by omega),ld _ (by omega),qT]
 have dg:∀s,s≠i->(addG a i j c) s s=a s s:=λs hs=>by
  unfold addG;rw[if_neg hs,if_neg hs,if_neg (λe=>hs e.1)];omega
 have low:∀i' j',CurA n (addG a i j c) i' j'->i<=i'/\(i'=i->j'<j):=by
  intro i' j' hc';refine⟨jU λhlt=>?_,λe=>?_⟩
  ·have:=(hc.pre i' hlt).1 j' hc'.hj;exact hc'.no ((szk i' j' hc'.hj hc'.hi (by omega)).2 this)
  ·subst e;refine jY λhle=>?_
   have hj':=hc'.hj;apply hc'.no;unfold SZ;rw[lam i' j' hj' hi,if_pos rfl,ld _ (by omega)];rcases qC j j' with h1 | h1
   ·rw[if_neg (by omega),qT];exact hc.up j' h1 hj'
   ·have:j'=j:=by omega
    subst this;rw[if_pos (qU _),<-zbh];exact hz
 have lowS:∀i',CurS n (addG a i j c) i'->i<=i':=by
  intro i' hc';refine jU λhlt=>?_
  have:=(hc.pre i' hlt).2 hc'.h0;exact hc'.no ((lvk i' hc'.h0 hc'.hi (by omega)).2 this)
 have done:(∀l,l<i->SZ (addG a i j c) i l)->∀s,s<n->(addG a i j c) s s<=K:=by
  intro hz' s hs;by_cases e:s=i
  ·subst e;exact jby hp' h8 hKD hs hz'
  ·rw[dg s e];exact g1 s hs e
 refine⟨hcb,hp',⟨λi' j' hc'=>?_,λi' hc'=>?_,λhall=>done (hall i hi).1⟩,low,lowS⟩
 ·obtain⟨l1,l2⟩:=low i' j' hc';by_cases e:i'=i
  ·subst e;have hlt:=l2 rfl;refine⟨λs hs hne=>by rw[dg s hne];exact g1 s hs hne,λl hl=>?_⟩;obtain⟨b1,b2⟩:=g2 l (by omega);obtain⟨z1,z2⟩:=(hc.pre j hj).1 l (by omega);have p:=h.pos (l+1) (by omega);rw[lam i' l (by omega) hi,if_pos rfl,if_pos (by omega),ld _ (by omega)];have m:=zqo hcb.1 hcb.2 z1 (by omega);have e2:c*(2*stg a l j l)=2*(c*stg a l j l):=by grind
   rw[e2]at m
   have pw:(2:Int)^(i'-1-j)*2<=2^(i'-1-j'):=by
    rw[<-zT];exact zyl (by omega)
   have hKD0:0<=K*D:=qB (by omega) (by have:=h.one;omega);have pw2:=qW pw hKD0;have pw3:=qK pw2 (show 0<=lead a (l+1) by omega);have e3:lead a (l+1)*(2^(i'-1-j)*2*(K*D))=2*(lead a (l+1)*(2^(i'-1-j)*(K*D))):=by grind
   have e4:2^(i'-1-j)*(K*D)*lead a (l+1)=lead a (l+1)*(2^(i'-1-j)*(K*D)):=xL _ _;have pp:=qB (show 0<=lead a (l+1) by omega) (show 0<=2^(i'-1-j)*(K*D) by omega);rw[e3]at pw3;rw[e4]at m;omega
  ·have hlt:i<i':=by omega
   have hall:=done (hc'.pre i hlt).1;exact(zvp hp' hK hall).cA i' j' hc'
 ·have l1:=lowS i' hc';by_cases e:i'=i
  ·subst e;exact done hc'.up
  ·exact done (hc'.pre i (by omega)).1
theorem qbg{p s:Nat}(hp:p+1<n)(hs:s<n):sw p s<n:=by
 unfold sw;split
 ·omega
 ·split<;>omega
theorem qbh{i:Nat}(h:Pos n D a)(hK:1<=K)(hc:CurS n a i)(hg:Good n D K a):Pos n D (swG a (i-1))/\Good n D K (swG a (i-1))/\(∀t,t<=n->t≠i->lead (swG a (i-1)) t=lead a t)/\lead (swG a (i-1)) i<lead a i:=by
 have hi:=hc.hi;have h0:=hc.h0;obtain⟨p,rfl⟩:∃p,i=p+1:=⟨i-1,by omega⟩
 simp only[xV];have hno:=hc.no;unfold LV at hno;simp only[xV]at hno;obtain⟨s1,s2,s3⟩:=jbx h.sym hi h.pos hno
 have hP:Pos n D (swG a p):=by
  refine⟨λs t hs ht=>h.sym _ _ (qbg hi hs) (qbg hi ht),λk hk=>?_,λk hk=>?_⟩
  ·by_cases e:k=p+1
   ·rw[e];exact s2
   ·rw[s1 k hk e];exact h.pos k hk
  ·by_cases e:k=p+1
   ·rw[e];have:=h.le (p+1) (by omega);omega
   ·rw[s1 k hk e];exact h.le k hk
 exact⟨hP,zvp hP hK (λs hs=>hg.cS _ hc _ (qbg hi hs)),s1,s3⟩
def zla(a:Nat->Row):Nat->Nat
 |0=>1
 |k+1=>zla a k*(lead a (k+1)).toNat
theorem zsz{b:Nat->Row}:∀k,(∀t,t<=k->lead b t=lead a t)->zla b k=zla a k:=by
 intro k
 induction k with
 |zero=>intro _;rfl
 |succ k ih=>intro h;simp only[zla];rw[ih (λt ht=>h t (by omega)),h (k+1) (qU _)]
theorem qtx:∀k,(∀t,t<=k->0<lead a t)->0<zla a k:=by
 intro k
 induction k with
 |zero=>intro _;exact Nat.one_pos
 |succ k ih=>
  intro h;have:=h (k+1) (qU _);exact Nat.mul_pos (ih (λt ht=>h t (by omega))) (by omega)
theorem jca{b:Nat->Row}{i:Nat}(h0:0<i)(hl:lead b i<lead a i)(hb:0<lead b i):∀k,i<=k->(∀t,t<=k->t≠i->lead b t=lead a t)->(∀t,t<=k->0<lead a t)->zla b k<zla a k:=by
 intro k
 induction k with
 |zero=>intro h1;omega
 |succ k ih=>
  intro h1 h2 h3;simp only[zla];by_cases e:i=k+1
  ·subst e;rw[zsz k (λt ht=>h2 t (by omega) (by omega))];have:=qtx k (λt ht=>h3 t (by omega));exact Nat.mul_lt_mul_of_pos_left (by omega) this
  ·rw[h2 (k+1) (qU _) (λx=>e x.symm)];have:=h3 (k+1) (qU _);exact Nat.mul_lt_mul_of_pos_right (ih (by omega) (λt ht hne=>h2 t (by omega) hne) (λt ht=>h3 t (by omega))) (by omega)
def bigK(D K:Int):Int:=D+8*(D*((2^7*(K*D))*(2^7*(K*D))))
theorem qmu(h:Pos n D a)(h8:n<=8)(hK:1<=K)(hg:Good n D K a)(hcase:(∃i j,CurA n a i j)\/(∃i,CurS n a i)\/∀i,i<n->OKr a i){s:Nat}(hs:s<n):a s s<=bigK D K:=by
 have hD:=h.one;have h1:1<=K*D:=by have:=qK hD (show 0<=K by omega);omega
 have hm:K*D<=2^7*(K*D):=by omega
 have hmm:2^7*(K*D)<=(2^7*(K*D))*(2^7*(K*D)):=by
  have:=qK (show 1<=2^7*(K*D) by omega) (show 0<=2^7*(K*D) by omega);omega
 have hK2:K<=K*D:=by have:=qK hD (show 0<=K by omega);omega
 have hDm:(2^7*(K*D))*(2^7*(K*D))<=D*((2^7*(K*D))*(2^7*(K*D))):=by
  have:=qW hD (show 0<=(2^7*(K*D))*(2^7*(K*D)) by omega);omega
 have hKB:K<=bigK D K:=by unfold bigK;omega
 rcases hcase with⟨i,j,hc⟩ | ⟨i,hc⟩ | hall
 ·obtain⟨g1,g2⟩:=hg.cA i j hc;by_cases e:s=i
  ·subst e
   have:=h.norm hs (m:=2^7*(K*D)) (λk hk=>by
    have p:=h.pos (k+1) (by omega)
    have q:lead a (k+1)<=lead a (k+1)*(2^7*(K*D)):=by
     have:=qK (show 1<=2^7*(K*D) by omega) (show 0<=lead a (k+1) by omega);omega
    rcases qC j k with h2 | h2
    ·obtain⟨z1,z2⟩:=hc.up k h2 hk;omega
    ·obtain⟨b1,b2⟩:=g2 k h2;have w:(2:Int)^(s-1-j)<=2^7:=zyl (by omega);have w2:=qW w (show 0<=K*D by omega);have w3:=qK w2 (show 0<=lead a (k+1) by omega);omega)
   have f:(s:Int)*(D*((2^7*(K*D))*(2^7*(K*D))))<=8*(D*((2^7*(K*D))*(2^7*(K*D)))):=qW (by omega) (by omega);unfold bigK;omega
  ·exact yR (g1 s hs e) hKB
 ·exact yR (hg.cS i hc s hs) hKB
 ·exact yR (hg.cE hall s hs) hKB
end
theorem zfk(f g:Nat->Int)(n:Nat):sumR (λi=>f i+g i) n=sumR f n+sumR g n:=by
 induction n with
 |zero=>rfl
 |succ n ih=>simp only[sumR,ih];omega
theorem zeb(c:Int)(f:Nat->Int)(n:Nat):sumR (λi=>c*f i) n=c*sumR f n:=by
 induction n with
 |zero=>simp[sumR]
 |succ n ih=>simp only[sumR,ih];grind
theorem zka{f:Nat->Int}{n k:Nat}(hk:k<n)(h:∀t,t<n->t≠k->f t=0):sumR f n=f k:=by
 induction n with
 |zero=>omega
 |succ n ih=>
  simp only[sumR];by_cases e:k=n
  ·subst e;rw[zdy (λt ht=>h t (by omega) (by omega))];omega
  ·rw[ih (by omega) (λt ht hne=>h t (by omega) hne),h n (by omega) (λx=>e x.symm)];omega
theorem zok{f:Nat->Int}{n:Nat}{c:Int}(h:∀t,t<n->f t<=c/\ -c<=f t):sumR f n<=n*c/\ -(n*c)<=sumR f n:=by
 induction n with
 |zero=>simp[sumR]
 |succ n ih=>
  obtain⟨h1,h2⟩:=ih (λt ht=>h t (by omega));obtain⟨h3,h4⟩:=h n (by omega);simp only[sumR];have e:((n+1:Nat):Int)*c=(n:Int)*c+c:=by rw[show((n+1:Nat):Int)=(n:Int)+1 by omega];grind
  omega
def linK(a:Nat->Row)(n k s:Nat)(v:Nat->Int):Int:=sumR (λt=>stg a k s t*v t) n
def quaK(a:Nat->Row)(n k:Nat)(v:Nat->Int):Int:=sumR (λs=>linK a n k s v*v s) n
section
variable{n:Nat}{D:Int}{a:Nat->Row}
theorem jcb(h:Pos n D a){k s:Nat}(hk:k<n)(v:Nat->Int):lead a k*linK a n (k+1) s v=lead a (k+1)*linK a n k s v-stg a k s k*linK a n k k v:=by
 unfold linK;rw[<-zeb,<-zeb,<-zeb]
 have e:sumR (λi=>lead a k*(stg a (k+1) s i*v i)) n=sumR (λi=>lead a (k+1)*(stg a k s i*v i)+(-1)*(stg a k s k*(stg a k k i*v i))) n:=by
  refine zah λi _=>?_
  have r:=zcg (h.ne (k:=k) (by omega)) s i;have:lead a k*(stg a (k+1) s i*v i)=(lead a k*stg a (k+1) s i)*v i:=by grind
  rw[this,r];grind
 rw[e,zfk,zeb (-1)];omega
theorem qbi(h:Pos n D a){k:Nat}(hk:k<n)(v:Nat->Int):lead a k*quaK a n (k+1) v=lead a (k+1)*quaK a n k v-linK a n k k v*linK a n k k v:=by
 unfold quaK;rw[<-zeb,<-zeb]
 have hl:linK a n k k v*linK a n k k v=sumR (λs=>linK a n k k v*(stg a k s k*v s)) n:=by
  rw[zeb];congr 1;unfold linK;refine zah λs hs=>?_
  rcases qC s k with h1 | h1
  ·rw[zvn h1,zvk (h.ne (k:=k) (by omega)) k s h1]
  ·rw[zge h.sym k hk (h.ne (by omega)) k s hk hs (qU _) h1]
 have e:sumR (λi=>lead a k*(linK a n (k+1) i v*v i)) n=sumR (λi=>lead a (k+1)*(linK a n k i v*v i)+(-1)*(linK a n k k v*(stg a k i k*v i))) n:=by
  refine zah λi _=>?_
  have r:=jcb h (s:=i) hk v;have:lead a k*(linK a n (k+1) i v*v i)=(lead a k*linK a n (k+1) i v)*v i:=by grind
  rw[this,r];grind
 rw[e,zfk,zeb (-1),hl];omega
theorem jcc(v:Nat->Int):quaK a n n v=0:=by
 unfold quaK;refine zdy λs hs=>?_
 have:linK a n n s v=0:=by
  unfold linK;exact zdy λt _=>by rw[zvn hs];simp
 rw[this];simp
theorem zkb(h:Pos n D a)(v:Nat->Int):∀m k,k+m=n->0<=quaK a n k v:=by
 intro m
 induction m with
 |zero=>
  intro k hk;have:k=n:=by omega
  subst this;rw[jcc];exact zV _
 |succ m ih=>
  intro k hk;have e:=qbi h (show k<n by omega) v;have h1:=qB (show 0<=lead a k by have:=h.pos k (by omega);omega) (ih (k+1) (by omega));have h2:=sq_nonneg (linK a n k k v);have h3:0<=lead a (k+1)*quaK a n k v:=by omega
  rcases(by omega:quaK a n k v<0\/0<=quaK a n k v)with h4 | h4
  ·have:=xU (h.pos (k+1) (by omega)) (show 0< -quaK a n k v by omega);have e2:lead a (k+1)* -quaK a n k v= -(lead a (k+1)*quaK a n k v):=by grind
   omega
  ·exact h4
theorem qty(h:Pos n D a)(v:Nat->Int):∀k,k<=n->quaK a n k v<=lead a k*quaK a n 0 v:=by
 intro k
 induction k with
 |zero=>intro _;rw[zat];omega
 |succ k ih=>
  intro hk;have e:=qbi h (show k<n by omega) v;have h2:=sq_nonneg (linK a n k k v);have h1:=qK (ih (by omega)) (show 0<=lead a (k+1) by have:=h.pos (k+1) (by omega);omega)
  have h3:lead a k*quaK a n (k+1) v<=lead a k*(lead a (k+1)*quaK a n 0 v):=by
   have:lead a (k+1)*(lead a k*quaK a n 0 v)=lead a k*(lead a (k+1)*quaK a n 0 v):=by grind
   omega
  exact qH h3 (h.pos k (by omega))
theorem qmv(h:Pos n D a)(v:Nat->Int){Q:Int}(hQ:quaK a n 0 v<=Q){k:Nat}(hk:k<n):linK a n k k v<=D*(Q+1)/\ -(D*(Q+1))<=linK a n k k v:=by
 have q0:=zkb h v n 0 (by omega);have hD:=h.one;refine zjd (qB (by omega) (by omega)) ?_;have e:=qbi h hk v;have h1:=qB (show 0<=lead a k by have:=h.pos k (by omega);omega) (zkb h v (n-(k+1)) (k+1) (by omega));have p1:=h.pos (k+1) (by omega);have p0:=h.pos k (by omega);have l1:=h.le (k+1) (by omega);have l0:=h.le k (by omega);have m1:=qK (qty h v k (by omega)) (show 0<=lead a (k+1) by omega)
 have m2:lead a k*quaK a n 0 v<=D*Q:=by
  have x1:=qK hQ (show 0<=lead a k by omega);have x2:=qW l0 (show 0<=Q by omega);omega
 have m3:lead a (k+1)*(lead a k*quaK a n 0 v)<=D*(D*Q):=by
  have x1:=qK m2 (show 0<=lead a (k+1) by omega);have x2:=qW l1 (show 0<=D*Q from qB (by omega) (by omega));omega
 have m4:D*(D*Q)<=D*(Q+1)*(D*(Q+1)):=by
  have e1:D*(Q+1)*(D*(Q+1))=D*(D*Q)+D*D*(Q*Q+Q+1):=by grind
  have:=qB (qB (show 0<=D by omega) (show 0<=D by omega)) (show 0<=Q*Q+Q+1 by have:=sq_nonneg Q;omega);omega
 omega
def vecB(D K Q:Int):Nat->Int
 |0=>D*(Q+1)
 |m+1=>D*(Q+1)+8*(D*K*vecB D K Q m)
theorem zqp{K Q:Int}(hD:1<=D)(hK:0<=K)(hQ:0<=Q):∀m,0<=vecB D K Q m:=by
 intro m
 induction m with
 |zero=>exact qB (by omega) (by omega)
 |succ m ih=>
  have h1:=qB (show 0<=D by omega) (show 0<=Q+1 by omega);have h2:=qB (qB (show 0<=D by omega) hK) ih;simp only[vecB];omega
theorem qmw{K Q:Int}(hD:1<=D)(hK:1<=K)(hQ:0<=Q):∀m,vecB D K Q m<=vecB D K Q (m+1):=by
 intro m;have h0:=zqp hD (show 0<=K by omega) hQ m;have h1:=qB (show 0<=D by omega) (show 0<=Q+1 by omega);have h2:1<=D*K:=by have:=qK hK (show 0<=D by omega);omega
 have h3:=qW h2 h0;simp only[vecB];omega
theorem qmx{K Q:Int}(hD:1<=D)(hK:1<=K)(hQ:0<=Q):∀c m,vecB D K Q m<=vecB D K Q (m+c):=by
 intro c
 induction c with
 |zero=>intro m;exact zV _
 |succ c ih=>intro m;exact yR (ih m) (qmw hD hK hQ (m+c))
theorem qmy(h:Pos n D a)(h8:n<=8){K:Int}(hK:1<=K)(ha:∀s,s<n->a s s<=K)(v:Nat->Int){Q:Int}(hQ:quaK a n 0 v<=Q):∀m k,k+m+1=n->v k<=vecB D K Q m/\ -(vecB D K Q m)<=v k:=by
 have hD:=h.one;have hQ0:0<=Q:=by have:=zkb h v n 0 (by omega);omega
 intro m
 induction m using Nat.strongRecOn with
 |ind m ih=>
 intro k hk;obtain⟨b1,b2⟩:=qmv h v hQ (show k<n by omega)
 have rest:∃x,linK a n k k v=lead a (k+1)*v k+x/\x<=(if m=0 then 0 else 8*(D*K*vecB D K Q (m-1)))/\ -(if m=0 then 0 else 8*(D*K*vecB D K Q (m-1)))<=x:=by
  refine⟨sumR (λt=>if t=k then 0 else stg a k k t*v t) n,?_,?_⟩
  ·have e:linK a n k k v=sumR (λt=>(if t=k then stg a k k k*v k else 0)+(if t=k then 0 else stg a k k t*v t)) n:=by
    unfold linK;refine zah λt _=>?_
    split
    ·rename_i e;rw[e];omega
    ·omega
   rw[e,zfk,zka (k:=k) (by omega) (λt _ hne=>if_neg hne),if_pos rfl,zbh]
  ·by_cases hm:m=0
   ·rw[if_pos hm]
    have:sumR (λt=>if t=k then 0 else stg a k k t*v t) n=0:=zdy λt ht=>by
     split
     ·rfl
     ·rw[zvk (h.ne (k:=k) (by omega)) k t (by omega)];simp
    rw[this];omega
   ·rw[if_neg hm];have hb:=zqp hD (show 0<=K by omega) hQ0 (m-1);have hDK:0<=D*K:=qB (by omega) (by omega)
    have:=zok (f:=λt=>if t=k then 0 else stg a k k t*v t) (n:=n) (c:=D*K*vecB D K Q (m-1)) (λt ht=>by
     have hz:=qB hDK hb;split
     ·omega
     ·rename_i hne;rcases qC t k with h1 | h1
      ·rw[zvk (h.ne (k:=k) (by omega)) k t h1];omega
      ·obtain⟨v1,v2⟩:=ih (n-1-t) (by omega) t (by omega);have vm:=qmx hD hK hQ0 (m-1-(n-1-t)) (n-1-t);have em:n-1-t+(m-1-(n-1-t))=m-1:=by omega
       rw[em]at vm;have en:=h.entry ht (show k<=t by omega) 0 k (by omega);have sy:=zge h.sym k (by omega) (h.ne (by omega)) k t (by omega) ht (qU _) (by omega);have d1:=h.down ht k (by omega);have d2:=h.down (show k<n by omega) k (qU _);have p0:=h.pos k (by omega);have l0:=h.le k (by omega)
       have f:∀s,s<n->lead a k*a s s<=D*K:=λs hs=>by
        have x1:=qK (ha s hs) (show 0<=lead a k by omega);have x2:=qW l0 (show 0<=K by omega);omega
       have f1:=f t ht;have f2:=f k (by omega);rw[sy];exact zqo (by omega) (by omega) (by omega) (by omega))
    have e8:(n:Int)*(D*K*vecB D K Q (m-1))<=8*(D*K*vecB D K Q (m-1)):=qW (by omega) (qB hDK hb);omega
 obtain⟨x,e,x1,x2⟩:=rest;have p1:=h.pos (k+1) (by omega)
 have key:∀{w:Int},lead a (k+1)*v k<=w-> -w<=lead a (k+1)*v k->v k<=w/\ -w<=v k:=by
  intro w h1 h2;rcases(by omega:v k<=0\/0<v k)with h3 | h3
  ·have:=qW (show(1:Int)<=lead a (k+1) by omega) (show 0<= -v k by omega);have e2:lead a (k+1)* -v k= -(lead a (k+1)*v k):=by grind
   have:=qB (show 0<=lead a (k+1) by omega) (show 0<= -v k by omega);omega
  ·have:=qW (show(1:Int)<=lead a (k+1) by omega) (show 0<=v k by omega);omega
 by_cases hm:m=0
 ·subst hm;simp only[if_true]at x1 x2;simp only[vecB];exact key (by omega) (by omega)
 ·obtain⟨m',rfl⟩:∃m',m=m'+1:=⟨m-1,by omega⟩
  rw[if_neg (by omega)]at x1 x2;simp only[xV]at x1 x2;simp only[vecB];exact key (by omega) (by omega)
theorem jcd(h:Pos n D a)(h8:n<=8){K:Int}(hK:1<=K)(ha:∀s,s<n->a s s<=K)(v:Nat->Int){Q:Int}(hQ:quaK a n 0 v<=Q){k:Nat}(hk:k<n):v k<=vecB D K Q 7/\ -(vecB D K Q 7)<=v k:=by
 have hQ0:0<=Q:=by have:=zkb h v n 0 (by omega);omega
 obtain⟨h1,h2⟩:=qmy h h8 hK ha v hQ (n-1-k) k (by omega);have:=qmx h.one hK hQ0 (7-(n-1-k)) (n-1-k);have e:n-1-k+(7-(n-1-k))=7:=by omega
 rw[e]at this;omega
def zje(a:Nat->Row)(n:Nat)(T:Nat->Nat->Int):Nat->Row:=λs t=>sumR (λx=>sumR (λy=>a x y*T y t) n*T x s) n
theorem qhe(T:Nat->Nat->Int)(s:Nat):zje a n T s s=quaK a n 0 (λx=>T x s):=by
 unfold zje quaK linK;refine zah λx _=>?_
 congr 1;exact zah λy _=>by rw[zda]
theorem zym(T:Nat->Nat->Int)(i j:Nat)(c:Int):zje a n (λx s=>T x s+if s=i then c*T x j else 0)=addG (zje a n T) i j c:=by
 funext s t
 have col:∀x t,sumR (λy=>a x y*(T y t+if t=i then c*T y j else 0)) n=sumR (λy=>a x y*T y t) n+if t=i then c*sumR (λy=>a x y*T y j) n else 0:=by
  intro x t;split
  ·rw[<-zeb,<-zfk];exact zah λy _=>by grind
  ·rw[qT];exact zah λy _=>by rw[qT]
 show sumR (λx=>sumR (λy=>a x y*(T y t+if t=i then c*T y j else 0)) n*(T x s+if s=i then c*T x j else 0)) n=_
 have e1:sumR (λx=>sumR (λy=>a x y*(T y t+if t=i then c*T y j else 0)) n*(T x s+if s=i then c*T x j else 0)) n=
   sumR (λx=>(sumR (λy=>a x y*T y t) n+if t=i then c*sumR (λy=>a x y*T y j) n else 0)*(T x s+if s=i then c*T x j else 0)) n:=
  zah λx _=>by rw[col]
 rw[e1];unfold addG zje;by_cases hs:s=i
 ·by_cases ht:t=i
  ·simp only[hs,ht,if_true,and_self];rw[<-zeb,<-zeb,<-zeb,<-zfk,<-zfk,<-zfk];exact zah λx _=>by grind
  ·simp only[hs,ht,if_true,if_false,and_false,qT];rw[<-zeb,<-zfk];exact zah λx _=>by grind
 ·by_cases ht:t=i
  ·simp only[hs,ht,if_true,if_false,false_and,qT];rw[<-zeb,<-zfk];exact zah λx _=>by grind
  ·simp only[hs,ht,if_false,false_and,qT]
end
end Go.Det
namespace Go.Proofs.YtgfbaioffpcelaaGreatDoor
open Go Go.AL Go.Det
def mkM(n:Nat)(f:Nat->Nat->Int):List (List Int):=(List.range n).map λi=>(List.range n).map λj=>f i j
theorem zci(n:Nat)(f:Nat->Nat->Int):Shp n (mkM n f):=by
 refine⟨by simp[mkM],λi hi=>?_⟩;rw[qZ];simp[mkM,hi]
theorem zbl{n:Nat}{f:Nat->Nat->Int}{i j:Nat}(hi:i<n)(hj:j<n):ent (mkM n f) i j=f i j:=by
 unfold ent;simp[mkM,qZ,hi,hj]
theorem Shp.out{n:Nat}{M:List (List Int)}(h:Shp n M){i j:Nat}(hij:n<=i\/n<=j):ent M i j=0:=by
 unfold ent;rcases qC i n with h1 | h1
 ·rw[qZ,xN (by rw[h.row i h1];omega)];rfl
 ·have:M.getD i []=[]:=by rw[qZ,xN (by rw[h.len];exact h1)];rfl
  rw[this];rfl
theorem zqq{n:Nat}{M M':List (List Int)}(h:Shp n M)(h':Shp n M')(he:∀i j,i<n->j<n->ent M i j=ent M' i j):M=M':=by
 refine xC (h.len.trans h'.len.symm) λi hi hi'=>?_
 have e1:M.getD i []=M[i]:=by rw[qZ,qV hi];rfl
 have e2:M'.getD i []=M'[i]:=by rw[qZ,qV hi'];rfl
 have hin:i<n:=by rw[<-h.len];exact hi
 have l1:=h.row i hin;have l2:=h'.row i hin;rw[e1]at l1;rw[e2]at l2;refine xC (l1.trans l2.symm) λj hj hj'=>?_
 have:=he i j hin (by omega);unfold ent at this;rw[e1,e2,qZ,qZ,qV hj,qV hj']at this;simpa using this
def mulM(n:Nat)(A B:List (List Int)):List (List Int):=mkM n λi j=>sumR (λk=>ent A i k*ent B k j) n
def trM(n:Nat)(A:List (List Int)):List (List Int):=mkM n λi j=>ent A j i
def idM(n:Nat):List (List Int):=mkM n λi j=>if i=j then 1 else 0
def cgM(n:Nat)(G U:List (List Int)):List (List Int):=mulM n (mulM n (trM n U) G) U
def addU(n i j:Nat)(c:Int):List (List Int):=setM (idM n) j i c
theorem zet(n:Nat):Shp n (idM n):=zci n _
theorem zvq(n:Nat)(A B:List (List Int)):Shp n (mulM n A B):=zci n _
theorem zqr(n:Nat)(G U:List (List Int)):Shp n (cgM n G U):=zci n _
theorem zqs{n i j:Nat}(hi:i<n)(hj:j<n):ent (idM n) i j=if i=j then 1 else 0:=zbl hi hj
theorem qec{n i j:Nat}{c:Int}(hj:j<n):Shp n (addU n i j c):=(zci n _).set hj
theorem qtz{n i j x s:Nat}{c:Int}(hij:i≠j)(hi:i<n)(hj:j<n)(hx:x<n)(hs:s<n):ent (addU n i j c) x s=(if x=s then 1 else 0)+(if s=i/\x=j then c else 0):=by
 unfold addU;rw[(zet n).ent_set hj hi];by_cases h:x=j/\s=i
 ·have h1:¬x=s:=by omega
  have h2:s=i/\x=j:=⟨h.2,h.1⟩
  rw[if_pos h,if_neg h1,if_pos h2];omega
 ·have h2:¬(s=i/\x=j):=λe=>h ⟨e.2,e.1⟩
  rw[if_neg h,if_neg h2];rw[zqs hx hs];omega
theorem zvr{n i j s:Nat}{c:Int}(hij:i≠j)(hi:i<n)(hj:j<n)(hs:s<n)(f:Nat->Int):sumR (λx=>f x*ent (addU n i j c) x s) n=f s+if s=i then c*f j else 0:=by
 have e:sumR (λx=>f x*ent (addU n i j c) x s) n=sumR (λx=>(if x=s then f s else 0)+(if x=j then(if s=i then c*f j else 0)else 0)) n:=by
  refine zah λx hx=>?_
  rw[qtz hij hi hj hx hs];by_cases h1:x=s
  ·by_cases h2:s=i
   ·have h3:x≠j:=by omega
    rw[if_pos h1,if_neg (by omega),if_pos h1,if_neg h3,h1];omega
   ·rw[if_pos h1,if_neg (by omega),if_pos h1,if_neg h2,h1];split<;>omega
  ·by_cases h2:x=j
   ·by_cases h3:s=i
    ·rw[if_neg h1,if_pos ⟨h3,h2⟩,if_neg h1,if_pos h2,if_pos h3,h2];grind
    ·rw[if_neg h1,if_neg (by omega),if_neg h1,if_pos h2,if_neg h3];omega
   ·rw[if_neg h1,if_neg (by omega),if_neg h1,if_neg h2];omega
 rw[e,zfk,zka hs (λt _ hne=>if_neg hne),if_pos rfl,zka hj (λt _ hne=>if_neg hne),if_pos rfl]
theorem qxe{n i j:Nat}{c:Int}{M:List (List Int)}(h:Shp n M)(hij:i≠j)(hi:i<n)(hj:j<n):rowF (cgM n M (addU n i j c))=addG (rowF M) i j c:=by
 funext s t
 show ent (cgM n M (addU n i j c)) s t=addG (rowF M) i j c s t
 by_cases hs:s<n
 ·by_cases ht:t<n
  ·unfold cgM mulM;rw[zbl hs ht]
   have e:sumR (λk=>ent (mkM n λi_1 j_1=>sumR (λk=>ent (trM n (addU n i j c)) i_1 k*ent M k j_1) n) s k*ent (addU n i j c) k t) n=
     sumR (λk=>(ent M s k+if s=i then c*ent M j k else 0)*ent (addU n i j c) k t) n:=by
    refine zah λk hk=>?_
    rw[zbl hs hk];congr 1
    have e2:sumR (λx=>ent (trM n (addU n i j c)) s x*ent M x k) n=sumR (λx=>ent M x k*ent (addU n i j c) x s) n:=by
     refine zah λx hx=>?_
     unfold trM;rw[zbl hs hx,xL]
    rw[e2,zvr hij hi hj hs]
   rw[e,zvr hij hi hj ht];unfold addG rowF;by_cases h1:s=i
   ·by_cases h2:t=i
    ·simp only[h1,h2,if_true,and_self];grind
    ·simp only[h1,h2,if_true,if_false,and_false,qT]
   ·by_cases h2:t=i
    ·simp only[h1,h2,if_true,if_false,false_and,qT]
    ·simp only[h1,h2,if_false,false_and,qT]
  ·rw[(zqr n _ _).out (.inr (by omega))];unfold addG rowF;have z:∀x,ent M x t=0:=λx=>h.out (.inr (by omega))
   rw[z,z,if_neg (show¬t=i by omega),if_neg (show¬(s=i/\t=i) by omega)];split<;>omega
 ·rw[(zqr n _ _).out (.inl (by omega))];unfold addG rowF;have z:∀x,ent M s x=0:=λx=>h.out (.inl (by omega))
  rw[z,z,if_neg (show¬s=i by omega),if_neg (show¬(s=i/\t=i) by omega)];split<;>omega
theorem jgb(p s:Nat):sw p (sw p s)=s:=by
 by_cases h1:s=p
 ·rw[h1,sw_p,sw_q]
 ·by_cases h2:s=p+1
  ·rw[h2,sw_q,sw_p]
  ·rw[qhc h1 h2,qhc h1 h2]
theorem jgc{p x s:Nat}:sw p x=s↔x=sw p s:=by
 constructor
 ·intro h;rw[<-h,jgb]
 ·intro h;rw[h,jgb]
theorem jce{n p x s:Nat}(hp:p+1<n)(hx:x<n)(hs:s<n):ent (zec (idM n) (p+1) p) x s=if x=sw p s then 1 else 0:=by
 rw[(zjz (zet n) hp (by omega)).2]
 show ent (idM n) (sw p x) s=_
 rw[zqs (qbg hp hx) hs];by_cases h:sw p x=s
 ·rw[if_pos h,if_pos (jgc.1 h)]
 ·rw[if_neg h,if_neg (λe=>h (jgc.2 e))]
theorem qbj{n p s:Nat}(hp:p+1<n)(hs:s<n)(f:Nat->Int):sumR (λx=>f x*ent (zec (idM n) (p+1) p) x s) n=f (sw p s):=by
 have e:sumR (λx=>f x*ent (zec (idM n) (p+1) p) x s) n=sumR (λx=>if x=sw p s then f (sw p s)else 0) n:=by
  refine zah λx hx=>?_
  rw[jce hp hx hs];split
  ·rename_i e;rw[e];omega
  ·omega
 rw[e,zka (qbg hp hs) (λt _ hne=>if_neg hne),if_pos rfl]
theorem jgd{n p:Nat}{M:List (List Int)}(h:Shp n M)(hp:p+1<n):rowF (cgM n M (zec (idM n) (p+1) p))=swG (rowF M) p:=by
 funext s t
 show ent (cgM n M (zec (idM n) (p+1) p)) s t=ent M (sw p s) (sw p t)
 by_cases hs:s<n
 ·by_cases ht:t<n
  ·unfold cgM mulM;rw[zbl hs ht]
   have e:sumR (λk=>ent (mkM n λi_1 j_1=>sumR (λk=>ent (trM n (zec (idM n) (p+1) p)) i_1 k*ent M k j_1) n) s k*ent (zec (idM n) (p+1) p) k t) n=sumR (λk=>ent M (sw p s) k*ent (zec (idM n) (p+1) p) k t) n:=by
    refine zah λk hk=>?_
    rw[zbl hs hk];congr 1
    have e2:sumR (λx=>ent (trM n (zec (idM n) (p+1) p)) s x*ent M x k) n=sumR (λx=>ent M x k*ent (zec (idM n) (p+1) p) x s) n:=by
     refine zah λx hx=>?_
     unfold trM;rw[zbl hs hx,xL]
    rw[e2,qbj hp hs]
   rw[e,qbj hp ht]
  ·have hne:sw p t=t:=qhc (by omega) (by omega);rw[(zqr n _ _).out (.inr (by omega)),hne,h.out (.inr (by omega))]
 ·have hne:sw p s=s:=qhc (by omega) (by omega);rw[(zqr n _ _).out (.inl (by omega)),hne,h.out (.inl (by omega))]
theorem mul_add{n i j x s:Nat}{c:Int}{T:List (List Int)}(hij:i≠j)(hi:i<n)(hj:j<n)(hx:x<n)(hs:s<n):ent (mulM n T (addU n i j c)) x s=ent T x s+if s=i then c*ent T x j else 0:=by
 unfold mulM;rw[zbl hx hs,zvr hij hi hj hs]
theorem qxf{n p x s:Nat}{T:List (List Int)}(hp:p+1<n)(hx:x<n)(hs:s<n):ent (mulM n T (zec (idM n) (p+1) p)) x s=ent T x (sw p s):=by
 unfold mulM;rw[zbl hx hs,qbj hp hs]
def MuOK(n:Nat)(a:Nat->Row)(k:Nat):Prop:=(∀i j,CurA n a i j->zla a n*100+(n-i)*10+j+1<=k)/\∀i,CurS n a i->zla a n*100+(n-i)*10<=k
theorem qed{n:Nat}{a:Nat->Row}(h8:n<=8):MuOK n a (zla a n*100+99):=
 ⟨λi j c=>by have:=c.hi;have:=c.hj;omega,λi c=>by omega⟩
theorem jge{n:Nat}{D K:Int}{a:Nat->Row}{i j:Nat}{c:Int}{k:Nat}(h:Pos n D a)(h8:n<=8)(hK:1<=K)(hKD:8*D<=K)(hc:CurA n a i j)(hg:Good n D K a)(hz:2*(stg a j i j+c*lead a (j+1))<=lead a (j+1)/\ -(2*(stg a j i j+c*lead a (j+1)))<=lead a (j+1))
  (hm:MuOK n a k):∃k',k'<k/\MuOK n (addG a i j c) k':=by
 obtain⟨_,_,_,g1,g2⟩:=qeb h h8 hK hKD hc hg hz;have hi:=hc.hi;have hj:=hc.hj;have hp:zla (addG a i j c) n=zla a n:=zsz n (λt ht=>zma hj hi (h.ne (qU _)) ht);have:=hm.1 i j hc;refine⟨zla a n*100+(n-i)*10+j,by omega,λi' j' c'=>?_,λi' c'=>?_⟩
 ·obtain⟨l1,l2⟩:=g1 i' j' c';have:=c'.hi;have:=c'.hj;rw[hp];by_cases e:i'=i
  ·have:=l2 e;subst e;omega
  ·omega
 ·have:=g2 i' c';rw[hp];omega
theorem jiu{n:Nat}{D K:Int}{a:Nat->Row}{i:Nat}{k:Nat}(h:Pos n D a)(h8:n<=8)(hK:1<=K)(hc:CurS n a i)(hg:Good n D K a)(hm:MuOK n a k):∃k',k'<k/\MuOK n (swG a (i-1)) k':=by
 obtain⟨gp,_,g1,g2⟩:=qbh h hK hc hg;have hlt:=jca (b:=swG a (i-1)) hc.h0 g2 (gp.pos i (by have:=hc.hi;omega)) n (by have:=hc.hi;omega) g1 h.pos;have:=hm.2 i hc;exact⟨zla (swG a (i-1)) n*100+99,by omega,qed h8⟩
def zhf(l d:Int):Int:=(2*l+d)/(2*d)
theorem qmz{l d:Int}(hd:0<d):2*(l+ -(zhf l d)*d)<=d/\ -(2*(l+ -(zhf l d)*d))<=d:=by
 unfold zhf;have h1:=Int.ediv_mul_le (2*l+d) (show 2*d≠0 by omega);have h2:=Int.lt_ediv_add_one_mul_self (2*l+d) (show 0<2*d by omega);generalize (2*l+d)/(2*d)=q at*;have e1:q*(2*d)=2*(q*d):=by grind
 have e2:(q+1)*(2*d)=2*(q*d)+2*d:=by grind
 have e3: -q*d= -(q*d):=by grind
 omega
structure LState(n:Nat)(D K:Int)(M0 M T:List (List Int)):Prop where
 shM:Shp n M
 shT:Shp n T
 pos:Pos n D (rowF M)
 good:Good n D K (rowF M)
 rel:∀s t,s<n->t<n->ent M s t=zje (rowF M0) n (λx y=>ent T x y) s t
theorem qna{n:Nat}(a:Nat->Row){s t:Nat}(hs:s<n)(ht:t<n):zje a n (λx y=>ent (idM n) x y) s t=a s t:=by
 unfold zje
 have e:sumR (λx=>sumR (λy=>a x y*ent (idM n) y t) n*ent (idM n) x s) n=sumR (λx=>if x=s then a s t else 0) n:=by
  refine zah λx hx=>?_
  have e2:sumR (λy=>a x y*ent (idM n) y t) n=a x t:=by
   have e3:sumR (λy=>a x y*ent (idM n) y t) n=sumR (λy=>if y=t then a x t else 0) n:=by
    refine zah λy hy=>?_
    rw[zqs hy ht];split
    ·rename_i e;rw[e];omega
    ·omega
   rw[e3,zka ht (λz _ hne=>if_neg hne),if_pos rfl]
  rw[e2,zqs hx hs];split
  ·rename_i e;rw[e];omega
  ·omega
 rw[e,zka hs (λz _ hne=>if_neg hne),if_pos rfl]
theorem zhg{n:Nat}(a:Nat->Row){T T':Nat->Nat->Int}{s t:Nat}(hs:∀x,x<n->T x s=T' x s)(ht:∀x,x<n->T x t=T' x t):zje a n T s t=zje a n T' s t:=by
 unfold zje;refine zah λx hx=>?_
 rw[hs x hx];congr 1;exact zah λy hy=>by rw[ht y hy]
section
variable{n:Nat}{D K:Int}{M0 M T:List (List Int)}
theorem LState.start(h1:Shp n M0)(hp:Pos n D (rowF M0))(hK:1<=K)(ha:∀s,s<n->ent M0 s s<=K):LState n D K M0 M0 (idM n):=
 ⟨h1,zci n _,hp,zvp hp hK ha,λs t hs ht=>(qna (rowF M0) hs ht).symm⟩
theorem LState.add{i j:Nat}(h:LState n D K M0 M T)(h8:n<=8)(hK:1<=K)(hKD:8*D<=K)(hc:CurA n (rowF M) i j):
  LState n D K M0 (cgM n M (addU n i j (-(zhf (stg (rowF M) j i j) (lead (rowF M) (j+1)))))) (mulM n T (addU n i j (-(zhf (stg (rowF M) j i j) (lead (rowF M) (j+1))))))/\
   ∀k,MuOK n (rowF M) k->∃k',k'<k/\MuOK n (rowF (cgM n M (addU n i j (-(zhf (stg (rowF M) j i j) (lead (rowF M) (j+1))))))) k':=by
 have hi:=hc.hi;have hj:=hc.hj;have hz:=qmz (l:=stg (rowF M) j i j) (h.pos.pos (j+1) (by omega));generalize -(zhf (stg (rowF M) j i j) (lead (rowF M) (j+1)))=c at*;have e:=qxe (c:=c) h.shM (show i≠j by omega) hi (show j<n by omega);obtain⟨_,g1,g2,_,_⟩:=qeb h.pos h8 hK hKD hc h.good hz;refine⟨⟨zci n _,zci n _,by rw[e];exact g1,by rw[e];exact g2,λs t hs ht=>?_⟩,λk hk=>by rw[e];exact jge h.pos h8 hK hKD hc h.good hz hk⟩;have e2:ent (cgM n M (addU n i j c)) s t=addG (rowF M) i j c s t:=congrFun (congrFun e s) t;rw[e2,zhg (rowF M0) (T':=λx s=>ent T x s+if s=i then c*ent T x j else 0) (λx hx=>mul_add (show i≠j by omega) hi (by omega) hx hs) (λx hx=>mul_add (show i≠j by omega) hi (by omega) hx ht)];rw[zym (a:=rowF M0) (n:=n) (λx s=>ent T x s) i j c];unfold addG;have r:=h.rel;rw[<-r s t hs ht,<-r j t (by omega) ht,<-r s j hs (by omega),<-r j j (by omega) (by omega)];rfl
theorem LState.sw{p:Nat}(h:LState n D K M0 M T)(h8:n<=8)(hK:1<=K)(hc:CurS n (rowF M) (p+1)):LState n D K M0 (cgM n M (zec (idM n) (p+1) p)) (mulM n T (zec (idM n) (p+1) p))/\
   ∀k,MuOK n (rowF M) k->∃k',k'<k/\MuOK n (rowF (cgM n M (zec (idM n) (p+1) p))) k':=by
 have hi:=hc.hi;have e:=jgd h.shM hi;obtain⟨g1,g2,_,_⟩:=qbh h.pos hK hc h.good;simp only[xV]at g1 g2
 refine⟨⟨zci n _,zci n _,by rw[e];exact g1,by rw[e];exact g2,λs t hs ht=>?_⟩,λk hk=>by
  rw[e];have:=jiu h.pos h8 hK hc h.good hk;simpa using this⟩
 have e2:ent (cgM n M (zec (idM n) (p+1) p)) s t=ent M (Det.sw p s) (Det.sw p t):=congrFun (congrFun e s) t;rw[e2,zhg (rowF M0) (T':=λx s=>ent T x (Det.sw p s)) (λx hx=>qxf hi hx hs) (λx hx=>qxf hi hx ht),h.rel _ _ (qbg hi hs) (qbg hi ht)];rfl
theorem LState.bound(h:LState n D K M0 M T)(h8:n<=8)(hK:1<=K)(hp:Pos n D (rowF M0))(ha:∀s,s<n->ent M0 s s<=K)(hcase:(∃i j,CurA n (rowF M) i j)\/(∃i,CurS n (rowF M) i)\/∀i,i<n->OKr (rowF M) i):
  (∀s t,s<n->t<n->ent M s t<=bigK D K/\ -(bigK D K)<=ent M s t)/\∀s t,s<n->t<n->ent T s t<=vecB D K (bigK D K) 7/\ -(vecB D K (bigK D K) 7)<=ent T s t:=by
 have hn:=λs hs=>qmu (s:=s) h.pos h8 hK h.good hcase hs
 refine⟨λs t hs ht=>h.pos.bound hn hs ht,λs t hs ht=>?_⟩;refine jcd hp h8 hK ha (λx=>ent T x t) ?_ hs;rw[<-qhe (a:=rowF M0) (n:=n) (λx y=>ent T x y) t,<-h.rel t t ht ht];exact hn t ht
end
def numR(n d:Int):Int:=n/(Int.gcd n d:Int)
def denR(n d:Int):Int:=d/(Int.gcd n d:Int)
theorem zqt{n d:Int}(hd:0<d):0<(Int.gcd n d:Int):=by
 have:=Int.gcd_pos_of_ne_zero_right n (show d≠0 by omega);omega
theorem qbk(n d:Int):numR n d*(Int.gcd n d:Int)=n:=zD (jA ..)
theorem qbl(n d:Int):denR n d*(Int.gcd n d:Int)=d:=zD (jQ ..)
theorem zqu{n d:Int}(hd:0<d):0<denR n d:=by
 have h1:=zqt (n:=n) hd;have h2:=qbl n d;rcases Int.lt_or_le 0 (denR n d)with h | h
 ·exact h
 ·have:=qW h (show(0:Int)<=(Int.gcd n d:Int) by omega);omega
theorem zta(n d:Int):(numR n d).natAbs<=n.natAbs:=yQ _ _
theorem ztb(n d:Int):(denR n d).natAbs<=d.natAbs:=yQ _ _
theorem qnb{n d:Int}(hd:0<d):Int.gcd (numR n d) (denR n d)=1:=by
 have h1:=zqt (n:=n) hd;exact Int.gcd_ediv_gcd_ediv_gcd (by omega)
theorem qnc{n d:Int}(hd:0<d):numR n d/denR n d=n/d:=by
 have h1:=zqt (n:=n) hd;have e1:=qbk n d;have e2:=qbl n d;have e3:(numR n d*(Int.gcd n d:Int))/(denR n d*(Int.gcd n d:Int))=numR n d/denR n d:=yY _ _ h1;rw[e1,e2]at e3;exact e3.symm
theorem qua{l d:Int}(hd:0<d):(numR l d*2+1*denR l d)/(denR l d*2)=zhf l d:=by
 unfold zhf;have h1:=zqt (n:=l) hd;have e1:=qbk l d;have e2:=qbl l d;have e3:((numR l d*2+1*denR l d)*(Int.gcd l d:Int))/((denR l d*2)*(Int.gcd l d:Int))=(numR l d*2+1*denR l d)/(denR l d*2):=yY _ _ h1;rw[<-e3];congr 1
 ·rw[Int.add_mul,xK,e2,yM,xL 2,<-yM,e1];omega
 ·rw[yM,xL 2,<-yM,e2];omega
end Go.Proofs.YtgfbaioffpcelaaGreatDoor
namespace Go.Proofs.YtgfbaioffpcelaaGreatDoor
open Go Go.AL Go.Proofs Go.Limb
def zcc(n d:Int)(v:AV):Prop:= ∃a1 a2 b1 b2,v= .agg [a1,a2,b1,b2]/\zap n (.agg [a1,a2])/\zap d (.agg [b1,b2])
theorem qNew{n d:Int}{a b:AV}(ha:zap n a)(hb:zap d b)(hd:0<d):∃v,zcc (numR n d) (denR n d) v/\Rt 129 [a,b] [] (.tup [v,.bool true]) []:=by
 have t1:=zxr hb;have s1:d.sign=1:=xQ hd;rw[s1]at t1;have t2:=zGcd ha hb;have hg:=zqt (n:=n) hd
 have hgf:((Int.gcd n d:Nat):Int).natAbs<BIG:=by
  have h1:Int.gcd n d<=d.natAbs:=Nat.le_of_dvd (by omega) (Int.gcd_dvd_natAbs_right n d);have:=hb.fits;omega
 have hgi:=zbv hgf;obtain⟨v1,hv1,t3⟩:=jbm ha hgi (by omega);obtain⟨v2,hv2,t4⟩:=jbm hb hgi (by omega);obtain⟨lg,cg,_,_,_,heg⟩:=hgi;rw[heg]at t2 t3 t4;obtain⟨l,ca,_,_,_,rfl⟩:=ha;obtain⟨m,cb,_,_,_,rfl⟩:=hb;obtain⟨l1,c1,_,_,_,he1⟩:=id hv1;obtain⟨l2,c2,_,_,_,he2⟩:=id hv2;subst he1 he2;refine⟨_,⟨_,_,_,_,rfl,hv1,hv2⟩,?_⟩;refine oF o129 ?_;simp only[c129,r129_0,r129_1,SS,reduceCtorEq,reduceIte,qJ,qQ,qX];refine zaa t1 ?_;simp only[SS,reduceIte,qQ];refine⟨λh=>absurd h (by decide),λ_=>?_⟩;simp only[r129_3,SS,reduceIte,qJ,qQ,qX];refine zaa t1 ?_;simp only[SS,reduceIte,qQ];refine⟨λh=>absurd h (by decide),λ_=>?_⟩;simp only[r129_5,SS,reduceIte,qJ,qQ,qX];refine zaa t2 ?_;simp only[SS,reduceIte,qJ,qQ,qX];simp only[r129_6,SS,reduceIte,qJ,qQ,qX];refine zaa t3 ?_;simp only[SS,reduceIte,qJ,qQ,qX];refine zaa t4 ?_;simp only[SS,reduceIte,qJ,qQ,qX];refine⟨rfl,?_⟩;exact dR
theorem zkc{n d:Int}{v:AV}(h:zcc n d v)(hd:0<d):∃w,zcc (numR n d) (denR n d) w/\Rt 128 [v] [] w []:=by
 obtain⟨a1,a2,b1,b2,rfl,h1,h2⟩:=h;obtain⟨w,hw,t1⟩:=qNew h1 h2 hd;obtain⟨l1,c1,e1,e2⟩:=zau h1;obtain⟨l2,c2,e3,e4⟩:=zau h2;subst e1 e2 e3 e4;obtain⟨w1,w2,w3,w4,rfl,k1,k2⟩:=id hw;obtain⟨m1,d1,f1,f2⟩:=zau k1;obtain⟨m2,d2,f3,f4⟩:=zau k2;subst f1 f2 f3 f4;refine⟨_,hw,?_⟩;refine oF o128 ?_;simp only[c128,r128_0,r128_1,SS,reduceCtorEq,reduceIte,qJ,qQ,qX];refine zaa t1 ?_;simp only[SS,reduceIte,qJ,qQ,qX,qG,qE];simp only[r128_2,SS,fC,reduceIte,qQ];simp only[r128_4,SS,reduceIte,qJ,qQ,qX];exact dR
theorem qnd{n d:Int}{a b:AV}(ha:zap n a)(hb:zap d b)(hd:0<d):∃v,zcc (numR n d) (denR n d) v/\Rt 163 [a,b] [] v []:=by
 obtain⟨l,ca,q1,q2,q3,rfl⟩:=ha;obtain⟨m,cb,q4,q5,q6,rfl⟩:=hb;obtain⟨w,hw,t1⟩:=zkc (v:= .agg [.bool (decide (n<0)),.vec (u32s l) l.length ca,.bool (decide (d<0)),.vec (u32s m) m.length cb]) ⟨_,_,_,_,rfl,⟨l,ca,q1,q2,q3,rfl⟩,⟨m,cb,q4,q5,q6,rfl⟩⟩ hd;obtain⟨w1,w2,w3,w4,rfl,k1,k2⟩:=id hw;obtain⟨m1,d1,f1,f2⟩:=zau k1;obtain⟨m2,d2,f3,f4⟩:=zau k2;subst f1 f2 f3 f4;refine⟨_,hw,?_⟩;refine oF o163 ?_;simp only[c163,r163_0,r163_1,SS,reduceCtorEq,reduceIte,qJ,qQ,qX];refine zaa t1 ?_;simp only[SS,reduceIte,qJ,qQ,qX];exact dR
theorem jiv:∃v,zcc 1 2 v/\Rt 212 [] [] v []:=by
 obtain⟨v1,hv1,t1⟩:=zhb 1 (by omega) (by omega);obtain⟨v2,hv2,t2⟩:=zhb 2 (by omega) (by omega);obtain⟨l1,c1,_,_,_,he1⟩:=id hv1;obtain⟨l2,c2,_,_,_,he2⟩:=id hv2;subst he1 he2;refine⟨_,⟨_,_,_,_,rfl,hv1,hv2⟩,?_⟩;refine oF o212 ?_;simp only[c212,r212_0,r212_1,SS,reduceCtorEq];refine zaa t1 ?_;simp only[SS];refine zaa t2 ?_;simp only[SS,reduceCtorEq,reduceIte,qJ,qQ,qX];exact dR
theorem qne{n d:Int}(h:Int.gcd n d=1):numR n d=n:=by unfold numR;rw[h];exact yB _
theorem qnf{n d:Int}(h:Int.gcd n d=1):denR n d=d:=by unfold denR;rw[h];exact yB _
theorem qAdd{n d m e:Int}{v h:AV}(hv:zcc n d v)(hh:zcc m e h)(hd:0<d)(he:0<e)(c1:Int.gcd n d=1)(c2:Int.gcd m e=1)(f1:(n*e).natAbs<BIG)(f2:(m*d).natAbs<BIG)(f3:(n*e+m*d).natAbs<BIG)(f4:(d*e).natAbs<BIG):
  ∃w,zcc (numR (n*e+m*d) (d*e)) (denR (n*e+m*d) (d*e)) w/\Rt 136 [v,h] [] w []:=by
 obtain⟨x,hx,t1⟩:=zkc hv hd;rw[qne c1,qnf c1]at hx;obtain⟨y,hy,t2⟩:=zkc hh he;rw[qne c2,qnf c2]at hy;obtain⟨a1,a2,a3,a4,rfl,p1,p2⟩:=hv;obtain⟨b1,b2,b3,b4,rfl,p3,p4⟩:=hh;obtain⟨x1,x2,x3,x4,rfl,k1,k2⟩:=hx;obtain⟨y1,y2,y3,y4,rfl,k3,k4⟩:=hy;obtain⟨m1,hm1,t3⟩:=zMul k1 k4 f1;obtain⟨m2,hm2,t4⟩:=zMul k3 k2 f2;obtain⟨s,hs,t5⟩:=zAdd hm1 hm2 f3;obtain⟨m3,hm3,t6⟩:=zMul k2 k4 f4;obtain⟨w,hw,t7⟩:=qNew hs hm3 (xU hd he);obtain⟨_,_,e1,e2⟩:=zau p1;obtain⟨_,_,e3,e4⟩:=zau p2;obtain⟨_,_,e5,e6⟩:=zau p3;obtain⟨_,_,e7,e8⟩:=zau p4;subst e1 e2 e3 e4 e5 e6 e7 e8;obtain⟨_,_,e1,e2⟩:=zau k1;obtain⟨_,_,e3,e4⟩:=zau k2;obtain⟨_,_,e5,e6⟩:=zau k3;obtain⟨_,_,e7,e8⟩:=zau k4;subst e1 e2 e3 e4 e5 e6 e7 e8;obtain⟨_,_,_,_,_,rfl⟩:=id hm1;obtain⟨_,_,_,_,_,rfl⟩:=id hm2;obtain⟨_,_,_,_,_,rfl⟩:=id hm3;obtain⟨_,_,_,_,_,rfl⟩:=id hs;obtain⟨w1,w2,w3,w4,rfl,j1,j2⟩:=id hw;obtain⟨_,_,e1,e2⟩:=zau j1;obtain⟨_,_,e3,e4⟩:=zau j2;subst e1 e2 e3 e4;refine⟨_,hw,?_⟩;refine oF o136 ?_;simp only[c136,r136_0,r136_1,SS,reduceCtorEq,reduceIte,qJ,qQ,qX];refine zaa t1 ?_;simp only[SS,reduceIte,qJ,qQ,qX];refine zaa t2 ?_;simp only[SS,reduceIte,qJ,qQ,qX];refine⟨rfl,?_⟩;simp only[r136_2,SS,reduceIte,qJ,qQ,qX];refine zaa t3 ?_;simp only[SS,reduceIte,qJ,qQ,qX];refine zaa t4 ?_;simp only[SS,reduceIte,qQ];refine zaa t5 ?_;simp only[SS,reduceIte,qJ,qQ,qX];refine zaa t6 ?_;simp only[SS,reduceIte,qQ];refine zaa t7 ?_;simp only[SS,reduceIte,qJ,qQ,qX,qG,qE];refine⟨rfl,?_⟩;simp only[r136_3,SS,reduceIte,qJ,qQ,qX];exact dR
theorem qub{l d:Int}{v h:AV}(hv:zcc (numR l d) (denR l d) v)(hh:zcc 1 2 h)(hd:0<d)(hf:2*(l.natAbs+d.natAbs)<BIG):
  ∃w,zcc (numR (numR l d*2+1*denR l d) (denR l d*2)) (denR (numR l d*2+1*denR l d) (denR l d*2)) w/\Rt 136 [v,h] [] w []:=by
 have hnl:=zta l d;have hdl:=ztb l d;exact qAdd hv hh (zqu hd) (by decide) (qnb hd) rfl (by omega) (by omega) (by omega) (by omega)
theorem jgf{n d:Int}{v:AV}(h:zcc n d v)(hd:0<d):∃w,zap (n/d) w/\Rt 211 [v] [] w []:=by
 obtain⟨x,hx,t1⟩:=zkc h hd;have hdp:=zqu (n:=n) hd;obtain⟨a1,a2,a3,a4,rfl,p1,p2⟩:=h;obtain⟨x1,x2,x3,x4,rfl,k1,k2⟩:=hx;obtain⟨w,hw,t2⟩:=jbm k1 k2 (by omega);rw[qnc hd]at hw;obtain⟨_,_,e1,e2⟩:=zau p1;obtain⟨_,_,e3,e4⟩:=zau p2;subst e1 e2 e3 e4;obtain⟨_,_,e1,e2⟩:=zau k1;obtain⟨_,_,e3,e4⟩:=zau k2;subst e1 e2 e3 e4;obtain⟨_,_,_,_,_,rfl⟩:=id hw;refine⟨_,hw,?_⟩;refine oF o211 ?_;simp only[c211,r211_0,r211_1,SS,reduceCtorEq,reduceIte,qJ,qQ,qX];refine zaa t1 ?_;simp only[SS,reduceIte,qJ,qQ,qX];simp only[r211_2,SS,reduceIte,qJ,qQ,qX];refine zaa t2 ?_;simp only[SS,reduceIte,qJ,qQ,qX];exact dR
theorem quc{l d:Int}{v:AV}(hv:zcc (numR l d) (denR l d) v)(hd:0<d)(hf:2*(l.natAbs+d.natAbs)<BIG):∃w,zap (zhf l d) w/\Rt 162 [v] [] w []:=by
 obtain⟨h,hh,t1⟩:=jiv;obtain⟨s,hs,t2⟩:=qub hv hh hd hf;have hdp:=zqu (n:=l) hd;have hd2:0<denR l d*2:=by omega
 obtain⟨w,hw,t3⟩:=jgf hs (zqu hd2);rw[qnc hd2,qua hd]at hw;obtain⟨a1,a2,a3,a4,rfl,p1,p2⟩:=hv;obtain⟨b1,b2,b3,b4,rfl,p3,p4⟩:=hh;obtain⟨s1,s2,s3,s4,rfl,p5,p6⟩:=hs;obtain⟨_,_,e1,e2⟩:=zau p1;obtain⟨_,_,e3,e4⟩:=zau p2;obtain⟨_,_,e5,e6⟩:=zau p3;obtain⟨_,_,e7,e8⟩:=zau p4;subst e1 e2 e3 e4 e5 e6 e7 e8;obtain⟨_,_,e1,e2⟩:=zau p5;obtain⟨_,_,e3,e4⟩:=zau p6;subst e1 e2 e3 e4;obtain⟨_,_,_,_,_,rfl⟩:=id hw;refine⟨_,hw,?_⟩;refine oF o162 ?_;simp only[c162,r162_0,r162_1,SS,reduceCtorEq,reduceIte,qJ,qQ,qX];refine zaa t1 ?_;simp only[SS,reduceIte,qQ];refine zaa t2 ?_;simp only[SS,reduceIte,qQ];refine zaa t3 ?_;simp only[SS,reduceIte,qJ,qQ,qX];refine⟨rfl,?_⟩;exact dR
structure Low(n d:Int):Prop where
 pos:0<d
 cop:Int.gcd n d=1
theorem zap.big{x:Int}{v:AV}(h:zap x v):x.natAbs<BIG:=by
 obtain⟨l,c,hc,hl,hv,_⟩:=h;rw[<-hv];exact zem hc.1 hl
theorem Low.num{n d:Int}(h:Low n d):numR n d=n:=by unfold numR;rw[h.cop];simp
theorem Low.den{n d:Int}(h:Low n d):denR n d=d:=by unfold denR;rw[h.cop];simp
theorem zcc.shape{n d:Int}{v:AV}(h:zcc n d v):∃l1 c1 l2 c2,v= .agg [.bool (decide (n<0)),.vec (u32s l1) l1.length c1,.bool (decide (d<0)),.vec (u32s l2) l2.length c2]/\
  zap n (.agg [.bool (decide (n<0)),.vec (u32s l1) l1.length c1])/\zap d (.agg [.bool (decide (d<0)),.vec (u32s l2) l2.length c2]):=by
 obtain⟨a1,a2,b1,b2,rfl,h1,h2⟩:=h;obtain⟨l1,c1,rfl,rfl⟩:=zau h1;obtain⟨l2,c2,rfl,rfl⟩:=zau h2;exact⟨l1,c1,l2,c2,rfl,h1,h2⟩
theorem zhy{n d:Int}{a1 a2 b1 b2:AV}(h1:zap n (.agg [a1,a2]))(h2:zap d (.agg [b1,b2])):zcc n d (.agg [a1,a2,b1,b2]):=⟨_,_,_,_,rfl,h1,h2⟩
theorem zmb{n d:Int}{a b:AV}(ha:zap n a)(hb:zap d b)(hd:0<d):∃v,zcc (numR n d) (denR n d) v/\Rt 153 [a,b] [] v []:=by
 obtain⟨vg,ig,t1⟩:=iGcd ha hb
 have hg:(Int.gcd n d:Int)≠0:=λe=>by
  have:Int.gcd n d=0:=by omega
  have:=Int.gcd_eq_zero_iff.1 this;omega
 obtain⟨v1,w1,i1,j1,t3⟩:=zvj ha ig hg (.inr (jA n d));obtain⟨v2,w2,i2,j2,t4⟩:=zvj hb ig hg (.inr (jQ n d));have t2:=zpx hb;rw[xQ hd]at t2;obtain⟨la,ca,rfl⟩:=ha.shape;obtain⟨lb,cb,rfl⟩:=hb.shape;obtain⟨lg,cg,rfl⟩:=ig.shape;obtain⟨l1,c1,rfl⟩:=i1.shape;obtain⟨l2,c2,rfl⟩:=i2.shape;obtain⟨m1,e1,rfl⟩:=j1.shape;obtain⟨m2,e2,rfl⟩:=j2.shape;refine⟨_,zhy i1 i2,?_⟩;refine oF o153 ?_;simp only[c153,r153_0,SS,reduceCtorEq,reduceIte,qJ,qQ];simp only[r153_1,SS,reduceIte,qJ,qQ,qX];refine zaa t1 ?_;simp only[SS,reduceIte,qJ,qQ,qX];simp only[r153_2,SS,reduceIte,qJ,qQ,qX];refine zaa t2 ?_;simp only[SS,fC,reduceIte,qQ,decide_false,qN];simp only[r153_4,SS,reduceIte,qJ,qQ,qX];refine zaa t3 ?_;simp only[SS,reduceIte,qJ,qQ,qX,qG,qE];simp only[r153_5,SS,reduceIte,qJ,qQ,qX];refine zaa t4 ?_;simp only[SS,reduceIte,qJ,qQ,qX,qG,qE];simp only[r153_6,SS,reduceIte,qJ,qQ,qX];exact dR
theorem zdr{n d:Int}{v:AV}(h:zcc n d v)(lo:Low n d):∃w,zcc n d w/\Rt 66 [v] [] w []:=by
 obtain⟨l1,c1,l2,c2,rfl,i1,i2⟩:=h.shape;obtain⟨w,iw,t1⟩:=zmb i1 i2 lo.pos;rw[lo.num,lo.den]at iw;have t2:=zpx i2;rw[xQ lo.pos]at t2;obtain⟨k1,e1,k2,e2,rfl,_,_⟩:=iw.shape;refine⟨_,iw,?_⟩
 have tN:Rt 154 [.agg [.bool (decide (n<0)),.vec (u32s l1) l1.length c1,.bool (decide (d<0)),.vec (u32s l2) l2.length c2]] [] (.agg [.bool (decide (n<0)),.vec (u32s k1) k1.length e1,.bool (decide (d<0)),.vec (u32s k2) k2.length e2]) []:=by
  refine oF o154 ?_;simp only[c154,r154_0,SS,reduceCtorEq];simp only[r154_1,SS,reduceIte,qJ,qQ,qX];refine zaa t2 ?_;simp only[SS,fC,reduceIte,qQ,decide_false,jX];simp only[r154_3,SS,reduceIte,qJ,qQ,qX];refine zaa t1 ?_;simp only[SS,reduceIte,qJ,qQ,qX];exact dR
 refine oF o66 ?_;simp only[c66,r66_0,SS,reduceCtorEq];simp only[r66_1,SS,reduceIte,qJ,qQ,qX];refine zaa tN ?_;simp only[SS,reduceIte,qJ,qQ,qX];exact dR
theorem qud{n d:Int}{v:AV}(h:zcc n d v):Rt 65 [v] [] (.int .i64 n.sign) []:=by
 obtain⟨l1,c1,l2,c2,rfl,i1,i2⟩:=h.shape;refine oF o65 ?_;simp only[c65,r65_0,SS,reduceCtorEq];simp only[r65_1,SS,reduceIte,qJ,qQ,qX];refine zaa (zpx i1) ?_;simp only[SS,reduceIte,qQ];exact⟨.inl trivial,_,rfl,.freeze 1 _ _ _ rfl (by intro i cs h;omega)⟩
theorem zqv{x:Int}{a:AV}(ha:zap x a):∃v,zcc x 1 v/\Rt 100 [a] [] v []:=by
 obtain⟨v1,i1,t1⟩:=zna ha;obtain⟨v2,i2,t2⟩:=znp 1 (by decide) (by decide);obtain⟨l,c,rfl⟩:=ha.shape;obtain⟨l1,c1,rfl⟩:=i1.shape;obtain⟨l2,c2,rfl⟩:=i2.shape;refine⟨_,zhy i1 i2,?_⟩;refine oF o100 ?_;simp only[c100,r100_0,SS,reduceCtorEq];simp only[r100_1,SS,reduceIte,qJ,qQ,qX];refine zaa t1 ?_;simp only[SS];refine zaa t2 ?_;simp only[SS,reduceIte,qJ,qQ,qX];exact dR
theorem zjf(x:Int)(h1: -9223372036854775808<=x)(h2:x<9223372036854775808):∃v,zcc x 1 v/\Rt 33 [.int .i64 x] [] v []:=by
 obtain⟨v1,i1,t1⟩:=znp x h1 h2;obtain⟨v,iv,t2⟩:=zqv i1;obtain⟨l1,c1,rfl⟩:=i1.shape;obtain⟨k1,e1,k2,e2,rfl,_,_⟩:=iv.shape;refine⟨_,iv,?_⟩;refine oF o33 ?_;simp only[c33,r33_0,SS,reduceCtorEq];simp only[r33_1,SS,reduceCtorEq,reduceIte,qQ];refine zaa t1 ?_;simp only[SS,reduceIte,qQ];refine zaa t2 ?_;simp only[SS,reduceIte,qJ,qQ,qX];exact dR
end Go.Proofs.YtgfbaioffpcelaaGreatDoor
namespace Go.Proofs.YtgfbaioffpcelaaGreatDoor
open Go Go.AL Go.Proofs
noncomputable section
open Tryz
def r28_0:RL:=[oP 2 (.mov (kI 0))]
def r28_1:RL:=[mV 6 0,cL 7 22 [.t 6],cL 8 89 [.t 7],cL 9 93 [.t 8],mV 5 9,eX 10 5 0,eX 11 5 1,mV 3 10,mV 4 11]
def r28_2:RL:=[mV 12 3,mV 2 12]
def c28:CC:=sR r28_0<|sR r28_1<|sR r28_2 .ret
theorem o28:FnI 28 13 f28 c28 [.tmp 2]:=oM func28
def q29:=V (RS f29=·)
def r29_0:=X q29 0
def r29_1:=X q29 1
def r29_2:=X q29 2
def r29_3:=X q29 3
def r29_4:=X q29 4
def r29_5:=X q29 5
def r29_6:=X q29 6
def r29_7:=X q29 7
def r29_8:=X q29 8
def r29_9:=X q29 9
def l29_1:CC:= .seq (sR r29_7<|xR 23 2)<|.block 3<|sR r29_8<|rN r29_9
def r29_10:=X q29 10
def r29_11:=X q29 11
def r29_12:=X q29 12
def l29_0:CC:= .seq (sR r29_5<|xR 17 0)<|.seq (.block 1<|sR r29_6<|.seq (.block 2<|.loop l29_1)<|sR r29_10<|iS 30<|rN r29_11)<|rN r29_12
def r29_13:=X q29 13
def r29_14:=X q29 14
def r29_15:=X q29 15
def c29:CC:=sR r29_0<|qR r29_1 12 r29_2<|sR r29_3<|.seq (sR r29_4<|.block 0<|.loop l29_0)<|.seq (sR r29_13<|iS 38<|rN r29_14)<|sR r29_15 .ret
theorem o29:FnI 29 45 f29 c29 [.tmp 2,.tmp 3]:=oM func29
def q31:=V (RS f31=·)
def r31_0:=X q31 0
def r31_1:=X q31 1
def r31_2:=X q31 2
def r31_3:=X q31 3
def r31_4:=X q31 4
def c31:CC:=sR r31_0<|sR r31_1<|sR r31_2<|sR r31_3<|sR r31_4 .ret
theorem o31:FnI 31 25 f31 c31 [.tmp 2]:=oM func31
def q35:=V (RS f35=·)
def r35_0:=X q35 0
def r35_1:=X q35 1
def r35_2:=X q35 2
def r35_3:=X q35 3
def r35_4:=X q35 4
def r35_5:=X q35 5
def r35_6:=X q35 6
def r35_7:=X q35 7
def r35_8:=X q35 8
def r35_9:=X q35 9
def r35_10:=X q35 10
def r35_11:=X q35 11
def r35_12:=X q35 12
def r35_13:=X q35 13
def r35_14:=X q35 14
def r35_15:=X q35 15
def r35_16:=X q35 16
def r35_17:=X q35 17
def r35_18:=X q35 18
def l35_0:CC:= .seq (sR r35_12<|xR 38 0)<|.block 1<|qR r35_13 41 r35_14<|.seq (sR r35_15<|sR r35_16<|iS 49<|rN r35_17)<|rN r35_18
def r35_19:=X q35 19
def c35:CC:=sR r35_0<|qR r35_1 21 r35_2<|.seq (sR r35_3<|iS 23<|qR r35_4 29 r35_5<|sR r35_6 .ret)<|sR r35_7<|.seq (sR r35_8<|iS 31<|sR r35_9<|sR r35_10<|iS 35<|rN r35_11)<|.seq (.block 0<|.loop l35_0)<|sR r35_19 .ret
theorem o35:FnI 35 61 f35 c35 [.tmp 4,.tmp 5]:=oM func35
def q36:=V (RS f36=·)
def r36_0:=X q36 0
def r36_1:=X q36 1
def c36:CC:=sR r36_0<|sR r36_1 .ret
theorem o36:FnI 36 16 f36 c36 [.cell 6 34]:=oM func36
def q37:=V (RS f37=·)
def r37_0:=X q37 0
def r37_1:=X q37 1
def c37:CC:=sR r37_0<|sR r37_1 .ret
theorem o37:FnI 37 9 f37 c37 [.cell 4 34]:=oM func37
def q49:=V (RS f49=·)
def q51:=V (RS f51=·)
def q52:=V (RS f52=·)
def q55:=V (RS f55=·)
def q96:=V (RS f96=·)
def r96_0:=X q96 0
def r96_1:=X q96 1
def r96_2:=X q96 2
def r96_3:=X q96 3
def r96_4:=X q96 4
def c96:CC:=sR r96_0<|sR r96_1<|qR r96_2 14 r96_3<|sR r96_4 .ret
theorem o96:FnI 96 19 f96 c96 [.tmp 2,.tmp 3]:=oM func96
def q97:=V (RS f97=·)
def r97_0:=X q97 0
def r97_1:=X q97 1
def r97_2:=X q97 2
def r97_3:=X q97 3
def r97_4:=X q97 4
def c97:CC:=sR r97_0<|sR r97_1<|qR r97_2 19 r97_3<|sR r97_4 .ret
theorem o97:FnI 97 23 f97 c97 [.cell 2 32,.tmp 3]:=oM func97
def r102_0:RL:=[oP 4 (.mov (kI 0))]
def r102_1:RL:=[mV 5 0,mV 6 1,bT 7 .rem 5 6,mV 8 1,bT 9 .add 7 8,mV 10 1,bT 11 .rem 9 10,mV 4 11]
def c102:CC:=sR r102_0<|sR r102_1 .ret
theorem o102:FnI 102 12 f102 c102 [.tmp 4]:=oM func102
def q103:=V (RS f103=·)
def r103_0:=X q103 0
def r103_1:=X q103 1
def r103_2:=X q103 2
def r103_3:=X q103 3
def r103_4:=X q103 4
def r103_5:=X q103 5
def r103_6:=X q103 6
def l103_1:CC:= .seq (sR r103_3<|xR 10 2)<|.block 3<|sR r103_4<|sR r103_5<|iS 20<|rN r103_6
def r103_7:=X q103 7
def r103_8:=X q103 8
def r103_9:=X q103 9
def l103_0:CC:= .seq (sR r103_2<|xR 7 0)<|.block 1<|.seq (.block 2<|.loop l103_1)<|.seq (sR r103_7<|iS 30<|rN r103_8)<|rN r103_9
def r103_10:=X q103 10
def r103_11:=X q103 11
def r103_12:=X q103 12
def c103:CC:=sR r103_0<|sR r103_1<|.seq (.block 0<|.loop l103_0)<|qR r103_10 38 r103_11<|sR r103_12 .ret
theorem o103:FnI 103 40 f103 c103 [.tmp 4]:=oM func103
def q104:=V (RS f104=·)
def r104_0:=X q104 0
def r104_1:=X q104 1
def c104:CC:=sR r104_0<|.seq (.reg r104_1 (some [(0,1),(0,2)])) .ret
theorem o104:FnI 104 10 f104 c104 [.cell 4 34]:=oM func104
def q105:=V (RS f105=·)
def r105_0:=X q105 0
def r105_1:=X q105 1
def r105_2:=X q105 2
def c105:CC:=sR r105_0<|sR r105_1<|sR r105_2 .ret
theorem o105:FnI 105 15 f105 c105 [.cell 4 34]:=oM func105
def q114:=V (RS f114=·)
def r114_0:=X q114 0
def r114_1:=X q114 1
def r114_2:=X q114 2
def c114:CC:=sR r114_0<|sR r114_1<|.seq (.reg r114_2 (some [(1,4),(2,4)])) .ret
theorem o114:FnI 114 12 f114 c114 [.cell 2 34]:=oM func114
def q178:=V (RS f178=·)
def r178_0:=X q178 0
def r178_1:=X q178 1
def r178_2:=X q178 2
def r178_3:=X q178 3
def r178_4:=X q178 4
def r178_5:=X q178 5
def r178_6:=X q178 6
def r178_7:=X q178 7
def r178_8:=X q178 8
def r178_9:=X q178 9
def r178_10:=X q178 10
def r178_11:=X q178 11
def l178_0:CC:=sR r178_7<|.seq (xR 29 0)<|.seq (.block 1<|sR r178_8<|sR r178_9<|iS 35<|sR r178_10 .ret)<|rN r178_11
def r178_12:=X q178 12
def c178:CC:=sR r178_0<|qR r178_1 15 r178_2<|sR r178_3<|qR r178_4 25 r178_5<|.seq (sR r178_6<|.block 0<|.loop l178_0)<|sR r178_12 .ret
theorem o178:FnI 178 40 f178 c178 [.tmp 2,.tmp 3,.tmp 4]:=oM func178
def q179:=V (RS f179=·)
def r179_0:=X q179 0
def r179_1:=X q179 1
def r179_2:=X q179 2
def r179_3:=X q179 3
def r179_4:=X q179 4
def r179_5:=X q179 5
def r179_6:=X q179 6
def r179_7:=X q179 7
def r179_8:=X q179 8
def r179_9:=X q179 9
def r179_10:=X q179 10
def l179_1:CC:=sR r179_7<|.seq (xR 28 2)<|.seq (.block 3<|sR r179_8<|.reg r179_9 (some [(3,8)]))<|rN r179_10
def r179_11:=X q179 11
def l179_0:CC:=sR r179_3<|.seq (xR 15 0)<|.seq (.block 1<|sR r179_4<|sR r179_5<|sR r179_6<|.block 2<|.loop l179_1)<|rN r179_11
def r179_12:=X q179 12
def c179:CC:=sR r179_0<|sR r179_1<|.seq (sR r179_2<|.block 0<|.loop l179_0)<|sR r179_12 .ret
theorem o179:FnI 179 43 f179 c179 [.tmp 6]:=oM func179
def r180_0:RL:=[oP 5 (.box (.k (.agg [(.bool false),(.vec [] 0 (some 0))])))]
def r180_1:RL:=[ldO 6 false 1 2,mV 7 0,iX 8 1 6 7,ldO 9 false 1 8,mV 10 1,iX 11 1 9 10,ldO 12 false 1 11,cL 13 62 [.t 12],sT (.store 2 (.t 5) (.t 13))]
def c180:CC:=sR r180_0<|sR r180_1 .ret
theorem o180:FnI 180 14 f180 c180 [.cell 5 32]:=oM func180
def q181:=V (RS f181=·)
def r181_0:=X q181 0
def r181_1:=X q181 1
def r181_2:=X q181 2
def r181_3:=X q181 3
def r181_4:=X q181 4
def r181_5:=X q181 5
def r181_6:=X q181 6
def r181_7:=X q181 7
def r181_8:=X q181 8
def r181_9:=X q181 9
def r181_10:=X q181 10
def r181_11:=X q181 11
def l181_0:CC:=sR r181_7<|.seq (xR 29 0)<|.seq (.block 1<|sR r181_8<|sR r181_9<|iS 35<|sR r181_10 .ret)<|rN r181_11
def r181_12:=X q181 12
def c181:CC:=sR r181_0<|qR r181_1 15 r181_2<|sR r181_3<|qR r181_4 25 r181_5<|.seq (sR r181_6<|.block 0<|.loop l181_0)<|sR r181_12 .ret
theorem o181:FnI 181 40 f181 c181 [.tmp 2,.tmp 3,.tmp 4]:=oM func181
def r182_0:=V (RR f182 0=·)
def r182_1:=V (RR f182 1=·)
def r182_2:=V (RR f182 2=·)
def r182_3:=V (RR f182 3=·)
def r182_4:=V (RR f182 4=·)
def r182_5:=V (RR f182 5=·)
def r182_6:=V (RR f182 6=·)
def r182_7:=V (RR f182 7=·)
def r182_8:=V (RR f182 8=·)
def l182_0:CC:=sR r182_4<|.seq (xR 22 0)<|.seq (.block 1<|sR r182_5<|sR r182_6<|rN r182_7)<|rN r182_8
def r182_9:=V (RR f182 9=·)
def r182_10:=V (RR f182 10=·)
def r182_11:=V (RR f182 11=·)
def r182_12:=V (RR f182 12=·)
def r182_13:=V (RR f182 13=·)
def r182_14:=V (RR f182 14=·)
def r182_15:=V (RR f182 15=·)
def r182_16:=V (RR f182 16=·)
def l182_2:CC:= .seq (sR r182_15<|xR 57 4)<|.block 5<|rN r182_16
def r182_17:=V (RR f182 17=·)
def r182_18:=V (RR f182 18=·)
def r182_19:=V (RR f182 19=·)
def r182_20:=V (RR f182 20=·)
def r182_21:=V (RR f182 21=·)
def r182_22:=V (RR f182 22=·)
def r182_23:=V (RR f182 23=·)
def r182_24:=V (RR f182 24=·)
def r182_25:=V (RR f182 25=·)
def r182_26:=V (RR f182 26=·)
def r182_27:=V (RR f182 27=·)
def r182_28:=V (RR f182 28=·)
def r182_29:=V (RR f182 29=·)
def l182_4:CC:= .seq (sR r182_26<|xR 101 8)<|.seq (.block 9<|.seq (.reg r182_27 (some [(0,4),(0,7),(0,12),(4,12),(7,12),(8,12),(0,15),(4,15),(7,15),(8,15),(0,19),(4,19),(7,19),(8,19),(12,19),(15,19),(0,22),(4,22),(7,22),(8,22),(12,22),(15,22),(0,25),(4,25),(7,25),(8,25),(12,25),(15,25),(19,25),(22,25),(23,25),(24,25)]))<|.reg r182_28 (some [(3,5),(3,6),(5,6),(3,7)]))<|rN r182_29
def r182_30:=V (RR f182 30=·)
def l182_3:CC:= .seq (sR r182_24<|xR 94 6)<|.seq (.block 7<|sR r182_25<|.block 8<|.loop l182_4)<|rN r182_30
def r182_31:=V (RR f182 31=·)
def r182_32:=V (RR f182 32=·)
def l182_1:CC:=sR r182_12<|.seq (xR 41 2)<|.seq (.block 3<|sR r182_13<|sR r182_14<|.seq (.block 4<|.loop l182_2)<|qR r182_17 62 r182_18<|.seq (sR r182_19<|iS 66<|.seq (.reg r182_20 (some [(7,11)]))<|rN r182_21)<|sR r182_22<|.seq (sR r182_23<|.block 6<|.loop l182_3)<|rN r182_31)<|rN r182_32
def r182_33:=V (RR f182 33=·)
def r182_34:=V (RR f182 34=·)
def r182_35:=V (RR f182 35=·)
def c182:CC:=sR r182_0<|sR r182_1<|sR r182_2<|.seq (sR r182_3<|.block 0<|.loop l182_0)<|sR r182_9<|sR r182_10<|.seq (sR r182_11<|.block 2<|.loop l182_1)<|qR r182_33 144 r182_34<|sR r182_35 .ret
theorem o182:FnI 182 149 f182 c182 [.cell 2 32]:=oM func182
def q185:=V (RS f185=·)
def r185_0:=X q185 0
def r185_1:=X q185 1
def r185_2:=X q185 2
def r185_3:=X q185 3
def r185_4:=X q185 4
def r185_5:=X q185 5
def r185_6:=X q185 6
def r185_7:=X q185 7
def r185_8:=X q185 8
def l185_0:CC:=sR r185_3<|.seq (xR 13 0)<|.seq (.block 1<|sR r185_4<|sR r185_5<|.seq (.reg r185_6 (some [(0,2),(0,5),(2,5),(3,5),(0,6),(2,6),(3,6),(5,6)]))<|rN r185_7)<|rN r185_8
def r185_9:=X q185 9
def c185:CC:=sR r185_0<|sR r185_1<|.seq (sR r185_2<|.block 0<|.loop l185_0)<|sR r185_9 .ret
theorem o185:FnI 185 35 f185 c185 [.cell 2 34]:=oM func185
end
end Go.Proofs.YtgfbaioffpcelaaGreatDoor
namespace Go.Proofs.YtgfbaioffpcelaaGreatDoor
open Go Go.AL Go.Proofs Go.Limb
theorem qng:(0:Int).natAbs<BIG:=zdz (by decide)
theorem zvs:∃v,zap 1 v/\Rt 62 [.int .i64 1] [] v []:=znp 1 (by decide) (by decide)
set_option maxHeartbeats 1000000 in
theorem zyn{n d m e:Int}{a1 a2 b1 b2 x1 x2 y1 y2:AV}{k:Option Nat}(h1:zcc n d (.agg [a1,a2,b1,b2]))(h2:zcc m e (.agg [x1,x2,y1,y2]))(lo1:Low n d)(lo2:Low m e)(f1:(n*m).natAbs<BIG)(f2:(d*e).natAbs<BIG):
  ∃r,zcc (numR (n*m) (d*e)) (denR (n*m) (d*e)) r/\Rt 106 [.vec [a1,a2,b1,b2,x1,x2,y1,y2] 2 k] [] r []:=by
 obtain⟨w1,j1,t1⟩:=zdr h1 lo1;obtain⟨w2,j2,t2⟩:=zdr h2 lo2;obtain⟨o,io,t0⟩:=zvs;obtain⟨l1,c1,l2,c2,rfl,p1,p2⟩:=j1.shape;obtain⟨l3,c3,l4,c4,rfl,p3,p4⟩:=j2.shape;obtain⟨u1,q1,m1⟩:=iMul io p1 (by rw[xK];exact p1.big);obtain⟨u2,q2,m2⟩:=iMul io p2 (by rw[xK];exact p2.big);rw[xK]at q1 q2;obtain⟨u3,q3,m3⟩:=iMul q1 p3 f1;obtain⟨u4,q4,m4⟩:=iMul q2 p4 f2;obtain⟨r,ir,t3⟩:=zmb q3 q4 (xU lo1.pos lo2.pos);obtain⟨_,_,_,_,e0,_,_⟩:=h1.shape;obtain⟨_,_,_,_,e1,_,_⟩:=h2.shape;simp only[AV.agg.injEq,List.cons.injEq,and_true]at e0 e1;obtain⟨rfl,rfl,rfl,rfl⟩:=e0;obtain⟨rfl,rfl,rfl,rfl⟩:=e1;obtain⟨_,_,rfl⟩:=io.shape;obtain⟨_,_,rfl⟩:=q1.shape;obtain⟨_,_,rfl⟩:=q2.shape;obtain⟨_,_,rfl⟩:=q3.shape;obtain⟨_,_,rfl⟩:=q4.shape;obtain⟨_,_,_,_,rfl,_,_⟩:=ir.shape;refine⟨_,ir,?_⟩;refine oF o106 ?_;simp only[c106,r106_0,SS,reduceCtorEq];simp only[r106_1,SS];refine zaa t0 ?_;simp only[SS,decide_false,qN];refine zaa t0 ?_;simp only[SS,reduceIte,qJ,qQ,qX,decide_false,qN];simp only[r106_2,SS,reduceCtorEq,reduceIte,qQ,n2];refine W_un zuo 3 (zkx ?_);simp only[l106_0,r106_3,r106_4,SS,fC,reduceCtorEq,reduceIte,qJ,qQ,qX,decide_true,qN,xH,n2,tn0,le0];simp only[r106_5,SS,reduceIte,qJ,qQ,qX];refine zaa t1 ?_;simp only[SS,reduceIte,qJ,qQ,qX];simp only[r106_6,SS,reduceIte,qJ,qQ,qX];refine zaa m1 ?_;simp only[SS,reduceIte,qJ,qQ,qX];refine zaa m2 ?_;simp only[SS,reduceIte,qJ,qQ,qX];simp only[r106_7,SS,reduceIte,qQ,yW,wi1];refine⟨rfl,zkx ?_⟩;simp only[SS,fC,reduceCtorEq,reduceIte,qJ,qQ,qX,decide_true,yC,xH,n2,tn1,lt12];refine zaa t2 ?_;simp only[SS,reduceIte,qJ,qQ,qX];refine zaa m3 ?_;simp only[SS,reduceIte,qJ,qQ,qX];refine zaa m4 ?_;simp only[SS,reduceIte,qJ,qQ,qX,yW,wi2];refine⟨rfl,zkx ?_⟩;simp only[SS,fC,reduceCtorEq,reduceIte,qJ,qQ,qX,decide_false,qN,yC,n2];simp only[r106_8,SS,reduceIte,qJ,qQ,qX];refine zaa t3 ?_;simp only[SS,reduceIte,qJ,qQ,qX];exact dR
theorem zmc{f:FuncId}{id:Nat}{a1 a3 a5 a7:Bool}{l1 l2 l3 l4:List Nat}{n1 n2 n3 n4:Nat}{c1 c2 c3 c4:Option Nat}{v:AV}{H:Heap}{K:AV->Eff->List Nat->Nat->Prop}
  (h:Rt f [.vec [.bool a1,.vec (u32s l1) n1 c1,.bool a3,.vec (u32s l2) n2 c2,.bool a5,.vec (u32s l3) n3 c3,.bool a7,.vec (u32s l4) n4 c4] 2 (some 2)] [] v [])
  (hid:H[id]?=some (some [.bool a1,.vec (u32s l1) n1 c1,.bool a3,.vec (u32s l2) n2 c2,.bool a5,.vec (u32s l3) n3 c3,.bool a7,.vec (u32s l4) n4 c4])) (hv:v.closed=true) (hk:K v [(id,none)] [id] 0):ziv Tryz.prog G f [.sl id 0 2 4 (some 2)] H K:=
 zfp (d:=4) (args0:=[.sl 0 0 2 4 (some 2)]) h hid rfl (by simp[AV.ren,zan]) hk rfl (by simp only[xX,AV.closed,zI]) hv
theorem zcc.closed{n d:Int}{v:AV}(h:zcc n d v):v.closed=true:=by
 obtain⟨l1,c1,l2,c2,rfl,_,_⟩:=h.shape;simp only[xX,AV.closed,zI]
theorem jcf{m e:Int}{b1 b2 x1 x2:AV}(h:zcc m e (.agg [b1,b2,x1,x2])):zcc e m (.agg [x1,x2,b1,b2]):=by
 obtain⟨_,_,_,_,e0,i1,i2⟩:=h.shape;simp only[AV.agg.injEq,List.cons.injEq,and_true]at e0;obtain⟨rfl,rfl,rfl,rfl⟩:=e0;exact zhy i2 i1
theorem Low.inv{m e:Int}(h:Low m e)(hm:0<m):Low e m:=⟨hm,by rw[Int.gcd_comm];exact h.cop⟩
theorem jiw{n d m e:Int}{a b:AV}(h1:zcc n d a)(h2:zcc m e b)(lo1:Low n d)(lo2:Low m e)(hm:0<m)(f1:(n*e).natAbs<BIG)(f2:(d*m).natAbs<BIG):
  ∃r,zcc (numR (n*e) (d*m)) (denR (n*e) (d*m)) r/\Rt 107 [a,b] [] (.tup [r,.bool true]) []:=by
 obtain⟨w,iw,t1⟩:=zdr h2 lo2;have t2:=qud iw;rw[xQ hm]at t2;obtain⟨l1,c1,l2,c2,rfl,_,_⟩:=h1.shape;obtain⟨l3,c3,l4,c4,rfl,_,_⟩:=h2.shape;obtain⟨l5,c5,l6,c6,rfl,_,_⟩:=iw.shape;obtain⟨r,ir,t3⟩:=zyn (k:=some 2) h1 (jcf iw) lo1 (lo2.inv hm) f1 f2;have hr:=ir.closed;obtain⟨l7,c7,l8,c8,rfl,_,_⟩:=ir.shape;refine⟨_,ir,?_⟩;refine oF o107 ?_;simp only[c107,r107_0,SS,reduceCtorEq,reduceIte,qJ,qQ];simp only[r107_1,SS,reduceIte,qJ,qQ,qX];refine zaa t1 ?_;simp only[SS,reduceIte,qJ,qQ,qX];simp only[r107_2,SS,reduceIte,qJ,qQ,qX];refine zaa t2 ?_;simp only[SS,fC,reduceIte,qQ,decide_false,jX];simp only[r107_4,SS,reduceIte,qJ,qQ,qX,xH];refine zmc t3 rfl hr ?_;simp only[zaf,zac,qY,qA,SS,reduceIte,qJ,qQ,qX];exact dR
theorem ztc{n d m e:Int}{a b:AV}(h1:zcc n d a)(h2:zcc m e b)(lo1:Low n d)(lo2:Low m e)(hm:0<m)(f1:(n*e).natAbs<BIG)(f2:(d*m).natAbs<BIG):
  ∃r,zcc (numR (n*e) (d*m)) (denR (n*e) (d*m)) r/\Rt 38 [a,b] [] r []:=by
 obtain⟨r,ir,t1⟩:=jiw h1 h2 lo1 lo2 hm f1 f2;obtain⟨l1,c1,l2,c2,rfl,_,_⟩:=h1.shape;obtain⟨l3,c3,l4,c4,rfl,_,_⟩:=h2.shape;obtain⟨l7,c7,l8,c8,rfl,_,_⟩:=ir.shape;refine⟨_,ir,?_⟩;refine oF o38 ?_;simp only[c38,r38_0,SS,reduceCtorEq,reduceIte,qJ,qQ];simp only[r38_1,SS,reduceIte,qJ,qQ,qX];refine zaa t1 ?_;simp only[SS,reduceIte,qJ,qQ,qX,qG,qE];simp only[r38_2,SS,reduceIte,qJ,qQ,qX];exact dR
theorem jgg{n d m e:Int}{a b:AV}(h1:zcc n d a)(h2:zcc m e b)(lo1:Low n d)(lo2:Low m e)(f1:(n*m).natAbs<BIG)(f2:(d*e).natAbs<BIG):
  ∃r,zcc (numR (n*m) (d*e)) (denR (n*m) (d*e)) r/\Rt 37 [a,b] [] r []:=by
 obtain⟨l1,c1,l2,c2,rfl,_,_⟩:=h1.shape;obtain⟨l3,c3,l4,c4,rfl,_,_⟩:=h2.shape;obtain⟨r,ir,t3⟩:=zyn (k:=some 2) h1 h2 lo1 lo2 f1 f2;have hr:=ir.closed;obtain⟨l7,c7,l8,c8,rfl,_,_⟩:=ir.shape;refine⟨_,ir,?_⟩;refine oF o37 ?_;simp only[c37,r37_0,SS,reduceCtorEq,reduceIte,qJ,qQ];simp only[r37_1,SS,reduceIte,qJ,qQ,qX,xH];refine zmc t3 rfl hr ?_;simp only[zaf,zac,qY,qA,SS,reduceIte,qJ,qQ,qX];exact dR
theorem jgh{n d:Int}{a:AV}(h:zcc n d a)(lo:Low n d):∃r,zcc (-n) d r/\Rt 114 [a] [] r []:=by
 obtain⟨w,iw,t1⟩:=zdr h lo;obtain⟨l1,c1,l2,c2,rfl,_,_⟩:=h.shape;obtain⟨l5,c5,l6,c6,rfl,p1,p2⟩:=iw.shape;obtain⟨v,iv,t2⟩:=iNeg p1;obtain⟨l7,c7,rfl⟩:=iv.shape;refine⟨_,zhy iv p2,?_⟩;refine oF o114 ?_;simp only[c114,r114_0,SS,reduceCtorEq];simp only[r114_1,SS,reduceIte,qJ,qQ,qX];refine zaa t1 ?_;simp only[SS,reduceIte,qJ,qQ,qX];simp only[r114_2,SS,reduceIte,qJ,qQ,qX];refine zaa t2 ?_;simp only[SS,reduceIte,qJ,qQ,qX];refine⟨rfl,?_⟩;exact dR
set_option maxHeartbeats 1000000 in
theorem jgi{n d m e:Int}{a1 a2 b1 b2 x1 x2 y1 y2:AV}{k:Option Nat}(h1:zcc n d (.agg [a1,a2,b1,b2]))(h2:zcc m e (.agg [x1,x2,y1,y2]))(lo1:Low n d)(lo2:Low m e)(f1:(n*e+m*d).natAbs<BIG)(f2:(d*e).natAbs<BIG)(g1:(n*e).natAbs<BIG)(g2:(m*d).natAbs<BIG):
  ∃r,zcc (numR (n*e+m*d) (d*e)) (denR (n*e+m*d) (d*e)) r/\Rt 185 [.vec [a1,a2,b1,b2,x1,x2,y1,y2] 2 k] [] r []:=by
 obtain⟨w1,j1,t1⟩:=zdr h1 lo1;obtain⟨w2,j2,t2⟩:=zdr h2 lo2;obtain⟨o,io,t0⟩:=zvs;obtain⟨l1,c1,l2,c2,rfl,p1,p2⟩:=j1.shape;obtain⟨l3,c3,l4,c4,rfl,p3,p4⟩:=j2.shape;have i0:zap 0 (.agg [.bool false,.vec [] 0 (some 0)]):=⟨[],some 0,zbn.nil,by simp,rfl,rfl⟩
 obtain⟨u1,q1,m1⟩:=iMul i0 p2 (by rw[Int.zero_mul];exact qng);obtain⟨u2,q2,m2⟩:=iMul p1 io (by rw[yG];exact p1.big);rw[Int.zero_mul]at q1;rw[yG]at q2;obtain⟨u3,q3,m3⟩:=iAdd q1 q2 (by rw[Int.zero_add];exact p1.big);rw[Int.zero_add]at q3;obtain⟨u4,q4,m4⟩:=iMul io p2 (by rw[xK];exact p2.big);rw[xK]at q4;obtain⟨u5,q5,m5⟩:=iMul q3 p4 g1;obtain⟨u6,q6,m6⟩:=iMul p3 q4 g2;obtain⟨u7,q7,m7⟩:=iAdd q5 q6 f1;obtain⟨u8,q8,m8⟩:=iMul q4 p4 f2;obtain⟨r,ir,t3⟩:=zmb q7 q8 (xU lo1.pos lo2.pos);obtain⟨_,_,_,_,e0,_,_⟩:=h1.shape;obtain⟨_,_,_,_,e1,_,_⟩:=h2.shape;simp only[AV.agg.injEq,List.cons.injEq,and_true]at e0 e1;obtain⟨rfl,rfl,rfl,rfl⟩:=e0;obtain⟨rfl,rfl,rfl,rfl⟩:=e1;obtain⟨_,_,rfl⟩:=io.shape;obtain⟨_,_,rfl⟩:=q1.shape;obtain⟨_,_,rfl⟩:=q2.shape;obtain⟨_,_,rfl⟩:=q3.shape;obtain⟨_,_,rfl⟩:=q4.shape;obtain⟨_,_,rfl⟩:=q5.shape;obtain⟨_,_,rfl⟩:=q6.shape;obtain⟨_,_,rfl⟩:=q7.shape;obtain⟨_,_,rfl⟩:=q8.shape;obtain⟨_,_,_,_,rfl,_,_⟩:=ir.shape;refine⟨_,ir,?_⟩;refine oF o185 ?_;simp only[c185,r185_0,SS,reduceCtorEq];simp only[r185_1,SS];refine zaa t0 ?_;simp only[SS,reduceIte,qJ,qQ,qX,decide_false,qN];simp only[r185_2,SS,reduceCtorEq,reduceIte,qQ,n2];refine W_un zuo 3 (zkx ?_);simp only[l185_0,r185_3,r185_4,SS,fC,reduceCtorEq,reduceIte,qJ,qQ,qX,decide_true,qN,xH,n2,tn0,le0];simp only[r185_5,SS,reduceIte,qJ,qQ,qX];refine zaa t1 ?_;simp only[SS,reduceIte,qJ,qQ,qX];simp only[r185_6,SS,reduceIte,qJ,qQ,qX];refine zaa m1 ?_;simp only[SS,reduceIte,qJ,qQ,qX,decide_false,qN];refine zaa m2 ?_;simp only[SS,reduceIte,qQ];refine zaa m3 ?_;simp only[SS,reduceIte,qJ,qQ,qX];refine⟨rfl,?_⟩;simp only[r185_7,SS,reduceIte,qJ,qQ,qX];refine zaa m4 ?_;simp only[SS,reduceIte,qJ,qQ,qX];simp only[r185_8,SS,reduceIte,qQ,yW,wi1];refine zkx ?_;simp only[SS,fC,reduceCtorEq,reduceIte,qJ,qQ,qX,decide_true,yC,xH,n2,tn1,lt12];refine zaa t2 ?_;simp only[SS,reduceIte,qJ,qQ,qX];refine zaa m5 ?_;simp only[SS,reduceIte,qJ,qQ,qX];refine zaa m6 ?_;simp only[SS,reduceIte,qQ];refine zaa m7 ?_;simp only[SS,reduceIte,qJ,qQ,qX];refine⟨rfl,?_⟩;refine zaa m8 ?_;simp only[SS,reduceIte,qJ,qQ,qX,yW,wi2];refine zkx ?_;simp only[SS,fC,reduceCtorEq,reduceIte,qJ,qQ,qX,decide_false,qN,yC,n2];simp only[r185_9,SS,reduceIte,qJ,qQ,qX];refine zaa t3 ?_;simp only[SS,reduceIte,qJ,qQ,qX];exact dR
theorem jix{n d m e:Int}{a b:AV}(h1:zcc n d a)(h2:zcc m e b)(lo1:Low n d)(lo2:Low m e)(f1:(n*e+ -m*d).natAbs<BIG)(f2:(d*e).natAbs<BIG)(g1:(n*e).natAbs<BIG)(g2:(-m*d).natAbs<BIG):
  ∃r,zcc (numR (n*e+ -m*d) (d*e)) (denR (n*e+ -m*d) (d*e)) r/\Rt 104 [a,b] [] r []:=by
 obtain⟨w,iw,t1⟩:=jgh h2 lo2;have lo3:Low (-m) e:=⟨lo2.pos,by rw[Int.neg_gcd];exact lo2.cop⟩
 obtain⟨l1,c1,l2,c2,rfl,_,_⟩:=h1.shape;obtain⟨l3,c3,l4,c4,rfl,_,_⟩:=h2.shape;obtain⟨l5,c5,l6,c6,rfl,_,_⟩:=iw.shape;obtain⟨r,ir,t3⟩:=jgi (k:=some 2) h1 iw lo1 lo3 f1 f2 g1 g2;have hr:=ir.closed;obtain⟨l7,c7,l8,c8,rfl,_,_⟩:=ir.shape;refine⟨_,ir,?_⟩;refine oF o104 ?_;simp only[c104,r104_0,SS,reduceCtorEq,reduceIte,qJ,qQ];simp only[r104_1,SS,reduceIte,qJ,qQ,qX];refine zaa t1 ?_;simp only[SS,reduceIte,qJ,qQ,qX,xH];refine zmc t3 rfl hr ?_;simp only[zaf,zac,keys,qY,qA,SS,reduceIte,qJ,qQ,qX];refine⟨rfl,?_⟩;exact dR
theorem zlb{x:Int}(h:x.natAbs<18446744073709551616):x.natAbs<BIG:=zdz (by omega)
theorem fitN{x:Nat}(h:x<18446744073709551616):x<BIG:=zlb (x:=(x:Int)) h
theorem bitD:∀n:Nat,n<8->∀j:Nat,j<7->((n/2^j)=2*(n/2^(j+1))\/(n/2^j)=2*(n/2^(j+1))+1)/\(IntKind.i64.wrap ((BitVec.ofInt IntKind.i64.bits (n:Int) &&& BitVec.ofInt IntKind.i64.bits ((2^j:Nat):Int)).toNat:Int)≠0↔(n/2^j)=2*(n/2^(j+1))+1):=by decide +kernel
theorem iPow{a n:Nat}{va:AV}(ia:zap (a:Int) va)(ha:1<=a)(hn:n<8)(hb:a^n<BIG):∃v,zap ((a^n:Nat):Int) v/\Rt 152 [va,.int .i64 (n:Int)] [] (.tup [v,.bool true]) []:=by
 have d1:decide ((n:Int)<0)=false:=dF;have d2:decide (64<(n:Int))=false:=dF;have hle:∀i,i<=n->a^i<BIG:=λi hi=>yX (xG ha hi) hb
 obtain⟨o,io,t0⟩:=zvs;obtain⟨la,ca,rfl⟩:=ia.shape;obtain⟨lo,co,rfl⟩:=io.shape;refine⟨intV ((a^n:Nat):Int),zbv (by rw[xD];exact hb),?_⟩;refine oFw o152 ?_;simp only[c152,r152_0,r152_1,↓zcq,SS,fC,reduceCtorEq,reduceIte,qQ,d1,d2];simp only[r152_3,SS];refine zaa t0 ?_;simp only[zaf,zac,qY,qA,SS,reduceIte,qJ,qQ,qX];simp only[r152_4,SS]
 refine zaj (λf E H=>∃u v,f<=7/\zap ((a^(n/2^f):Nat):Int) (.agg [u,v])/\H=[some [.bool (decide ((a:Int)<0)),.vec (u32s la) la.length ca],some [.bool false,.vec [] 0 (some 0)],some [u,v]]/\E 1= .int .i64 (n:Int)/\E 2= .ptr 0 0/\E 4= .ptr 1 0/\E 6= .ptr 2 0/\E 7= .int .i64 (if f=0 then 0 else((2^(f-1):Nat):Int))) (n:=7)
  ⟨_,_,qU 7,by rw[show n/2^7=0 from Nat.div_eq_of_lt (by omega),Nat.pow_zero];exact io,by rfl,by rfl,by rfl,by rfl,by rfl,by rfl⟩ ?_
 rintro f E H ⟨u,v,hf,iu,rfl,e1,e2,e4,e6,e7⟩;refine wM ?_;obtain⟨lu,cu,rfl,rfl⟩:=zau iu;cases f with
 |zero=>
  rw[if_pos rfl]at e7;have d0:decide ((0:Int)<0)=false:=rfl;simp only[l152_0,r152_5,SS,fC,reduceCtorEq,reduceIte,qQ,e7,d0];simp only[r152_10,SS,reduceIte,qJ,qQ,qX,e4,e6];have hw:=iu.wk;rw[show n/2^0=n by rw[Nat.pow_zero,Nat.div_one]]at hw ⊢;have hld:ldSz Tryz.prog 32=some (true,2):=by kernel_rfl
  refine⟨.inl trivial,.tup [.agg [.bool (decide (((a^n:Nat):Int)<0)),.vec (u32s lu) lu.length cu],.bool true],_,?_,.drop _ _ rfl (by intro i cs h;omega),?_⟩
  ·simp only[resA,yJ,zL,zeh,hld,UU,qQ,reduceIte,e4,qan,qsv,need];rfl
  ·simp only[AV.wk,AV.wk.wkL]at hw ⊢;rw[hw]
 |succ j=>
  rw[if_neg (by omega),xV]at e7;have h2:0<2^j:=zK (by decide);have d0:decide ((0:Int)<((2^j:Nat):Int))=true:=dT;simp only[l152_0,r152_5,SS,fC,reduceCtorEq,reduceIte,qQ,e7,d0];simp only[r152_6,SS,reduceIte,qJ,qQ,qX,e6];have hsq:((a^(n/2^(j+1)):Nat):Int)*((a^(n/2^(j+1)):Nat):Int)=((a^(2*(n/2^(j+1))):Nat):Int):=by rw[<-yU,<-Nat.pow_add];congr 2;omega
  have h2x:2*(n/2^(j+1))<=n:=by
   have:=Nat.div_mul_le_self n (2^(j+1));have h3:2<=2^(j+1):=by rw[xS];omega
   have:=xJ (n/2^(j+1)) h3;omega
  obtain⟨w,iw,tm⟩:=iMul iu iu (by rw[hsq];rw[xD];exact hle _ h2x);rw[hsq]at iw;obtain⟨lw,cw,rfl⟩:=iw.shape;refine zaa tm ?_;simp only[zaf,zac,qY,qA,SS,reduceIte,qJ,qQ,qX,e6];simp only[r152_7,SS,reduceIte,qQ,e1,e7];obtain⟨hb1,hb2⟩:=bitD n hn j (by omega)
  have wq:IntKind.i64.wrap (Int.tdiv ((2^j:Nat):Int) 2)=(if j=0 then 0 else((2^(j-1):Nat):Int)):=by
   cases j with
   |zero=>rfl
   |succ j=>
    rw[if_neg (by omega),xV];have:Int.tdiv ((2^(j+1):Nat):Int) 2=((2^(j+1)/2:Nat):Int):=rfl;rw[this,xS,Nat.mul_div_cancel _ (by decide)];have:=xG (n:=2) (by decide) (show j<=7 by omega);generalize 2^j=y at*;exact w64 (by omega) (by omega)
  refine⟨λh=>?_,λh=>?_⟩
  ·have hq:=hb2.1 h;have hm1:((a^(2*(n/2^(j+1))):Nat):Int)*(a:Int)=((a^(n/2^j):Nat):Int):=by rw[<-yU,<-xS,hq]
   obtain⟨w2,iw2,tm2⟩:=iMul iw ia (by rw[hm1];rw[xD];exact hle _ (jL _ _));rw[hm1]at iw2;obtain⟨lw2,cw2,rfl⟩:=iw2.shape;simp only[r152_8,SS,reduceIte,qJ,qQ,qX,e2,e6];refine zaa tm2 ?_;simp only[zaf,zac,qY,qA,SS,reduceIte,qJ,qQ,qX,e6];simp only[r152_9,SS,reduceIte,qQ,e7,wq];refine⟨by decide,j,_,_,by omega,⟨_,_,by omega,iw2,rfl,?_,?_,?_,?_,?_⟩,.refl⟩<;>simp only[UU,qQ,reduceIte, *]
  ·have hq:n/2^j=2*(n/2^(j+1)):=by
    rcases hb1 with e | e
    ·exact e
    ·exact absurd (hb2.2 e) h
   rw[<-hq]at iw;simp only[r152_9,SS,reduceIte,qQ,e7,wq];refine⟨by decide,j,_,_,by omega,⟨_,_,by omega,iw,rfl,?_,?_,?_,?_,?_⟩,.refl⟩<;>simp only[UU,qQ,reduceIte, *]
theorem zds{x:Int}:Low x 1:=⟨by decide,by simp⟩
theorem que{a s:Nat}{v:AV}(iv:zcc (a:Int) 1 v)(ha:1<=a)(hs:s<8)(hb:a^s<BIG)(neg:Bool)(hn:neg=true->0<s):
  ∃w,(if neg then zcc 1 ((a^s:Nat):Int) w else zcc ((a^s:Nat):Int) 1 w)/\Rt 64 [v,.int .i64 (if neg then -(s:Int)else s)] [] (.tup [w,.bool true]) []:=by
 have hp:0<a^s:=zK (by omega);obtain⟨w,iw,tc⟩:=zdr iv zds;have ts:=qud iw;rw[xQ (by omega)]at ts;obtain⟨l1,c1,l2,c2,rfl,_,_⟩:=iv.shape;obtain⟨l3,c3,l4,c4,rfl,p1,p2⟩:=iw.shape;obtain⟨u1,q1,t1⟩:=iPow p1 ha hs hb;obtain⟨u2,q2,t2⟩:=iPow (a:=1) p2 (by decide) hs (by rw[Nat.one_pow];exact fitN (by decide));rw[Nat.one_pow]at q2;have hld:ldSz Tryz.prog 34=some (true,4):=by kernel_rfl
 have d2:decide (64<(if neg then -(s:Int)else s))=false:=decide_eq_false (by split<;>omega);have d1:decide ((if neg then -(s:Int)else s)< -64)=false:=decide_eq_false (by split<;>omega);cases neg with
 |true=>
  have h0:=hn rfl;simp only[if_true]at d1 d2 ⊢;have d3:decide (-(s:Int)<0)=true:=dT;have wn:IntKind.i64.wrap (0 - -(s:Int))=(s:Int):=wQ (by omega);obtain⟨r,ir,t3⟩:=zmb q2 q1 (Int.natCast_pos.2 hp);rw[show numR ((1:Nat):Int) ((a^s:Nat):Int)=1 by unfold numR;rw[n1,jB];rfl,show denR ((1:Nat):Int) ((a^s:Nat):Int)=((a^s:Nat):Int) by unfold denR;rw[n1,jB];exact yB _]at ir;obtain⟨_,_,rfl⟩:=q1.shape;obtain⟨_,_,rfl⟩:=q2.shape;obtain⟨_,_,_,_,rfl,_,_⟩:=ir.shape;refine⟨_,ir,?_⟩;refine oF o64 ?_;simp only[c64,r64_0,r64_1,SS,reduceCtorEq,reduceIte,qJ,qQ,qX];refine zaa tc ?_;simp only[zaf,zac,qY,qA,SS,reduceIte,qJ,qQ,qX];simp only[r64_2,↓zcq,SS,reduceIte,qJ,qQ,qX,d1,d2,d3];refine zaa ts ?_;simp only[zaf,zac,qY,qA,SS,fC,reduceIte,qQ];refine⟨λh=>absurd h (by decide),λ_=>?_⟩;simp only[r64_4,SS,reduceIte,qJ,qQ,qX];refine⟨rfl,?_⟩;simp only[r64_5,SS,fC,reduceIte,qQ,d3];simp only[r64_6,SS,reduceIte,qJ,qQ,qX,wn];refine⟨rfl,?_⟩;simp only[r64_7,SS,reduceIte,qJ,qQ,qX];refine zaa t2 ?_;simp only[zaf,zac,qY,qA,SS,reduceIte,qJ,qQ,qX,qG,qE];simp only[r64_8,SS,reduceIte,qJ,qQ,qX];refine zaa t1 ?_;simp only[zaf,zac,qY,qA,SS,reduceIte,qJ,qQ,qX,qG,qE];simp only[r64_9,SS,reduceIte,qJ,qQ,qX];refine zaa t3 ?_;simp only[zaf,zac,qY,qA,SS,reduceIte,qJ,qQ,qX];refine⟨.inl trivial,.tup [.agg [.bool (decide ((1:Int)<0)),.vec _ _ _,.bool (decide (((a^s:Nat):Int)<0)),.vec _ _ _],.bool true],?_,.drop _ _ rfl (by intro i cs h;omega)⟩;simp only[resA,yJ,zL,zeh,hld,UU,qQ,reduceIte,qan,qsv,need];rfl
 |false=>
  simp only[zM,if_false]at d1 d2 ⊢;have d3:decide ((s:Int)<0)=false:=dF;obtain⟨r,ir,t3⟩:=zmb q1 q2 (by decide);have lo:=zds (x:=((a^s:Nat):Int));rw[n1,lo.num,lo.den]at ir;rw[n1]at q2;obtain⟨_,_,rfl⟩:=q1.shape;obtain⟨_,_,rfl⟩:=q2.shape;obtain⟨_,_,_,_,rfl,_,_⟩:=ir.shape;refine⟨_,ir,?_⟩;refine oF o64 ?_;simp only[c64,r64_0,r64_1,SS,reduceCtorEq,reduceIte,qJ,qQ,qX];refine zaa tc ?_;simp only[zaf,zac,qY,qA,SS,reduceIte,qJ,qQ,qX];simp only[r64_2,↓zcq,↓zkk,SS,fC,reduceIte,qQ,d1,d2,d3];simp only[r64_4,SS,reduceIte,qJ,qQ,qX];refine⟨rfl,?_⟩;simp only[r64_5,SS,fC,reduceIte,qQ,d3];simp only[r64_7,SS,reduceIte,qJ,qQ,qX];refine zaa t1 ?_;simp only[zaf,zac,qY,qA,SS,reduceIte,qJ,qQ,qX,qG,qE];simp only[r64_8,SS,reduceIte,qJ,qQ,qX];refine zaa t2 ?_;simp only[zaf,zac,qY,qA,SS,reduceIte,qJ,qQ,qX,qG,qE];simp only[r64_9,SS,reduceIte,qJ,qQ,qX];refine zaa t3 ?_;simp only[zaf,zac,qY,qA,SS,reduceIte,qJ,qQ,qX];refine⟨.inl trivial,.tup [.agg [.bool (decide (((a^s:Nat):Int)<0)),.vec _ _ _,.bool (decide ((1:Int)<0)),.vec _ _ _],.bool true],?_,.drop _ _ rfl (by intro i cs h;omega)⟩;simp only[resA,yJ,zL,zeh,hld,UU,qQ,reduceIte,qan,qsv,need];rfl
theorem jgj{n d:Int}{a b:AV}(h1:zcc n d a)(h2:zcc n d b)(lo:Low n d)(hb:(n*d).natAbs<BIG):Rt 17 [a,b] [] (.int .i64 0) []:=by
 obtain⟨w1,j1,t1⟩:=zdr h1 lo;obtain⟨w2,j2,t2⟩:=zdr h2 lo;have s1:=qud j1;have s2':=qud j2;obtain⟨_,_,_,_,rfl,_,_⟩:=h1.shape;obtain⟨_,_,_,_,rfl,_,_⟩:=h2.shape;obtain⟨l1,c1,l2,c2,rfl,p1,p2⟩:=j1.shape;obtain⟨l3,c3,l4,c4,rfl,p3,p4⟩:=j2.shape;obtain⟨u1,q1,m1⟩:=iMul p1 p4 hb;obtain⟨u2,q2,m2⟩:=iMul p3 p2 hb;have t4:=jio q1 q2;obtain⟨_,_,rfl⟩:=q1.shape;obtain⟨_,_,rfl⟩:=q2.shape;have ds:decide (n.sign<n.sign)=false:=dF;refine oF o17 ?_;simp only[c17,r17_0,SS,reduceCtorEq,reduceIte,qQ];simp only[r17_1,SS];simp only[r17_2,SS,reduceIte,qJ,qQ,qX];refine zaa t1 ?_;simp only[SS,reduceIte,qJ,qQ,qX];refine zaa t2 ?_;simp only[SS,reduceIte,qJ,qQ,qX];refine⟨rfl,?_⟩;simp only[r17_3,SS,reduceIte,qJ,qQ,qX];refine⟨65,[],rfl,by kernel_rfl,zaa s1 ?_⟩;simp only[SS,reduceIte,qJ,qQ,qX];refine⟨65,[],rfl,by kernel_rfl,zaa s2' ?_⟩;simp only[SS,reduceIte,qQ];refine⟨rfl,?_⟩;simp only[r17_4,SS,fC,reduceIte,qQ,ds];simp only[r17_6,SS,fC,reduceIte,qQ,ds];simp only[r17_8,SS,reduceIte,qJ,qQ,qX];refine zaa m1 ?_;simp only[SS,reduceIte,qJ,qQ,qX];refine zaa m2 ?_;simp only[SS,reduceIte,qQ];refine zaa t4 ?_;simp only[SS,reduceIte,qQ];refine⟨rfl,?_⟩;exact⟨.inl trivial,_,rfl,.freeze 1 _ _ _ rfl (by intro i cs h;omega)⟩
theorem zvt{a s:Nat}(ha:1<=a)(hs:s<8)(hb:a^s<9223372036854775808)(ha':a<9223372036854775808)(neg:Bool)(hn:neg=true->0<s):
  ∃w,(if neg then zcc 1 ((a^s:Nat):Int) w else zcc ((a^s:Nat):Int) 1 w)/\Rt 105 [.int .i64 (a:Int),.int .i64 (if neg then -(s:Int)else s)] [] w []:=by
 obtain⟨v,iv,t1⟩:=zjf (a:Int) (by omega) (by omega);obtain⟨w,iw,t2⟩:=que iv ha hs (fitN (by omega)) neg hn;obtain⟨_,_,_,_,rfl,_,_⟩:=iv.shape
 have hsh:∃x1 l1 k1 c1 x2 l2 k2 c2,w= .agg [.bool x1,.vec (u32s l1) k1 c1,.bool x2,.vec (u32s l2) k2 c2]:=by
  cases neg with
  |true=>simp only[if_true]at iw;obtain⟨_,_,_,_,rfl,_,_⟩:=iw.shape;exact⟨_,_,_,_,_,_,_,_,rfl⟩
  |false=>simp only[zM,if_false]at iw;obtain⟨_,_,_,_,rfl,_,_⟩:=iw.shape;exact⟨_,_,_,_,_,_,_,_,rfl⟩
 obtain⟨_,_,_,_,_,_,_,_,rfl⟩:=hsh;refine⟨_,iw,?_⟩;refine oF o105 ?_;simp only[c105,r105_0,SS,reduceCtorEq];simp only[r105_1,SS,reduceCtorEq,reduceIte,qQ];refine zaa t1 ?_;simp only[SS,reduceIte,qQ,decide_false,qN];refine zaa t2 ?_;simp only[SS,reduceIte,qJ,qQ,qX,qG,qE];simp only[r105_2,SS,reduceIte,qJ,qQ,qX];exact dR
theorem jcg{P:Nat}{c:Int}(hP:0<P)(hb:P<9223372036854775808)(hc:c=0\/c=1\/c= -1):∃m e:Int,numR (c*1) (1*(P:Int))=m/\denR (c*1) (1*(P:Int))=e/\Low m e/\numR (1*e+ -m*1) (1*e)=numR ((P:Nat)-c) (P:Int)/\denR (1*e+ -m*1) (1*e)=denR ((P:Nat)-c) (P:Int)/\(1*e+ -m*1).natAbs<18446744073709551616/\e.natAbs<18446744073709551616/\m.natAbs<18446744073709551616:=by
 have hs1:(P:Int)/(P:Int)=1:=Int.ediv_self (by omega);rcases hc with rfl | hc
 ·refine⟨0,1,by simp[numR],by simp[denR,hs1],zds,?_,?_,by decide,by decide,by decide⟩
  ·rw[Int.sub_zero];unfold numR;rw[Int.gcd_self,xD,hs1];rfl
  ·rw[Int.sub_zero];unfold denR;rw[Int.gcd_self,xD,hs1];rfl
 ·have hg:Int.gcd c (P:Int)=1:=by rcases hc with rfl | rfl<;>simp
  have e1:1*(P:Int)+ -c*1=(P:Int)-c:=by omega
  refine⟨c,P,by rw[yG,xK];unfold numR;rw[hg];exact yB _,by rw[yG,xK];unfold denR;rw[hg];exact yB _,⟨by omega,hg⟩,by rw[e1,xK],by rw[e1,xK],by omega,by omega,by omega⟩
theorem quf{p s:Nat}{c:Int}(hp:1<=p)(hs:s<8)(hb:p^s<9223372036854775808)(hp':p<9223372036854775808)(hc:c=0\/c=1\/c= -1):
  ∃r,zcc (numR ((p^s:Nat)-c) ((p^s:Nat):Int)) (denR ((p^s:Nat)-c) ((p^s:Nat):Int)) r/\Rt 36 [.int .i64 (p:Int),.int .i64 c,.int .i64 (s:Int)] [] r []:=by
 have hP:0<p^s:=zK (by omega);generalize hPe:p^s=P at*;obtain⟨o,io,t1⟩:=zjf 1 (by decide) (by decide);obtain⟨w,iw,t2⟩:=zjf c (by omega) (by omega);obtain⟨x,ix',t3⟩:=zvt (a:=p) (s:=s) hp hs (by rw[hPe];exact hb) hp' (decide (0<s)) (by simp)
 have ix:zcc 1 (P:Int) x:=by
  rcases Nat.eq_zero_or_pos s with h | h
  ·subst h;have:P=1:=by rw[<-hPe];rfl
   subst this;simpa[hPe]using ix'
  ·simpa[hPe,h]using ix'
 have e3:(if decide (0<s)=true then -(s:Int)else s)= -(s:Int):=by
  by_cases h:0<s
  ·simp[h]
  ·have:s=0:=by omega
   subst this;rfl
 rw[e3]at t3;have loP:Low 1 (P:Int):=⟨by omega,by simp⟩
 obtain⟨y,iy,t4⟩:=jgg iw ix zds loP (zlb (by omega)) (zlb (by omega));obtain⟨m,e,em,ee,lo,en,ed,b1,b2,b3⟩:=jcg hP hb hc;rw[em,ee]at iy;obtain⟨r,ir,t5⟩:=jix io iy zds lo (zlb b1) (zlb (by rw[xK];exact b2)) (zlb (by rw[xK];exact b2)) (zlb (by rw[yG,Int.natAbs_neg];exact b3));rw[en,ed]at ir;have wn:IntKind.i64.wrap (0-(s:Int))= -(s:Int):=wQ (by omega);obtain⟨_,_,_,_,rfl,_,_⟩:=io.shape;obtain⟨_,_,_,_,rfl,_,_⟩:=iw.shape;obtain⟨_,_,_,_,rfl,_,_⟩:=ix.shape;obtain⟨_,_,_,_,rfl,_,_⟩:=iy.shape;obtain⟨_,_,_,_,rfl,_,_⟩:=ir.shape;refine⟨_,ir,?_⟩;refine oF o36 ?_;simp only[c36,r36_0,SS,reduceCtorEq];simp only[r36_1,SS];refine zaa t1 ?_;simp only[SS,reduceIte,qQ,decide_false,qN];refine zaa t2 ?_;simp only[SS,reduceCtorEq,reduceIte,qQ,decide_false,qN,wn];refine zaa t3 ?_;simp only[SS,reduceIte,qQ,decide_false,qN];refine zaa t4 ?_;simp only[SS,reduceIte,qQ];refine zaa t5 ?_;simp only[SS,reduceIte,qJ,qQ,qX];exact dR
theorem jiy{n d m e:Int}{a b:AV}(h1:zcc n d a)(h2:zcc m e b)(lo1:Low n d)(lo2:Low m e)(f1:(n*e+m*d).natAbs<BIG)(f2:(d*e).natAbs<BIG)(g1:(n*e).natAbs<BIG)(g2:(m*d).natAbs<BIG):
  ∃r,zcc (numR (n*e+m*d) (d*e)) (denR (n*e+m*d) (d*e)) r/\Rt 113 [a,b] [] r []:=by
 obtain⟨l1,c1,l2,c2,rfl,_,_⟩:=h1.shape;obtain⟨l3,c3,l4,c4,rfl,_,_⟩:=h2.shape;obtain⟨r,ir,t3⟩:=jgi (k:=some 2) h1 h2 lo1 lo2 f1 f2 g1 g2;have hr:=ir.closed;obtain⟨l7,c7,l8,c8,rfl,_,_⟩:=ir.shape;refine⟨_,ir,?_⟩;refine oF o113 ?_;simp only[c113,r113_0,SS,reduceCtorEq,reduceIte,qJ,qQ];simp only[r113_1,SS,reduceIte,qJ,qQ,qX,xH];refine zmc t3 rfl hr ?_;simp only[zaf,zac,qY,qA,SS,reduceIte,qJ,qQ,qX];exact dR
theorem zyo{n d:Int}(hd:0<d):Low (numR n d) (denR n d):=⟨zqu hd,qnb hd⟩
def RV(q:Int×Int)(v:AV):Prop:=zcc q.1 q.2 v/\Low q.1 q.2
def Bd(q:Int×Int)(B:Nat):Prop:=q.1.natAbs<=B/\q.2.natAbs<=B
def mulQ(a b:Int×Int):Int×Int:=(numR (a.1*b.1) (a.2*b.2),denR (a.1*b.1) (a.2*b.2))
def quoQ(a b:Int×Int):Int×Int:=(numR (a.1*b.2) (a.2*b.1),denR (a.1*b.2) (a.2*b.1))
def addQ(a b:Int×Int):Int×Int:=(numR (a.1*b.2+b.1*a.2) (a.2*b.2),denR (a.1*b.2+b.1*a.2) (a.2*b.2))
theorem zmd{x y:Int}{A B:Nat}(hx:x.natAbs<=A)(hy:y.natAbs<=B):(x*y).natAbs<=A*B:=by rw[Int.natAbs_mul];exact xY hx hy
theorem rMul{a b:Int×Int}{v w:AV}{A B:Nat}(ha:RV a v)(hb:RV b w)(ba:Bd a A)(bb:Bd b B)(h:A*B<BIG):∃r,RV (mulQ a b) r/\Bd (mulQ a b) (A*B)/\Rt 37 [v,w] [] r []:=by
 have m1:=zmd ba.1 bb.1;have m2:=zmd ba.2 bb.2;have hp:=xU ha.2.pos hb.2.pos;obtain⟨r,ir,t⟩:=jgg ha.1 hb.1 ha.2 hb.2 (by omega) (by omega);have n1:=zta (a.1*b.1) (a.2*b.2);have n2:=ztb (a.1*b.1) (a.2*b.2);exact⟨r,⟨ir,zyo hp⟩,⟨by show(numR _ _).natAbs<=_;omega,by show(denR _ _).natAbs<=_;omega⟩,t⟩
theorem rQuo{a b:Int×Int}{v w:AV}{A B:Nat}(ha:RV a v)(hb:RV b w)(ba:Bd a A)(bb:Bd b B)(h0:0<b.1)(h:A*B<BIG):∃r,RV (quoQ a b) r/\Bd (quoQ a b) (A*B)/\Rt 38 [v,w] [] r []:=by
 have m1:=zmd ba.1 bb.2;have m2:=zmd ba.2 bb.1;have hp:=xU ha.2.pos h0;obtain⟨r,ir,t⟩:=ztc ha.1 hb.1 ha.2 hb.2 h0 (by omega) (by omega);have n1:=zta (a.1*b.2) (a.2*b.1);have n2:=ztb (a.1*b.2) (a.2*b.1);exact⟨r,⟨ir,zyo hp⟩,⟨by show(numR _ _).natAbs<=_;omega,by show(denR _ _).natAbs<=_;omega⟩,t⟩
theorem rAdd{a b:Int×Int}{v w:AV}{A B:Nat}(ha:RV a v)(hb:RV b w)(ba:Bd a A)(bb:Bd b B)(h:2*(A*B)<BIG):∃r,RV (addQ a b) r/\Bd (addQ a b) (2*(A*B))/\Rt 113 [v,w] [] r []:=by
 have m1:=zmd ba.1 bb.2;have m2:=zmd bb.1 ba.2;rw[Nat.mul_comm B A]at m2;have m3:=zmd ba.2 bb.2;have hp:=xU ha.2.pos hb.2.pos;have hs:=Int.natAbs_add_le (a.1*b.2) (b.1*a.2);obtain⟨r,ir,t⟩:=jiy ha.1 hb.1 ha.2 hb.2 (by omega) (by omega) (by omega) (by omega);have n1:=zta (a.1*b.2+b.1*a.2) (a.2*b.2);have n2:=ztb (a.1*b.2+b.1*a.2) (a.2*b.2);exact⟨r,⟨ir,zyo hp⟩,⟨by show(numR _ _).natAbs<=_;omega,by show(denR _ _).natAbs<=_;omega⟩,t⟩
theorem rNeg{a:Int×Int}{v:AV}(ha:RV a v):∃r,RV (-a.1,a.2) r/\Rt 114 [v] [] r []:=by
 obtain⟨r,ir,t⟩:=jgh ha.1 ha.2;exact⟨r,⟨ir,ha.2.pos,by show Int.gcd (-a.1) a.2=1;rw[Int.neg_gcd];exact ha.2.cop⟩,t⟩
open Go.Knuth Go.Newton
theorem qug{a:Nat}(ha:1<=a)(ha2:a<2147483648)(c:Option Nat):∃g c',1<=g/\g<=65536/\Rt 217 [.vec (u32s [a]) 1 c] [] (.vec (u32s [g]) 1 c') []:=by
 obtain⟨s,hs,s1,s2,t1⟩:=jfk (x:=a) (by omega) (by omega);obtain⟨x0,hx0⟩:∃x,x=2^((33-s)/2):=⟨_,rfl⟩
 have h16:x0<=65536:=by rw[hx0,show(65536:Nat)=2^16 from rfl];exact xG (by decide) (by omega)
 have h1:1<=x0:=by rw[hx0];exact Nat.one_le_two_pow
 obtain⟨g,hg,g1,g2⟩:=NR.ex ha x0 x0 (qU _) h1;refine⟨g,if g=x0 then some 1 else some 2,g1,by omega,?_⟩;have w1:IntKind.i64.wrap (32-(s:Int))=((32-s:Nat):Int):=wQ (by omega);have w2:IntKind.i64.wrap (((32-s:Nat):Int)+1)=((33-s:Nat):Int):=wQ (by omega)
 have w3:IntKind.i64.wrap (Int.tdiv ((33-s:Nat):Int) 2)=(((33-s)/2:Nat):Int):=by
  rw[show Int.tdiv ((33-s:Nat):Int) 2=(((33-s)/2:Nat):Int)from rfl];exact w64 (by omega) (by omega)
 have w4:Int.tdiv (((33-s)/2:Nat):Int) 32=0:=by
  rw[show Int.tdiv (((33-s)/2:Nat):Int) 32=(((33-s)/2/32:Nat):Int)from rfl,show(33-s)/2/32=0 by omega];rfl
 have w5:Int.tmod (((33-s)/2:Nat):Int) 32=(((33-s)/2:Nat):Int):=by
  rw[show Int.tmod (((33-s)/2:Nat):Int) 32=(((33-s)/2%32:Nat):Int)from rfl,Nat.mod_eq_of_lt (by omega)]
 have hd:¬(((1:Nat):Int)=0):=by decide
 have w6:IntKind.i64.wrap (((1:Nat):Int)-1)=0:=by decide
 have w7:IntKind.i64.wrap (32*((1:Nat):Int))=32:=by decide
 have g0:(u32s [a]).getD 0 AV.junk= .int .u32 (a:Int):=rfl;refine oF o217 ?_;simp only[c217,r217_0,SS,reduceCtorEq];simp only[r217_1,SS,reduceCtorEq,reduceIte,qQ];simp only[r217_3,SS,fC,reduceCtorEq,reduceIte,qQ,qX,w6,w7,xP,g0,zae];refine⟨λe=>absurd e (by decide),λ_=>⟨by decide,?_⟩⟩;refine zaa t1 ?_;simp only[zaf,zac,qY,qA,SS,reduceIte,qQ,decide_false,jX,n1,w1];simp only[r217_4,SS,reduceIte,qQ,w2,w3];simp only[r217_5,SS,reduceIte,qQ,yC,yW,wi0,wi1,tn1,w4];simp only[r217_6,SS,reduceIte,qQ,n1,wi0,tn0,le0,lt01,w4,w5]
 have w8:IntKind.u32.wrap (1*2^min (((33-s)/2:Nat):Int).toNat IntKind.u32.bits)=(x0:Int):=by
  have:min (((33-s)/2:Nat):Int).toNat IntKind.u32.bits=(33-s)/2:=by
   rw[qD];exact Nat.min_eq_left (by show(33-s)/2<=32;omega)
  rw[this,xK,hx0];have e:((2:Int)^((33-s)/2))=((2^((33-s)/2):Nat):Int):=by simp
  rw[e,<-hx0];show(x0:Int)%4294967296=x0
  omega
 refine⟨by decide,by decide,by decide,⟨by decide,by decide⟩,by decide,by decide,by omega,by simp,?_⟩;rw[w8];have hblk:(List.replicate 1 (AV.int IntKind.u32 0)).set 0 (.int .u32 (x0:Int))=u32s [x0]:=rfl;rw[hblk];refine W.weak (zhp 0 3 (qU _) (Nat.zero_le _) (λi cs h=>absurd h (by omega))) ?_;generalize hE1:frzE 0 3 [some (u32s [x0])] _=E1;have f0:E1 0= .vec (u32s [a]) 1 c:=by rw[<-hE1];unfold frzE;simp only[UU,qQ];rfl
 have f5:E1 5= .vec (u32s [x0]) 1 (some 1):=by rw[<-hE1];unfold frzE;simp only[UU,qQ,reduceIte];rfl
 clear hE1;rw[List.take_zero];refine qtp ha ha2 hg h1 (by omega) f0 f5 ?_;intro E' H' h2;refine⟨.inl rfl,_,rfl,?_⟩;rw[h2];exact .drop _ _ (by simp only[AV.under]) (by intro i cs h;omega)
theorem jiz{a:Nat}{v:AV}(ha:1<=a)(ha2:a<2147483648)(iv:zap (a:Int) v):∃g r,1<=g/\g<=65536/\zap ((g:Nat):Int) r/\Rt 191 [v] [] (.tup [r,.bool true]) []:=by
 have t0:=zpx iv;rw[xQ (by omega)]at t0;obtain⟨l,c,hc,hl,hv,rfl⟩:=iv;have t1:=zfu c hc (by omega)
 obtain rfl:l=[a]:=by
  refine zdk hc (zfr (by omega) (by omega)) ?_;rw[hv,xD];simp[Limb.val]
 obtain⟨g,c',g1,g2,t2⟩:=qug ha ha2 c;obtain⟨r,ir,t3⟩:=zih false (l:=[g]) c' (zfr (by omega) (by omega)) (by simp);have eg:sgnZ false (val [g])=((g:Nat):Int):=by simp[sgnZ,Limb.val]
 rw[eg]at ir;refine⟨g,r,g1,g2,ir,?_⟩;obtain⟨l2,c2,rfl⟩:=ir.shape;have d1:decide ((1:Int)<0)=false:=by decide
 have d2:decide ((a:Int)<0)=false:=dF;rw[d2]at t0 ⊢;refine oF o191 ?_;simp only[c191,r191_0,SS,reduceCtorEq];simp only[r191_1,SS,reduceIte,qJ,qQ,qX];refine zaa t0 ?_;simp only[zaf,zac,qY,qA,SS,fC,reduceIte,qQ,d1];simp only[r191_3,SS,fC,reduceIte,qJ,qQ,qX];refine zaa t1 ?_;simp only[zaf,zac,qY,qA,SS,reduceIte,qQ];refine zaa t2 ?_;simp only[zaf,zac,qY,qA,SS,reduceIte,qQ];refine zaa t3 ?_;simp only[zaf,zac,qY,qA,SS,reduceIte,qJ,qQ,qX];exact dR
theorem jgk{a:Nat}(ha:1<=a)(ha2:a<2147483648):∃g r,1<=g/\g<=65536/\RV (((g:Nat):Int),1) r/\Rt 116 [.int .i64 (a:Int)] [] r []:=by
 obtain⟨v,iv,t1⟩:=znp (a:Int) (by omega) (by omega);obtain⟨g,w,g1,g2,iw,t2⟩:=jiz ha ha2 iv;obtain⟨r,ir,t3⟩:=zqv iw;obtain⟨l1,c1,rfl⟩:=iv.shape;obtain⟨l2,c2,rfl⟩:=iw.shape;obtain⟨k1,e1,k2,e2,rfl,_,_⟩:=ir.shape;refine⟨g,_,g1,g2,⟨ir,zds⟩,?_⟩;refine oF o116 ?_;simp only[c116,r116_0,SS,reduceCtorEq];simp only[r116_1,SS,reduceCtorEq,reduceIte,qQ,decide_false,qN];refine zaa t1 ?_;simp only[zaf,zac,qY,qA,SS,reduceIte,qQ];refine zaa t2 ?_;simp only[zaf,zac,qY,qA,SS,reduceIte,qJ,qQ,qX,qG,qE];simp only[r116_2,SS,reduceIte,qJ,qQ,qX];refine zaa t3 ?_;simp only[zaf,zac,qY,qA,SS,reduceIte,qJ,qQ,qX,decide_false,qN];exact dR
end Go.Proofs.YtgfbaioffpcelaaGreatDoor
namespace Go.Proofs.YtgfbaioffpcelaaGreatDoor
open Go Go.AL Go.Proofs
noncomputable section
open Tryz
def q5:=V (RS f5=·)
def r5_0:=X q5 0
def r5_1:=X q5 1
def r5_2:=X q5 2
def r5_3:=X q5 3
def r5_4:=X q5 4
def r5_5:=X q5 5
def r5_6:=X q5 6
def r5_7:=X q5 7
def r5_8:=X q5 8
def l5_0:CC:=sR r5_4<|.seq (xR 11 0)<|.seq (.block 1<|sR r5_5<|sR r5_6<|iS 16<|sR r5_7 .ret)<|rN r5_8
def r5_9:=X q5 9
def c5:CC:=sR r5_0<|qR r5_1 7 r5_2<|.seq (sR r5_3<|.block 0<|.loop l5_0)<|sR r5_9 .ret
def q101:=V (RS f101=·)
def r101_0:=X q101 0
def r101_1:=X q101 1
def r101_2:=X q101 2
def r101_3:=X q101 3
def r101_4:=X q101 4
def r101_5:=X q101 5
def r101_6:=X q101 6
def l101_0:CC:=sR r101_2<|.seq (xR 12 0)<|.seq (.block 1<|sR r101_3<|sR r101_4<|iS 17<|sR r101_5 .ret)<|rN r101_6
def r101_7:=X q101 7
def r101_8:=X q101 8
def r101_9:=X q101 9
def r101_10:=X q101 10
def r101_11:=X q101 11
def r101_12:=X q101 12
def r101_13:=X q101 13
def r101_14:=X q101 14
def r101_15:=X q101 15
def r101_16:=X q101 16
def l101_2:CC:=sR r101_10<|.seq (xR 25 4)<|.seq (.block 5<|sR r101_11<|sR r101_12<|.seq (sR r101_13<|iS 34<|.exit 2)<|sR r101_14<|iS 38<|sR r101_15<|.exit 2)<|rN r101_16
def r101_17:=X q101 17
def l101_1:CC:= .seq (.block 3<|sR r101_9<|.block 4<|.loop l101_2)<|rN r101_17
def r101_18:=X q101 18
def c101:CC:=sR r101_0<|.scope<|.seq (sR r101_1<|.block 0<|.loop l101_0)<|sR r101_7<|.seq (.label 0)<|.seq (sR r101_8<|.block 2<|.loop l101_1)<|sR r101_18 .ret
theorem o101:FnI 101 42 f101 c101 [.tmp 2]:=oM func101
end
end Go.Proofs.YtgfbaioffpcelaaGreatDoor
namespace Go.Proofs.YtgfbaioffpcelaaGreatDoor
open Go Go.AL Go.Proofs
def LF(n l:Nat):Prop:=(l=n/\∀d,2<=d->d*d<=n->n%d≠0)\/(2<=l/\l*l<=n/\n%l=0/\∀d,2<=d->d<l->n%d≠0)
def Prm(n:Nat):Prop:=2<=n/\∀d,2<=d->d*d<=n->n%d≠0
theorem LF.uniq{n l l':Nat}(h:LF n l)(h':LF n l'):l=l':=by
 rcases h with⟨rfl,h⟩ | ⟨h1,h2,h3,h4⟩
 ·rcases h' with⟨rfl,h'⟩ | ⟨g1,g2,g3,g4⟩
  ·rfl
  ·exact absurd g3 (h _ g1 g2)
 ·rcases h' with⟨rfl,h'⟩ | ⟨g1,g2,g3,g4⟩
  ·exact absurd h3 (h' _ h1 h2)
  ·rcases Nat.lt_trichotomy l l' with e | e | e
   ·exact absurd h3 (g4 l h1 e)
   ·exact e
   ·exact absurd g3 (h4 l' g1 e)
theorem LF.ex(n:Nat):∃l,LF n l:=by
 by_cases h:∃d,2<=d/\d*d<=n/\n%d=0
 ·have key:∀k d,d<=k->(2<=d/\d*d<=n/\n%d=0)->∃l,LF n l:=by
   intro k
   induction k with
   |zero=>intro d hd h;omega
   |succ k ih=>
    intro d hd h;by_cases h2:∃d',2<=d'/\d'<d/\n%d'=0
    ·obtain⟨d',a,b,c⟩:=h2;exact ih d' (by omega) ⟨a,xB (xY (by omega) (by omega)) h.2.1,c⟩
    ·exact⟨d,.inr ⟨h.1,h.2.1,h.2.2,λd' a b c=>h2 ⟨d',a,b,c⟩⟩⟩
  obtain⟨d,hd⟩:=h;exact key d d (qU _) hd
 ·exact⟨n,.inl ⟨rfl,λd a b c=>h ⟨d,a,b,c⟩⟩⟩
theorem LF.prm{n l:Nat}(hn:2<=n)(h:LF n l):l=n↔Prm n:=by
 constructor
 ·rintro rfl;rcases h with⟨_,h⟩ | ⟨h1,h2,_,_⟩
  ·exact⟨hn,h⟩
  ·have:=zJ l h1;omega
 ·intro hp;rcases h with⟨h,_⟩ | ⟨h1,h2,h3,_⟩
  ·exact h
  ·exact absurd h3 (hp.2 l h1 h2)
def off(j:Nat):Nat:=[7,11,13,17,19,23,29,31,37].getD j 0
theorem jgl:∀j,j<8->∀e,e<37->off j<e->e<off (j+1)->e%2=0\/e%3=0\/e%5=0:=by decide
theorem qnh:∀j,j<9->7<=off j/\off j<=37:=by decide
theorem jja{k j d:Nat}(hj:j<8)(h1:30*k+off j<d)(h2:d<30*k+off (j+1)):d%2=0\/d%3=0\/d%5=0:=by
 obtain⟨e,rfl⟩:∃e,d=30*k+e:=⟨d-30*k,by omega⟩
 have:=qnh (j+1) (by omega);have:=jgl j hj e (by omega) (by omega) (by omega);omega
theorem jgm{j:Nat}(hj:j<9):7<=off j/\off j<=37:=qnh j hj
theorem qni{n d q:Nat}(h:n%d=0)(hq:d%q=0):n%q=0:=Nat.mod_eq_zero_of_dvd (Nat.dvd_trans (yS hq) (yS h))
theorem quh{n d:Nat}(h2:n%2≠0)(h3:n%3≠0)(h5:n%5≠0)(h:d%2=0\/d%3=0\/d%5=0):n%d≠0:=by
 intro e;rcases h with h | h | h
 ·exact h2 (qni e h)
 ·exact h3 (qni e h)
 ·exact h5 (qni e h)
theorem jgn{d D n:Nat}(h:n<D*D)(hd:d*d<=n):d<D:=by
 rcases qC d D with e | e
 ·exact e
 ·have:=xY e e;omega
def offA:List AV:=[.int .i64 7,.int .i64 11,.int .i64 13,.int .i64 17,.int .i64 19,.int .i64 23,.int .i64 29,.int .i64 31]
theorem qui{j:Nat}(hj:j<8):offA.getD j .junk= .int .i64 (off j:Int):=by
 rcases(by omega:j=0\/j=1\/j=2\/j=3\/j=4\/j=5\/j=6\/j=7)with rfl | rfl | rfl | rfl | rfl | rfl | rfl | rfl<;>rfl
theorem qnj{n l:Nat}(hn:2<=n)(hn2:n<=2147483647)(hl:LF n l):Rt 101 [.int .i64 (n:Int)] [] (.int .i64 (l:Int)) []:=by
 refine oF o101 ?_;simp only[c101,r101_0,SS];refine qcx (wM ?_);simp only[r101_1,SS,reduceCtorEq,qJ,qX]
 refine zaj (λm E H=>∃i:Nat,i+m=3/\H=[]/\E 0= .int .i64 (n:Int)/\E 10= .agg [.int .i64 2,.int .i64 3,.int .i64 5]/\E 11= .int .i64 (i:Int)/\(0<i->n%2≠0)/\(1<i->n%3≠0)/\(2<i->n%5≠0)) (n:=3)
  ⟨0,rfl,rfl,by rfl,by rfl,by rfl,λh=>absurd h (by omega),λh=>absurd h (by omega),λh=>absurd h (by omega)⟩ ?_
 rintro m E H ⟨i,him,rfl,e0,e10,e11,k2,k3,k5⟩;refine wM ?_;have er:∀q:Nat,Int.tmod (n:Int) (q:Int)=((n%q:Nat):Int):=λq=>rfl
 simp only[l101_0,r101_2,SS,reduceCtorEq,reduceIte,e11];refine⟨λhlt=>?_,λhge=>?_⟩
 ·obtain⟨q,hq,hi⟩:∃q:Nat,([AV.int .i64 2,.int .i64 3,.int .i64 5]:List AV).getD i .junk= .int .i64 (q:Int)/\(i=0/\q=2\/i=1/\q=3\/i=2/\q=5):=by
   rcases(by omega:i=0\/i=1\/i=2)with rfl | rfl | rfl
   ·exact⟨2,rfl,by omega⟩
   ·exact⟨3,rfl,by omega⟩
   ·exact⟨5,rfl,by omega⟩
  have w5:=wS1 i (by omega);simp only[r101_3,r101_4,SS,fC,reduceCtorEq,reduceIte,qJ,qQ,qX,e0,e10,e11,hq,qD,er];refine⟨⟨by omega,by omega,by omega⟩,by omega,λh0=>?_,λh0=>?_⟩
  ·have hlq:l=q:=by
    refine LF.uniq hl ?_;rcases(by omega:q*q<=n\/n<q*q)with h | h
    ·refine .inr ⟨by omega,h,by omega,λd hd hdq=>?_⟩;rcases hi with⟨rfl,rfl⟩ | ⟨rfl,rfl⟩ | ⟨rfl,rfl⟩
     ·omega
     ·rcases(by omega:d=2)with rfl;exact k2 (by omega)
     ·rcases(by omega:d=2\/d=3\/d=4)with rfl | rfl | rfl
      ·exact k2 (by omega)
      ·exact k3 (by omega)
      ·have:=k2 (by omega);omega
    ·refine .inl ⟨?_,λd hd hdn=>?_⟩
     ·rcases hi with⟨rfl,rfl⟩ | ⟨rfl,rfl⟩ | ⟨rfl,rfl⟩
      ·omega
      ·have:=k2 (by omega);omega
      ·have:=k2 (by omega);have:=k3 (by omega);omega
     ·have hdq:=jgn h hdn;rcases hi with⟨rfl,rfl⟩ | ⟨rfl,rfl⟩ | ⟨rfl,rfl⟩
      ·omega
      ·rcases(by omega:d=2)with rfl;exact k2 (by omega)
      ·rcases(by omega:d=2\/d=3\/d=4)with rfl | rfl | rfl
       ·exact k2 (by omega)
       ·exact k3 (by omega)
       ·have:=k2 (by omega);omega
   subst hlq;simp only[r101_5,SS,reduceIte,qQ];refine⟨λ_=>by simp,?_⟩;exact kR
  ·simp only[r101_6,SS,reduceIte,qQ,e11,w5];refine⟨m-1,_,_,by omega,⟨i+1,by omega,rfl,?_,?_,?_,λh=>?_,λh=>?_,λh=>?_⟩,.refl⟩
   ·exact e0
   ·exact e10
   ·rfl
   ·rcases hi with⟨rfl,rfl⟩ | ⟨rfl,rfl⟩ | ⟨rfl,rfl⟩
    ·omega
    ·exact k2 (by omega)
    ·exact k2 (by omega)
   ·rcases hi with⟨rfl,rfl⟩ | ⟨rfl,rfl⟩ | ⟨rfl,rfl⟩
    ·omega
    ·omega
    ·exact k3 (by omega)
   ·rcases hi with⟨rfl,rfl⟩ | ⟨rfl,rfl⟩ | ⟨rfl,rfl⟩<;>omega
 ·have hi3:i=3:=by omega
  subst hi3;have k2:=k2 (by omega);have k3:=k3 (by omega);have k5:=k5 (by omega);simp only[r101_7,r101_8,SS,reduceCtorEq,reduceIte,qQ,e0]
  refine zaj (λm E H=>∃k:Nat,k+m=1600/\H=[]/\E 0= .int .i64 (n:Int)/\E 5= .int .i64 (n:Int)/\E 6= .int .i64 ((30*k:Nat):Int)/\(∀d,2<=d->d<30*k+7->n%d≠0)/\(k=0\/(30*k+1)*(30*k+1)<=n)) (n:=1600)
   ⟨0,rfl,rfl,by exact e0,by rfl,by rfl,λd hd hd7=>?_,.inl rfl⟩ ?_
  ·rcases(by omega:d=2\/d=3\/d=4\/d=5\/d=6)with rfl | rfl | rfl | rfl | rfl<;>omega
  clear e0 e10 e11 E;rintro m E H ⟨k,hkm,rfl,e0,e5,e6,hd,hsq⟩;refine wM ?_
  have hk:k<=1545:=by
   rcases hsq with h | h
   ·omega
   ·rcases qC 1545 k with h2 | h2
    ·have:=xY (show 46381<=30*k+1 by omega) (show 46381<=30*k+1 by omega);omega
    ·exact h2
  simp only[l101_1,r101_9,SS,qJ,qQ,qX]
  refine zaj (λq E H=>∃j:Nat,j+q=8/\H=[]/\E 0= .int .i64 (n:Int)/\E 5= .int .i64 (n:Int)/\E 6= .int .i64 ((30*k:Nat):Int)/\E 23= .agg offA/\E 24= .int .i64 (j:Int)/\(∀d,2<=d->d<30*k+off j->n%d≠0)/\(j=0\/(30*k+off (j-1))*(30*k+off (j-1))<=n)) (n:=8)
   ⟨0,rfl,rfl,by exact e0,by exact e5,by exact e6,by rfl,by rfl,hd,.inl rfl⟩ ?_
  rintro q E H ⟨j,hjq,rfl,e0,e5,e6,e23,e24,hd,hsqj⟩;refine wM ?_;simp only[l101_2,r101_10,SS,reduceCtorEq,reduceIte,qQ,e24];refine⟨λhlt=>?_,λhge=>?_⟩
  ·have hj:j<8:=by omega
   obtain⟨q,rfl⟩:∃q',q=q'+1:=⟨q-1,by omega⟩
   have ho:=jgm (j:=j) (by omega);have hg:=qui hj;have hol:offA.length=8:=rfl;generalize hD:30*k+off j=D at*;have wd:IntKind.i64.wrap (((30*k:Nat):Int)+(off j:Int))=(D:Int):=wQ (by omega);have hDD:D*D<=46390*46390:=xY (by omega) (by omega);have wq:IntKind.i64.wrap ((D:Int)*(D:Int))=((D*D:Nat):Int):=by rw[<-yU];exact w64 (by omega) (by omega)
   have w5:=wS1 j (by omega);have erD:=er D;simp only[r101_11,r101_12,r101_13,SS,fC,reduceCtorEq,reduceIte,qQ,qX,e0,e6,e23,e24,hg,hol,qD,wd,wq];refine⟨⟨by omega,by omega,by omega⟩,λhgt=>?_,λhng=>?_⟩
   ·have hln:l=n:=LF.uniq hl (.inl ⟨rfl,λd h2 hdn=>hd d h2 (jgn (by omega) hdn)⟩);subst hln;simp only[r101_18,SS,reduceIte,qQ,e5];refine⟨λ_=>by simp,?_⟩;exact kR
   ·have hD0:(D:Int)≠0:=by omega
    simp only[r101_14,SS,reduceCtorEq,reduceIte,qQ,e0,erD];refine⟨hD0,λh0=>?_,λh0=>?_⟩
    ·have hlD:l=D:=LF.uniq hl (.inr ⟨by omega,by omega,by omega,hd⟩);subst hlD;simp only[r101_15,r101_18,SS,reduceIte,qQ];refine⟨λ_=>by simp,?_⟩;exact kR
    ·simp only[r101_16,SS,reduceIte,qQ,e24,w5];refine⟨q,_,_,by omega,⟨j+1,by omega,rfl,?_,?_,?_,?_,?_,λd h2 hlt=>?_,.inr ?_⟩,.refl⟩
     ·exact e0
     ·exact e5
     ·exact e6
     ·exact e23
     ·rfl
     ·rcases(by omega:d<D\/d=D\/D<d)with h | h | h
      ·exact hd d h2 h
      ·subst h;omega
      ·exact quh k2 k3 k5 (jja hj (by omega) hlt)
     ·rw[xV,hD];omega
  ·have hj8:j=8:=by omega
   subst hj8;obtain⟨m,rfl⟩:∃m',m=m'+1:=⟨m-1,by omega⟩
   have e31:off (8-1)=31:=rfl;have e37:off 8=37:=rfl;rw[e31]at hsqj;rw[e37]at hd;have w30:IntKind.i64.wrap (((30*k:Nat):Int)+30)=((30*(k+1):Nat):Int):=wQ (by omega);simp only[r101_17,SS,reduceIte,qQ,e6,w30];refine⟨m,_,_,by omega,⟨k+1,by omega,rfl,?_,?_,?_,λd h2 hlt=>hd d h2 (by omega),.inr ?_⟩,.refl⟩
   ·exact e0
   ·exact e5
   ·rfl
   ·rw[show 30*(k+1)+1=30*k+31 by omega];omega
def PrmZ(z:Int):Prop:=2<=z/\z<=2147483647/\Prm z.toNat
theorem prIs{z:Int}{b:Bool}(hb:b=true↔PrmZ z):Rt 144 [.int .i64 z] [] (.bool b) []:=by
 refine oF o144 ?_;by_cases h2:2<=z;rotate_left
 ·have d1:decide (2<=z)=false:=decide_eq_false h2
  obtain rfl:b=false:=by
   cases b with
   |false=>rfl
   |true=>exact absurd (hb.1 rfl).1 h2
  simp only[c144,r144_0,r144_1,SS,fC,reduceCtorEq,reduceIte,qQ,d1];exact kR
 have d1:decide (2<=z)=true:=decide_eq_true h2;by_cases hM:z<=2147483647;rotate_left
 ·have d2:decide (z<=2147483647)=false:=decide_eq_false hM
  obtain rfl:b=false:=by
   cases b with
   |false=>rfl
   |true=>exact absurd (hb.1 rfl).2.1 hM
  simp only[c144,r144_0,r144_1,SS,fC,reduceCtorEq,reduceIte,qQ,d1,d2];exact kR
 have d2:decide (z<=2147483647)=true:=decide_eq_true hM;obtain⟨n,rfl⟩:∃n:Nat,z=(n:Int):=⟨z.toNat,by omega⟩
 obtain⟨l,hl⟩:=LF.ex n;have t:=qnj (n:=n) (by omega) (by omega) hl
 have hbl:decide ((l:Int)=(n:Int))=b:=by
  have hp:=LF.prm (by omega) hl
  have:(l:Int)=(n:Int)↔b=true:=by
   rw[hb];constructor
   ·intro e;exact⟨h2,hM,by rw[qD];exact hp.1 (by omega)⟩
   ·intro e;have:=hp.2 (by have:=e.2.2;rwa[qD]at this);omega
  cases b with
  |true=>exact decide_eq_true (this.2 rfl)
  |false=>exact decide_eq_false (λe=>by simpa using this.1 e)
 simp only[c144,r144_0,r144_1,SS,fC,reduceCtorEq,reduceIte,qQ,d1,d2];refine zaa t ?_;simp only[SS,fC,reduceCtorEq,reduceIte,qQ,hbl];exact kR
open Go.Limb
def zqw(n i:Nat):List AV:=(List.range i).map λk=> .sl (k+1) 0 n 1 (some n)
def outS(N n i:Nat):List AV:=zqw n i++List.replicate (N-i) nilV
def bH(N n:Nat)(rows:List (List Int)):Heap:=some (outS N n rows.length)::rows.map λr=>some (i64z r)
theorem zjg(n i:Nat):(zqw n i).length=i:=by simp[zqw]
theorem zfl{N n i:Nat}(h:i<=N):(outS N n i).length=N:=by simp[outS,zjg];omega
theorem zfm{N n i k:Nat}(h:k<i):(outS N n i).getD k .junk= .sl (k+1) 0 n 1 (some n):=by
 unfold outS zqw;rw[qZ,xW (by simpa using h),xA,zC h];rfl
theorem qee(N n:Nat)(rows:List (List Int)):(bH N n rows).length=rows.length+1:=by simp[bH]
theorem zen(N n:Nat)(rows:List (List Int)):getB (bH N n rows) 0=some (outS N n rows.length):=rfl
theorem zgq{N n i:Nat}{rows:List (List Int)}(h:i<rows.length):getB (bH N n rows) (i+1)=some (i64z (rows.getD i [])):=by
 unfold getB bH;rw[qE,xA,qZ,qV h];rfl
theorem zii{N n i:Nat}{rows:List (List Int)}(r:List Int):(bH N n rows).set (i+1) (some (i64z r))=bH N n (rows.set i r):=by
 unfold bH;rw[List.set_cons_succ,yV,jZ]
theorem qnk{N n i:Nat}(h:i<N):(outS N n i).set i (.sl (i+1) 0 n 1 (some n))=outS N n (i+1):=by
 unfold outS;have e:List.replicate (N-i) nilV=nilV::List.replicate (N-(i+1)) nilV:=by rw[<-List.replicate_succ];congr 1;omega
 have ez:zqw n (i+1)=zqw n i++[.sl (i+1) 0 n 1 (some n)]:=by simp[zqw,jM]
 rw[e,ez,xE _ _ (by rw[zjg];omega),zjg,xI];simp
theorem qef{N n:Nat}{rows:List (List Int)}(r:List Int)(h:rows.length<N):(bH N n rows++[some (i64z r)]).set 0 (some ((outS N n rows.length).set rows.length (.sl (rows.length+1) 0 n 1 (some n))))=bH N n (rows++[r]):=by
 rw[qnk h];unfold bH;simp
theorem zdi(r:List Int)(j:Nat)(z:Int):(i64z r).set j (.int .i64 z)=i64z (r.set j z):=by simp[i64z,jZ]
theorem zkd(n:Nat)(z:Int):List.replicate n (AV.int .i64 z)=i64z (List.replicate n z):=by simp[i64z]
theorem zol(r:List Int)(m d:Nat)(H:Heap):(i64z r).mapM (frzI m H (d+1))=some (i64z r):=by
 refine zoe (λa ha=>?_);unfold i64z at ha;obtain⟨z,_,rfl⟩:=List.mem_map.1 ha;rfl
def zbt(n:Nat)(rows:List (List Int)):List AV:=rows.map λr=> .vec (i64z r) n (some n)
theorem qnl{N n:Nat}{rows:List (List Int)}(hN:rows.length=N)(hn:∀i,i<N->(rows.getD i []).length=n):frzI 0 (bH N n rows) 3 (.sl 0 0 N 1 (some N))=some (.vec (zbt n rows) N (some N)):=by
 have e0:outS N n rows.length=zqw n N:=by
  unfold outS;rw[hN,xI,qY,qA]
 have key:(zqw n N).mapM (frzI 0 (bH N n rows) 2)=some (zbt n rows):=by
  have:zbt n rows=(List.range N).map λk=>AV.vec (i64z (rows.getD k [])) n (some n):=by
   refine xC (by simp[zbt,hN]) λk h1 h2=>?_
   simp only[zbt,List.getElem_map,List.getElem_range];have hk:k<rows.length:=by simpa[zbt]using h1
   rw[qZ,qV hk];rfl
  rw[this];unfold zqw;rw[List.mapM_map]
  have:∀l:List Nat,(∀k∈l,k<N)->l.mapM (λk=>frzI 0 (bH N n rows) 2 (.sl (k+1) 0 n 1 (some n)))=some (l.map λk=>AV.vec (i64z (rows.getD k [])) n (some n)):=by
   intro l
   induction l with
   |nil=>intro _;rfl
   |cons k l ih=>
    intro h;have hk:=h k (by simp)
    have e:frzI 0 (bH N n rows) 2 (.sl (k+1) 0 n 1 (some n))=some (.vec (i64z (rows.getD k [])) n (some n)):=by
     rw[frzI];have hl:=hn k hk;simp only[jN,if_false,zgq (show k<rows.length by omega),need,xM,zY,zbe,hl,qU,if_true,zU];rw[xZ (by rw[zbe];omega),zol];rfl
    rw[yJ,e,ih (λx hx=>h x (by simp[hx]))];rfl
  exact this _ (λk hk=>List.mem_range.1 hk)
 rw[frzI];simp only[jN,if_false,zen,e0,need,xM,zY,zjg,qU,if_true,zU];rw[xZ (by rw[zjg];omega),key];rfl
theorem zez{N n:Nat}{rows:List (List Int)}{c:Option Nat}(hN:rows.length=N)(hn:∀i,i<N->(rows.getD i []).length=n)(hf:∀i j,In64 (ent rows i j)):ImV rows (.vec (zbt n rows) N c):=by
 refine⟨⟨zbt n rows,c,by rw[hN],by simp[zbt],λi hi=>⟨some n,?_⟩⟩,hf⟩;have hl:=hn i (by omega);unfold zbt;rw[qZ,xA,qV hi];rw[qZ,qV hi]at hl ⊢;simp only[zQ,xT]at hl ⊢;rw[hl]
theorem quj{x m:Int}(hm:0<m):Int.tmod (Int.tmod x m+m) m=x%m:=by
 have h1:=zN x hm;have h2:=zO x hm;have h3:0<=Int.tmod x m+m:=by omega
 rw[Int.tmod_eq_emod_of_nonneg h3,Int.add_emod_right];have h4:=Int.mul_tdiv_add_tmod x m;have h5:Int.tmod x m=x+m*(-(Int.tdiv x m)):=by rw[Int.mul_neg];omega
 rw[h5,Int.add_mul_emod_self_left]
theorem jch{m:Int}(hm:2<=m/\m<=2147483647):Rt 224 [.int .i64 m] [] (.int .i64 0) []:=by
 have d1:decide (m<2)=false:=dF;have d2:decide (2147483647<m)=false:=dF;refine oF o224 ?_;simp only[c224,r224_0,r224_1,SS,fC,reduceCtorEq,reduceIte,qQ,d1,d2];simp only[r224_3,SS];exact dR
theorem jci{n:Nat}{M:List (List Int)}{a:AV}(h:ImV M a)(hS:Shp n M)(hn:1<=n/\n<=8):Rt 223 [a] [] (.bool true) []:=by
 obtain⟨rows,c,rfl,hl,hr⟩:=h.val;have hlen:=hS.len;obtain⟨c0,he0⟩:=hr 0 (by omega);have hc0:=hS.row 0 (by omega);have d1:decide ((n:Int)<1)=false:=dF;have d2:decide ((16:Int)<(n:Nat))=false:=dF;refine oF o223 ?_;simp only[c223,r223_0,r223_1,SS,fC,reduceCtorEq,reduceIte,qQ,he0,hc0,hl,hlen,xP,d1,d2];refine⟨⟨by omega,by omega⟩,by omega,⟨by omega,by omega⟩,by omega,?_⟩;simp only[r223_3,SS,reduceCtorEq,reduceIte,qQ];refine zaj (λk E H=>∃i,i+k=n/\E 0= .vec rows n c/\E 27= .vec rows n c/\E 28= .int .i64 (n:Nat)/\E 29= .int .i64 (i:Nat)/\H=[]) (n:=n) ⟨0,by omega,by rfl,by rfl,by rfl,by rfl,rfl⟩ ?_;rintro k E H ⟨i,hik,e0,e27,e28,e29,rfl⟩;refine wM ?_;simp only[l223_0,r223_4,SS,reduceCtorEq,reduceIte,e28,e29];refine⟨λhlt=>?_,λhge=>?_⟩
 ·obtain⟨k,rfl⟩:∃k',k=k'+1:=⟨k-1,by omega⟩
  obtain⟨ci,hei⟩:=hr i (by omega);have hci:=hS.row i (by omega);have w5:=wS1 i (by omega);simp only[r223_5,r223_6,SS,fC,reduceCtorEq,reduceIte,qQ,e0,e27,e29,qD,xP,he0,hc0,hei,hci,hl,hlen];refine⟨⟨by omega,by omega⟩,by omega,⟨by omega,by omega⟩,by omega,λhne=>absurd rfl hne,λ_=>?_⟩;simp only[r223_8,SS,reduceIte,qQ,e29,w5];refine⟨k,_,_,by omega,⟨i+1,by omega,?_,?_,?_,?_,rfl⟩,.refl⟩<;>simp only[UU,qQ,reduceIte, *]
 ·simp only[r223_9,SS];exact dR
def modM(n:Nat)(M:List (List Int))(m:Int):List (List Int):=mkM n λi j=>ent M i j%m
theorem quk{n:Nat}{M:List (List Int)}{rows:List AV}{c:Option Nat}(hn:1<=n/\n<=8)(hS:Shp n M)(hf:∀i j,In64 (ent M i j)){m:Int}(hm:2<=m/\m<=2147483647){i:Nat}(hi:i<n){ci:Option Nat}{rs:List (List Int)}(hrl:rs.length=i+1)(hr0:(rs.getD i []).length=n){E:Env}{Q:Post}
  (e0:E 0= .vec rows n c) (e1:E 1= .int .i64 m) (e5:E 5= .sl 0 0 n 1 (some n)) (e6:E 6= .int .i64 (i:Nat)) (e13:E 13= .vec rows n c) (e14:E 14= .int .i64 (n:Nat)) (e15:E 15= .int .i64 (i:Nat)) (e26:E 26= .vec (i64z (M.getD i [])) n ci) (e27:E 27= .int .i64 (n:Nat)) (e28:E 28= .int .i64 0)
  (hQ:∀E' r,r.length=n->(∀j,j<n->r.getD j 0=ent M i j%m)->E' 0= .vec rows n c->E' 1= .int .i64 m->E' 5= .sl 0 0 n 1 (some n)->E' 13= .vec rows n c->E' 14= .int .i64 (n:Nat)->E' 15= .int .i64 (i:Nat)->Q (.exit 2) E' (bH n n (rs.set i r))):
  Wg 0 49 (.loop l225_1) E (bH n n rs) Q:=by
 refine zaj (λk E H=>∃j r,j+k=n/\r.length=n/\(∀t,t<j->r.getD t 0=ent M i t%m)/\H=bH n n (rs.set i r)/\E 0= .vec rows n c/\E 1= .int .i64 m/\E 5= .sl 0 0 n 1 (some n)/\E 6= .int .i64 (i:Nat)/\E 13= .vec rows n c/\E 14= .int .i64 (n:Nat)/\E 15= .int .i64 (i:Nat)/\
  E 26= .vec (i64z (M.getD i [])) n ci/\E 27= .int .i64 (n:Nat)/\E 28= .int .i64 (j:Nat)) (n:=n)
  ⟨0,rs.getD i [],by omega,hr0,λt ht=>absurd ht (by omega),?_,e0,e1,e5,e6,e13,e14,e15,e26,e27,e28⟩ ?_
 ·congr 1;refine xC (by simp) λt h1 h2=>?_
  rw[jC];split
  ·rename_i e;subst e;rw[qZ,qV h1];rfl
  ·rfl
 clear e0 e1 e5 e6 e13 e14 e15 e26 e27 e28 E;rintro k E H ⟨j,r,hjk,hrm,hr,rfl,e0,e1,e5,e6,e13,e14,e15,e26,e27,e28⟩;refine wM ?_;simp only[l225_1,r225_7,SS,reduceIte,e27,e28];refine⟨λhlt=>?_,λhge=>?_⟩
 ·obtain⟨k,rfl⟩:∃k',k=k'+1:=⟨k-1,by omega⟩
  have hj:j<n:=by omega
  have lM:=hS.row i hi;have g1:(i64z (M.getD i [])).getD j .junk= .int .i64 (ent M i j):=zck _ j (by omega) _;have w5:=wS1 j (by omega);have hset:(rs.set i r).length=i+1:=by simp[hrl]
  have gr:=zgq (N:=n) (n:=n) (i:=i) (rows:=rs.set i r) (by omega);have gri:(rs.set i r).getD i []=r:=by rw[qZ,qO (by omega)];rfl
  rw[gri]at gr;have go:getB (bH n n (rs.set i r)) 0=some (outS n n (i+1)):=by rw[zen,hset]
  have gol:=zfl (N:=n) (n:=n) (i:=i+1) (by omega);have gog:=zfm (N:=n) (n:=n) (i:=i+1) (k:=i) (by omega);have h1:=zN (ent M i j) (show 0<m by omega);have h2:=zO (ent M i j) (show 0<m by omega);have h3:=jO (ent M i j) (show m≠0 by omega);have h4:=zP (ent M i j) (show 0<m by omega);have t1:=quj (x:=ent M i j) (show 0<m by omega);have w1:IntKind.i64.wrap (Int.tmod (ent M i j) m)=Int.tmod (ent M i j) m:=w64 (by omega) (by omega);have w2:IntKind.i64.wrap (Int.tmod (ent M i j) m+m)=Int.tmod (ent M i j) m+m:=w64 (by omega) (by omega);have w3:IntKind.i64.wrap (ent M i j%m)=ent M i j%m:=w64 (by omega) (by omega);simp only[r225_8,r225_9,SS,fC,reduceIte,qQ,e1,e5,e6,e26,e28,qD,go,gol,gog,lM,g1,zbe,w2,t1,gr,hrm,zdi];refine⟨⟨by omega,by omega⟩,by omega,⟨by omega,by omega⟩,by omega,by omega,by omega,⟨by omega,by omega⟩,by omega,rfl,?_⟩;simp only[r225_10,SS,reduceIte,qQ,e28,w5,zii];refine⟨k,_,_,by omega,⟨j+1,r.set j (ent M i j%m),by omega,by simp[hrm],λt ht=>?_,?_,?_,?_,?_,?_,?_,?_,?_,?_,?_,?_⟩,.refl⟩
  ·rw[qZ];rcases(by omega:t<j\/t=j)with e | e
   ·rw[xO (by omega),<-qZ];exact hr t e
   ·rw[e,qO (by omega)];rfl
  ·rw[jJ]
  all_goals simp only[UU,qQ,reduceIte, *]
 ·have hjm:j=n:=by omega
  subst hjm;exact hQ _ r hrm hr (by exact e0) (by exact e1) (by exact e5) (by exact e13) (by exact e14) (by exact e15)
theorem qhf{T:List (List Int)}{i:Nat}(hi:i<T.length):T.take i++[T.getD i []]=T.take (i+1):=by
 rw[jK,qZ,qV hi];rfl
theorem jjb{n:Nat}{M:List (List Int)}{a:AV}(h:ImV M a)(hS:Shp n M)(hn:1<=n/\n<=8){m:Int}(hm:2<=m/\m<=2147483647):Rt 225 [a,.int .i64 m] [] (.vec (zbt n (modM n M m)) n (some n)) []:=by
 have hf:=h.fit;obtain⟨rows,c,rfl,hl,hr⟩:=h.val;have hlen:=hS.len;have hTs:Shp n (modM n M m):=zci _ _;rw[hlen];refine oF o225 ?_;simp only[c225,r225_0,r225_1,SS,reduceCtorEq,reduceIte,qQ,qD];refine⟨by decide,⟨by omega,by omega,by omega,by omega⟩,?_⟩;simp only[r225_2,SS,reduceCtorEq,reduceIte,qQ];have hb0:[some (List.replicate n (AV.vec [] 0 (some 0)))]=bH n n []:=rfl;rw[hb0]
 refine zaj (λk E H=>∃i,i+k=n/\H=bH n n ((modM n M m).take i)/\E 0= .vec rows n c/\E 1= .int .i64 m/\E 5= .sl 0 0 n 1 (some n)/\E 13= .vec rows n c/\E 14= .int .i64 (n:Nat)/\E 15= .int .i64 (i:Nat)) (n:=n)
  ⟨0,by omega,rfl,by rfl,by rfl,by rfl,by rfl,by rfl,by rfl⟩ ?_
 rintro k E H ⟨i,hik,rfl,e0,e1,e5,e13,e14,e15⟩;refine wM ?_;simp only[l225_0,r225_3,SS,reduceCtorEq,reduceIte,e14,e15];refine⟨λhlt=>?_,λhge=>?_⟩
 ·obtain⟨k,rfl⟩:∃k',k=k'+1:=⟨k-1,by omega⟩
  have hi:i<n:=by omega
  have hTl:=hTs.len;obtain⟨ci,hei⟩:=hr i (by omega);have hci:=hS.row i hi;have htl:((modM n M m).take i).length=i:=by rw[jD];omega
  have w5:=wS1 i (by omega);have hbl:(bH n n ((modM n M m).take i)).length=i+1:=by rw[qee,htl]
  have go:getB (bH n n ((modM n M m).take i)++[some (i64z (List.replicate n 0))]) 0=some (outS n n i):=by
   have:getB (bH n n ((modM n M m).take i)) 0=some (outS n n i):=by rw[zen,htl]
   exact this
  have gol:=zfl (N:=n) (n:=n) (i:=i) (by omega);have hnew:=qef (N:=n) (n:=n) (rows:=(modM n M m).take i) (List.replicate n 0) (by omega);rw[htl]at hnew;simp only[r225_4,r225_5,SS,fC,reduceIte,qQ,e5,e13,e15,qD,hei,hci,hl,hlen,hbl,zkd,go,gol];refine⟨⟨by omega,by omega⟩,by omega,by decide,⟨by omega,by omega,by omega,by omega⟩,⟨by omega,by omega⟩,by omega,?_⟩;rw[hnew];simp only[r225_6,SS,reduceIte,qQ];refine quk (rows:=rows) (c:=c) hn hS hf hm hi (ci:=ci) (rs:=(modM n M m).take i++[List.replicate n 0]) (by simp;omega) ?_ (by exact e0) (by exact e1) (by exact e5) (by rfl) (by exact e13) (by exact e14) (by exact e15) (by rfl) (by rfl) (by rfl) ?_
  ·rw[qZ,qI (by omega),htl,xI];simp
  intro E' r hrm hr' f0 f1 f5 f13 f14 f15
  have er:r=(modM n M m).getD i []:=by
   have hTi:=hTs.row i hi;refine xC (by omega) λt h1 h2=>?_
   have h3:=hr' t (by omega);have h4:ent (modM n M m) i t=ent M i t%m:=zbl hi (by omega);rw[<-h4]at h3;unfold ent at h3;rw[qZ,qV h1,qZ (l:=(modM n M m).getD i []),qV h2]at h3;exact h3
  have eset:((modM n M m).take i++[List.replicate n 0]).set i r=(modM n M m).take (i+1):=by
   rw[xE _ _ (by omega),htl,xI,er];exact qhf (by omega)
  rw[eset];simp only[r225_11,SS,reduceCtorEq,reduceIte,qQ,f15,w5];refine⟨k,_,_,by omega,⟨i+1,by omega,rfl,?_,?_,?_,?_,?_,?_⟩,.refl⟩
  all_goals simp only[UU,qQ,reduceIte, *]
 ·have hin:i=n:=by omega
  have htl:(modM n M m).take i=modM n M m:=xZ (by rw[hTs.len];omega);rw[htl];simp only[r225_12,SS,reduceIte,qQ,e5];refine⟨.inl trivial,_,rfl,.freeze 3 _ _ _ ?_ (by intro i cs h;omega)⟩;exact qnl hTs.len hTs.row
theorem qhg{n:Nat}{M:List (List Int)}{a:AV}(h:ImV M a)(hS:Shp n M)(hn:1<=n/\n<=8){m:Int}(hm:2<=m/\m<=2147483647):Rt 207 [a,.int .i64 m] [] (.tup [.vec (zbt n (modM n M m)) n (some n),.int .i64 0]) []:=by
 have t1:=jci h hS hn;have t2:=jch hm;have t3:=jjb h hS hn hm;have hc:AV.closed (.vec (zbt n (modM n M m)) n (some n))=true:=rfl;obtain⟨rows,c,rfl,hl,hr⟩:=h.val;refine oF o207 ?_;simp only[c207,r207_0,r207_1,SS,reduceCtorEq,reduceIte];refine zaa t1 ?_;simp only[SS,fC,reduceIte,qQ];simp only[r207_3,SS,reduceIte,qQ];refine zaa t2 ?_;simp only[SS,reduceIte,qQ];simp only[r207_4,SS,reduceIte,qQ];refine⟨λhne=>absurd rfl hne,λ_=>?_⟩;simp only[r207_6,SS,reduceCtorEq,reduceIte,qQ];refine zaa t3 ?_;simp only[SS,reduceIte,qQ];exact dR
end Go.Proofs.YtgfbaioffpcelaaGreatDoor
namespace Go.Count
section
variable(g:List (List Nat))(n M:Nat)
def addR(row:List Nat):Nat->Nat->List Nat->List Nat
 |0,_,l=>l
 |k+1,j,l=>addR row k (j+1) (l.set j ((l.getD j 0+row.getD j 0)%M))
def bump:Nat->Nat->Nat->List Nat->List Nat->Option (Nat×List Nat×List Nat)
 |0,_,_,_,_=>none
 |k+1,i,norm,inner,x=>
  if x.getD i 0+1<M then some ((norm+2*inner.getD i 0+(g.getD i []).getD i 0)%M,addR M (g.getD i []) n 0 inner,x.set i (x.getD i 0+1))
  else bump k (i+1) ((norm+2*inner.getD i 0+(g.getD i []).getD i 0)%M) (addR M (g.getD i []) n 0 inner) ((x.set i (x.getD i 0+1)).set i 0)
def runC:Nat->List Nat->Nat->List Nat->List Nat->Option (List Nat)
 |0,_,_,_,_=>none
 |f+1,cts,norm,inner,x=>match bump g n M n 0 norm inner x with
  |none=>some (cts.set norm (cts.getD norm 0+1))
  |some (norm',inner',x')=>runC f (cts.set norm (cts.getD norm 0+1)) norm' inner' x'
end
def ent(g:List (List Nat))(i j:Nat):Nat:=(g.getD i []).getD j 0
def sumN(f:Nat->Nat):Nat->Nat
 |0=>0
 |n+1=>sumN f n+f n
def gx(g:List (List Nat))(n:Nat)(x:List Nat)(j:Nat):Nat:=sumN (λi=>ent g i j*x.getD i 0) n
def nrm(g:List (List Nat))(n:Nat)(x:List Nat):Nat:=sumN (λj=>gx g n x j*x.getD j 0) n
theorem zhh{f h:Nat->Nat}{n:Nat}(e:∀i,i<n->f i=h i):sumN f n=sumN h n:=by
 induction n with
 |zero=>rfl
 |succ n ih=>simp only[sumN];rw[ih (λi hi=>e i (by omega)),e n (by omega)]
theorem zme(f h:Nat->Nat)(n:Nat):sumN (λi=>f i+h i) n=sumN f n+sumN h n:=by
 induction n with
 |zero=>rfl
 |succ n ih=>simp only[sumN,ih];omega
theorem zjh{f:Nat->Nat}{n:Nat}(e:∀i,i<n->f i=0):sumN f n=0:=by
 induction n with
 |zero=>rfl
 |succ n ih=>simp only[sumN];rw[ih (λi hi=>e i (by omega)),e n (by omega)]
theorem zvu{f:Nat->Nat}{n i:Nat}(hi:i<n)(e:∀j,j<n->j≠i->f j=0):sumN f n=f i:=by
 induction n with
 |zero=>omega
 |succ n ih=>
  simp only[sumN];by_cases h:i=n
  ·subst h;rw[zjh (λj hj=>e j (by omega) (by omega)),xM]
  ·rw[ih (by omega) (λj hj hne=>e j (by omega) hne),e n (by omega) (by omega),yP]
theorem qeg{f h:Nat->Nat}{n M:Nat}(e:∀i,i<n->f i%M=h i%M):sumN f n%M=sumN h n%M:=by
 induction n with
 |zero=>rfl
 |succ n ih=>
  simp only[sumN];rw[yH,ih (λi hi=>e i (by omega)),e n (by omega),<-yH]
theorem zmf{x:List Nat}{i j a:Nat}(hi:i<x.length):(x.set i a).getD j 0=if j=i then a else x.getD j 0:=by
 rw[qZ];by_cases h:j=i
 ·subst h;rw[qO hi,if_pos rfl];rfl
 ·rw[xO (λe=>h e.symm),if_neg h,qZ]
theorem qnm{g:List (List Nat)}{n i j:Nat}{x:List Nat}(hx:x.length=n)(hi:i<n):gx g n (x.set i (x.getD i 0+1)) j=gx g n x j+ent g i j:=by
 unfold gx
 have e:sumN (λk=>ent g k j*(x.set i (x.getD i 0+1)).getD k 0) n=sumN (λk=>ent g k j*x.getD k 0+(if k=i then ent g i j else 0)) n:=by
  refine zhh λk _=>?_
  rw[zmf (by omega)];split
  ·rename_i h;subst h;rw[Nat.mul_add,zY]
  ·rw[yP]
 rw[e,zme,zvu hi (f:=λk=>if k=i then ent g i j else 0) (λk _ hne=>if_neg hne),if_pos rfl]
theorem qul{g:List (List Nat)}{n i:Nat}{x:List Nat}(hx:x.length=n)(hi:i<n)(hs:∀j k,j<n->k<n->ent g j k=ent g k j):
  nrm g n (x.set i (x.getD i 0+1))=nrm g n x+2*gx g n x i+ent g i i:=by
 unfold nrm
 have e:sumN (λj=>gx g n (x.set i (x.getD i 0+1)) j*(x.set i (x.getD i 0+1)).getD j 0) n=sumN (λj=>gx g n x j*x.getD j 0+(ent g j i*x.getD j 0+(if j=i then gx g n x i+ent g i i else 0))) n:=by
  refine zhh λj hj=>?_
  rw[qnm hx hi,zmf (by omega),hs j i hj hi];split
  ·rename_i h;subst h;simp only[Nat.add_mul,Nat.mul_add,zY];omega
  ·simp only[Nat.add_mul,yP]
 rw[e,zme,zme,zvu hi (f:=λj=>if j=i then gx g n x i+ent g i i else 0) (λk _ hne=>if_neg hne),if_pos rfl];have:sumN (λj=>ent g j i*x.getD j 0) n=gx g n x i:=rfl;omega
theorem qxg{g:List (List Nat)}{n j M:Nat}{x y:List Nat}(h:∀i,i<n->x.getD i 0%M=y.getD i 0%M):gx g n x j%M=gx g n y j%M:=
 qeg λi hi=>by rw[yI,h i hi,<-yI]
theorem jcj{g:List (List Nat)}{n M:Nat}{x y:List Nat}(h:∀i,i<n->x.getD i 0%M=y.getD i 0%M):nrm g n x%M=nrm g n y%M:=
 qeg λi hi=>by rw[yI,qxg h,h i hi,<-yI]
theorem qum(M:Nat)(row:List Nat):∀(k j:Nat) (l:List Nat),(addR M row k j l).length=l.length:=by
 intro k
 induction k with
 |zero=>intro j l;rfl
 |succ k ih=>intro j l;simp only[addR];rw[ih];simp
theorem qun{M:Nat}(row:List Nat):∀(k j:Nat) (l:List Nat),j+k<=l.length->∀i,(addR M row k j l).getD i 0=if j<=i/\i<j+k then(l.getD i 0+row.getD i 0)%M else l.getD i 0:=by
 intro k
 induction k with
 |zero=>intro j l _ i;simp only[addR];rw[if_neg (by omega)]
 |succ k ih=>
  intro j l h i;simp only[addR];rw[ih _ _ (by simp;omega),zmf (by omega)];by_cases h1:i=j
  ·subst h1;rw[if_neg (by omega),if_pos rfl,if_pos (by omega)]
  ·rw[if_neg h1];by_cases h2:j+1<=i/\i<j+1+k
   ·rw[if_pos h2,if_pos (by omega)]
   ·rw[if_neg h2,if_neg (by omega)]
structure At(g:List (List Nat))(n M:Nat)(norm:Nat)(inner x:List Nat):Prop where
 xlen:x.length=n
 ilen:inner.length=n
 norm:norm=nrm g n x%M
 inner:∀j,j<n->inner.getD j 0=gx g n x j%M
theorem jck{g:List (List Nat)}{n M norm:Nat}{inner x:List Nat}{i:Nat}(h:At g n M norm inner x)(hi:i<n)(hs:∀j k,j<n->k<n->ent g j k=ent g k j):
  At g n M ((norm+2*inner.getD i 0+(g.getD i []).getD i 0)%M) (addR M (g.getD i []) n 0 inner) (x.set i (x.getD i 0+1)):=by
 refine⟨by simp[h.xlen],by rw[qum,h.ilen],?_,λj hj=>?_⟩
 ·rw[qul h.xlen hi hs,h.norm,h.inner i hi];show(nrm g n x%M+2*(gx g n x i%M)+ent g i i)%M=_
  simp only[yH,yI,Nat.mod_mod]
 ·rw[qun _ _ _ _ (by rw[h.ilen];omega),if_pos (by omega),h.inner j hj,qnm h.xlen hi];show(gx g n x j%M+ent g i j)%M=_
  rw[yH,Nat.mod_mod,<-yH]
theorem jcl{g:List (List Nat)}{n M norm:Nat}{inner x:List Nat}{i:Nat}(h:At g n M norm inner x)(hi:i<n)(hM:x.getD i 0%M=0):At g n M norm inner (x.set i 0):=by
 have e:∀k,k<n->(x.set i 0).getD k 0%M=x.getD k 0%M:=by
  intro k hk;rw[zmf (by rw[h.xlen];exact hi)];split
  ·rename_i e;subst e;rw[hM,jW]
  ·rfl
 exact⟨by simp[h.xlen],h.ilen,by rw[jcj e];exact h.norm,λj hj=>by rw[qxg e];exact h.inner j hj⟩
def inc(M:Nat):List Nat->Option (List Nat)
 | []=>none
 |a::r=>if a+1<M then some ((a+1)::r)else(inc M r).map (0:: ·)
theorem qnn{g:List (List Nat)}{n M:Nat}(hM:0<M)(hs:∀j k,j<n->k<n->ent g j k=ent g k j):∀(r:List Nat) (i norm:Nat) (inner:List Nat),i+r.length=n->(∀a∈r,a<M)->At g n M norm inner (List.replicate i 0++r)->
  match inc M r with
  |none=>bump g n M r.length i norm inner (List.replicate i 0++r)=none
  |some r'=>∃norm' inner',bump g n M r.length i norm inner (List.replicate i 0++r)=some (norm',inner',List.replicate i 0++r')/\At g n M norm' inner' (List.replicate i 0++r'):=by
 intro r
 induction r with
 |nil=>intro i norm inner _ _ _;rfl
 |cons a r ih=>
  intro i norm inner hl ha h;have hi:i<n:=by simp at hl;omega
  have hst:=jck h hi hs
  have hg:(List.replicate i 0++a::r).getD i 0=a:=by
   rw[qZ,qI (by simp)];simp
  have hset:∀b:Nat,(List.replicate i 0++a::r).set i b=List.replicate i 0++b::r:=by
   intro b;rw[xE _ _ (by simp)];simp
  rw[hg,hset]at hst;simp only[inc,jE,bump,hg,hset];by_cases hlt:a+1<M
  ·simp only[if_pos hlt];exact⟨_,_,rfl,hst⟩
  ·simp only[if_neg hlt];have haM:a+1=M:=by have:=ha a (by simp);omega
   have hset2:(List.replicate i 0++(a+1)::r).set i 0=List.replicate (i+1) 0++r:=by
    rw[xE _ _ (by simp),zA,jV];simp
   have hg2:(List.replicate i 0++(a+1)::r).getD i 0=a+1:=by
    rw[qZ,qI (by simp)];simp
   have hw:=jcl hst hi (by rw[hg2,haM,Nat.mod_self]);rw[hset2]at hw ⊢;have:=ih (i+1) _ _ (by simp at hl;omega) (λb hb=>ha b (by simp[hb])) hw;cases hinc:inc M r with
   |none=>rw[hinc]at this;exact this
   |some r'=>
    rw[hinc]at this;obtain⟨norm',inner',h1,h2⟩:=this;have e:List.replicate (i+1) 0++r'=List.replicate i 0++0::r':=by rw[zA,jV];rfl
    rw[e]at h1 h2;exact⟨norm',inner',h1,h2⟩
def allV(M:Nat):Nat->List (List Nat)
 |0=>[[]]
 |n+1=>(allV M n).flatMap λr=>(List.range M).map λa=>a::r
inductive Chain(M:Nat):List Nat->List (List Nat)->Prop
 |last {x:List Nat}:inc M x=none->Chain M x [x]
 |next {x y:List Nat} {l:List (List Nat)}:inc M x=some y->Chain M y l->Chain M x (x::l)
theorem qhh{M:Nat}{r:List Nat}{l:List (List Nat)}(h:Chain M r l):∀(k a:Nat),a+k+1=M->Chain M (a::r) (((List.range' a (k+1)).map λb=>b::r)++l.tail.flatMap λs=>(List.range M).map λb=>b::s):=by
 induction h with
 |last hn=>
  rename_i x;intro k
  induction k with
  |zero=>
   intro a ha;refine .last ?_;simp only[inc];rw[if_neg (by omega),hn];rfl
  |succ k ih=>
   intro a ha;rw[jG];refine .next (y:=(a+1)::x) ?_ (ih (a+1) (by omega));simp only[inc];rw[if_pos (by omega)]
 |next hn hc ih0=>
  rename_i x y l;intro k
  induction k with
  |zero=>
   intro a ha;have:=ih0 (M-1) 0 (by omega);refine .next (y:=0::y) ?_ ?_
   ·simp only[inc];rw[if_neg (by omega),hn];rfl
   ·have e:(List.range' 0 (M-1+1)).map (λb=>b::y)=(List.range M).map λb=>b::y:=by
     rw[zB,show M-1+1=M by omega]
    rw[e]at this;cases hc with
    |last h1=>simpa using this
    |next h1 h2=>simpa using this
  |succ k ih=>
   intro a ha;rw[jG];refine .next (y:=(a+1)::x) ?_ (ih (a+1) (by omega));simp only[inc];rw[if_pos (by omega)]
theorem qhi{M:Nat}{x:List Nat}{l:List (List Nat)}(h:Chain M x l):l=x::l.tail:=by
 cases h<;>rfl
theorem qno{M:Nat}(hM:0<M):∀n,Chain M (List.replicate n 0) (allV M n):=by
 intro n
 induction n with
 |zero=>exact .last rfl
 |succ n ih=>
  have:=qhh ih (M-1) 0 (by omega);have h2:=qhi ih
  have e:allV M (n+1)=((List.range' 0 (M-1+1)).map λb=>b::List.replicate n 0)++(allV M n).tail.flatMap λs=>(List.range M).map λb=>b::s:=by
   show(allV M n).flatMap _=_
   rw[h2,yL,show M-1+1=M by omega,<-zB];rw[<-h2]
  rw[e];exact this
def zrt(c:List Nat)(s:Nat):List Nat:=c.set s (c.getD s 0+1)
theorem qnp{g:List (List Nat)}{n M:Nat}(hM:0<M)(hs:∀j k,j<n->k<n->ent g j k=ent g k j){x:List Nat}{l:List (List Nat)}(h:Chain M x l):
  ∀{f norm:Nat} {inner cts:List Nat},l.length<=f->(∀a∈x,a<M)->At g n M norm inner x->runC g n M f cts norm inner x=some (l.foldl (λc y=>zrt c (nrm g n y%M)) cts):=by
 induction h with
 |last hn=>
  rename_i x;intro f norm inner cts hf hx ha;obtain⟨f,rfl⟩:∃k,f=k+1:=⟨f-1,by simp at hf;omega⟩
  have:=qnn hM hs x 0 norm inner (by rw[xM];exact ha.xlen) hx (by simpa using ha);rw[hn]at this;simp only[qY,jP,ha.xlen]at this;simp only[runC,this,zX,List.foldl_nil,zrt];rw[<-ha.norm]
 |next hn hc ih=>
  rename_i x y l;intro f norm inner cts hf hx ha;obtain⟨f,rfl⟩:∃k,f=k+1:=⟨f-1,by simp at hf;omega⟩
  have:=qnn hM hs x 0 norm inner (by rw[xM];exact ha.xlen) hx (by simpa using ha);rw[hn]at this;simp only[qY,jP,ha.xlen]at this;obtain⟨norm',inner',h1,h2⟩:=this
  have hy:∀a∈y,a<M:=by
   have key:∀(r r':List Nat),(∀a∈r,a<M)->inc M r=some r'->∀a∈r',a<M:=by
    intro r
    induction r with
    |nil=>intro r' _ h;simp[inc]at h
    |cons b r ihr=>
     intro r' hr h;simp only[inc]at h;split at h
     ·simp only[qP]at h;subst h;intro a ha;rcases List.mem_cons.1 ha with e | e
      ·omega
      ·exact hr a (by simp[e])
     ·cases hi:inc M r with
      |none=>rw[hi]at h;simp at h
      |some s=>
       rw[hi]at h;simp only[zQ,qP]at h;subst h;intro a ha;rcases List.mem_cons.1 ha with e | e
       ·omega
       ·exact ihr s (λc hc=>hr c (by simp[hc])) hi a e
   exact key _ _ hx hn
  have hr:=ih (f:=f) (cts:=zrt cts (nrm g n x%M)) (by simp at hf;omega) hy h2;simp only[runC,h1,zX,<-ha.norm]at hr ⊢;rw[<-hr];rfl
theorem qnq(c:List Nat)(s:Nat):(zrt c s).length=c.length:=by simp[zrt]
theorem qnr{c:List Nat}{s t:Nat}(hs:s<c.length):(zrt c s).getD t 0=c.getD t 0+if t=s then 1 else 0:=by
 unfold zrt;rw[zmf hs];split
 ·rename_i h;subst h;rfl
 ·rfl
theorem qbm(f:List Nat->Nat)(M:Nat):∀(l:List (List Nat)) (c:List Nat),c.length=M->(∀y∈l,f y<M)->(l.foldl (λc y=>zrt c (f y)) c).length=M/\∀t,(l.foldl (λc y=>zrt c (f y)) c).getD t 0=c.getD t 0+l.countP λy=>decide (f y=t):=by
 intro l
 induction l with
 |nil=>intro c hc _;exact⟨hc,λt=>by simp⟩
 |cons y l ih=>
  intro c hc hf;obtain⟨h1,h2⟩:=ih (zrt c (f y)) ((qnq _ _).trans hc) (λz hz=>hf z (by simp[hz]));refine⟨h1,λt=>?_⟩;rw[zX,h2,qnr (by rw[hc];exact hf y (by simp)),yN];by_cases h:t=f y
  ·rw[if_pos h,decide_eq_true h.symm];simp;omega
  ·rw[if_neg h,decide_eq_false (λe=>h e.symm)];simp
theorem allV_len(M:Nat):∀n,(allV M n).length=M^n:=by
 intro n
 induction n with
 |zero=>rfl
 |succ n ih=>
  have:∀l:List (List Nat),(l.flatMap λr=>(List.range M).map λa=>a::r).length=l.length*M:=by
   intro l
   induction l with
   |nil=>simp
   |cons x l ihl=>rw[yL,yD,ihl,jE,Nat.succ_mul];simp;omega
  show(List.flatMap _ _).length=_
  rw[this,ih,xS]
theorem jcm{g:List (List Nat)}{n M:Nat}:At g n M 0 (List.replicate n 0) (List.replicate n 0):=by
 have hz:∀k,(List.replicate n 0).getD k 0=0:=by
  intro k;rw[qZ,yO];split<;>rfl
 have e:∀j,gx g n (List.replicate n 0) j=0:=λj=>zjh λi _=>by rw[hz,Nat.mul_zero]
 refine⟨by simp,by simp,?_,λj _=>by rw[hz,e,jW]⟩;unfold nrm;rw[zjh λi _=>by rw[hz,Nat.mul_zero],jW]
theorem runC_ok{g:List (List Nat)}{n M:Nat}(hM:0<M)(hs:∀j k,j<n->k<n->ent g j k=ent g k j):∃fin,runC g n M (M^n) (List.replicate M 0) 0 (List.replicate n 0) (List.replicate n 0)=some fin/\fin.length=M/\
  ∀t,fin.getD t 0=(allV M n).countP λy=>decide (nrm g n y%M=t):=by
 have h:=qnp hM hs (qno hM n) (f:=M^n) (cts:=List.replicate M 0) (by rw[allV_len];exact qU _) (λa ha=>by rw[zR]at ha;omega) jcm;obtain⟨h1,h2⟩:=qbm (λy=>nrm g n y%M) M (allV M n) (List.replicate M 0) (by simp) (λy _=>yT _ hM);refine⟨_,h,h1,λt=>?_⟩;rw[h2]
 have:(List.replicate M 0).getD t 0=0:=by
  rw[qZ,yO];split<;>rfl
 omega
theorem zqx(P:List Nat->Bool)(M:Nat):∀l:List (List Nat),(l.flatMap λr=>(List.range M).map λa=>a::r).countP P=sumN (λa=>l.countP λr=>P (a::r)) M:=by
 intro l
 induction l with
 |nil=>simp only[List.flatMap_nil,jR];exact(zjh λ_ _=>rfl).symm
 |cons x l ih=>
  rw[yL,zS,ih]
  have e:((List.range M).map λa=>a::x).countP P=sumN (λa=>if P (a::x)then 1 else 0) M:=by
   clear ih
   induction M with
   |zero=>rfl
   |succ M ihM=>
    rw[jM,List.map_append,zS,ihM];simp only[sumN,List.map_cons,List.map_nil,yN,jR,xM]
  rw[e,<-zme];refine zhh λa _=>?_
  rw[yN];omega
end Go.Count
namespace Go.Proofs.YtgfbaioffpcelaaGreatDoor
open Go Go.AL Go.Proofs Go.Count
def ints(l:List Nat):List AV:=l.map λ(n:Nat)=>AV.int .i64 (n:Int)
theorem zhz(l:List Nat):(ints l).length=l.length:=by simp[ints]
theorem qup(l:List Nat)(i:Nat)(h:i<l.length):(ints l)[i]?=some (.int .i64 ((l.getD i 0:Nat):Int)):=by
 simp[ints,h]
theorem zfs(l:List Nat)(i:Nat)(h:i<l.length)(d:AV):(ints l).getD i d= .int .i64 ((l.getD i 0:Nat):Int):=by
 rw[qZ,qup l i h];rfl
theorem zvv(l:List Nat)(i a:Nat):(ints l).set i (.int .i64 (a:Int))=ints (l.set i a):=by
 simp[ints,jZ]
theorem zvw{a:Nat}(h:a<2^63):IntKind.i64.wrap ((a:Nat):Int)=(a:Int):=by
 simp[IntKind.wrap,IntKind.bits,IntKind.signed];omega
theorem jjc{nt n M:Nat}(hM:0<M)(hM2:M<2^40)(hn:n<2^20){row:List Nat}{cr:Option Nat}(hrl:row.length=n)(hrow:∀a∈row,a<M)(cts xs:List AV)(fin:List Nat)(E0:Env):
  ∀{E:Env} {H:Heap} {Q:Post} (inner:List Nat),inner.length=n->(∀a∈inner,a<M)->addR M row n 0 inner=fin->
   (∀t,t∉[58,59,60,61,62,13,14,63,64,65,66,67,68,69,70,71,72,73,74]->E t=E0 t)->E 58= .int .i64 0->E0 57= .int .i64 n->E0 56= .vec (ints row) n cr->E0 9= .sl 2 0 n 1 (some n)->E0 1= .int .i64 M->
   H=[some cts,some xs,some (ints inner)]->
   (∀E',(∀t,t∉[58,59,60,61,62,13,14,63,64,65,66,67,68,69,70,71,72,73,74]->E' t=E0 t)->Q (.exit 2) E' [some cts,some xs,some (ints fin)])->
   Wg 0 nt (.loop l151_1) E H Q:=by
 intro E H Q inner hil hin hfin hE h58 h57 h56 h9 h1 hH hQ
 refine zaj (λk E H=>∃j inner,j+k=n/\inner.length=n/\(∀a∈inner,a<M)/\addR M row k j inner=fin/\
  (∀t,t∉[58,59,60,61,62,13,14,63,64,65,66,67,68,69,70,71,72,73,74]->E t=E0 t)/\E 58= .int .i64 (j:Int)/\H=[some cts,some xs,some (ints inner)]) ⟨0,inner,by omega,hil,hin,hfin,hE,h58,hH⟩ ?_
 rintro k E H ⟨j,inner,hjk,hil,hin,hfin,hE,h58,rfl⟩;refine wM ?_;have e57:E 57= .int .i64 n:=(hE 57 (by decide)).trans h57;have e56:E 56= .vec (ints row) n cr:=(hE 56 (by decide)).trans h56;have e9:E 9= .sl 2 0 n 1 (some n):=(hE 9 (by decide)).trans h9;have e1:E 1= .int .i64 M:=(hE 1 (by decide)).trans h1;simp only[l151_1,r151_12,SS,reduceIte,h58,e57]
 have hup:∀(E':Env) (d:Nat) (v:AV),d∈[58,59,60,61,62,13,14,63,64,65,66,67,68,69,70,71,72,73,74]->(∀t,t∉[58,59,60,61,62,13,14,63,64,65,66,67,68,69,70,71,72,73,74]->E' t=E0 t)->
   ∀t,t∉[58,59,60,61,62,13,14,63,64,65,66,67,68,69,70,71,72,73,74]->upd E' d v t=E0 t:=by
  intro E' d v hd h t ht;unfold upd;rw[if_neg (λe:t=d=>ht (by rw[e];exact hd))];exact h t ht
 refine⟨λhlt=>?_,λhnl=>?_⟩
 ·have hj:j<n:=by omega
  have hij:inner.getD j 0<M:=by
   rw[qZ,qV (by omega)];exact hin _ (yK _)
  have hrj:row.getD j 0<M:=by
   rw[qZ,qV (by omega)];exact hrow _ (yK _)
  have gi:=zfs inner j (by omega) AV.junk;have gr:=zfs row j (by omega) AV.junk
  have w1:IntKind.i64.wrap (((inner.getD j 0:Nat):Int)+((row.getD j 0:Nat):Int))=((inner.getD j 0+row.getD j 0:Nat):Int):=by
   rw[<-zZ];exact zvw (by omega)
  have w2:IntKind.i64.wrap ((j:Int)+1)=((j+1:Nat):Int):=by
   have:((j:Int)+1)=((j+1:Nat):Int):=by omega
   rw[this];exact zvw (by omega)
  have w3:Int.tmod ((inner.getD j 0+row.getD j 0:Nat):Int) (M:Int)=(((inner.getD j 0+row.getD j 0)%M:Nat):Int):=rfl;simp only[r151_13,r151_14,r151_15,SS,fC,reduceIte,qQ,h58,e56,e9,e1,qD,gi,gr,zhz,w1,w2,w3,zvv];refine⟨⟨by omega,hlt⟩,by omega,⟨by omega,hlt⟩,by omega,by omega,⟨by omega,hlt⟩,by omega,?_⟩;obtain⟨k',rfl⟩:∃k',k=k'+1:=⟨k-1,by omega⟩
  refine⟨k',_,_,by omega,⟨j+1,inner.set j ((inner.getD j 0+row.getD j 0)%M),by omega,by simp[hil],?_,hfin,?_,rfl,rfl⟩,.refl⟩
  ·intro a ha;rcases yE ha with h | h
   ·exact hin a h
   ·subst h;exact yT _ hM
  ·repeat (refine hup _ _ _ (by decide) ?_)
   exact hE
 ·have hj:j=n:=by omega
  have hk:k=0:=by omega
  subst hk;have:inner=fin:=hfin;subst this;exact hQ _ (hup _ _ _ (by decide) hE)
structure PE(n M:Nat)(rows:List AV)(cg:Option Nat)(v5 v7:AV)(E:Env):Prop where
 e1:E 1= .int .i64 M
 e5:E 5=v5
 e7:E 7=v7
 e8:E 8= .sl 1 0 n 1 (some n)
 e9:E 9= .sl 2 0 n 1 (some n)
 e35:E 35= .vec rows n cg
 e36:E 36= .int .i64 n
theorem zvx{l:List Nat}{M i:Nat}(h:∀a∈l,a<M)(hi:i<l.length):l.getD i 0<M:=by
 rw[qZ,qV hi];exact h _ (yK _)
theorem qeh{l:List Nat}{M i b:Nat}(h:∀a∈l,a<M)(hb:b<M):∀a∈l.set i b,a<M:=by
 intro a ha;rcases yE ha with h' | h'
 ·exact h a h'
 ·subst h';exact hb
theorem jcn{M:Nat}(hM:0<M)(row:List Nat):∀(k j:Nat) (l:List Nat),(∀a∈l,a<M)->(addR M row k j l).length=l.length/\∀a∈addR M row k j l,a<M:=by
 intro k
 induction k with
 |zero=>intro j l h;exact⟨rfl,h⟩
 |succ k ih=>
  intro j l h;obtain⟨h1,h2⟩:=ih (j+1) (l.set j ((l.getD j 0+row.getD j 0)%M)) (qeh h (yT _ hM));exact⟨h1.trans (by simp),h2⟩
theorem jjd{nt n M:Nat}(hM:0<M)(hM2:M<2^40)(hn:n<2^20){g:List (List Nat)}{rows:List AV}{cg:Option Nat}(hrl:rows.length=n)(hrows:∀i,i<n->∃c,rows[i]?=some (.vec (ints (g.getD i [])) n c))
  (hgl:∀i,i<n->(g.getD i []).length=n) (hgM:∀i,i<n->∀a∈g.getD i [],a<M) (v5 v7:AV) (cts:List AV) (res:Option (Nat×List Nat×List Nat))
  {E:Env} {H:Heap} {Q:Post} (norm:Nat) (inner x:List Nat) (hno:norm<M) (hil:inner.length=n) (hin:∀a∈inner,a<M) (hxl:x.length=n) (hx:∀a∈x,a<M) (hres:bump g n M n 0 norm inner x=res)
  (hE:PE n M rows cg v5 v7 E) (h37:E 37= .int .i64 0) (h10:E 10= .int .i64 norm) (hH:H=[some cts,some (ints x),some (ints inner)])
  (hQ1:res=none->∀E' a b,PE n M rows cg v5 v7 E'->Q (.exit 0) E' [some cts,some a,some b])
  (hQ2:∀norm' inner' x',res=some (norm',inner',x')->norm'<M->inner'.length=n->(∀a∈inner',a<M)->x'.length=n->(∀a∈x',a<M)->∀E',PE n M rows cg v5 v7 E'->E' 10= .int .i64 (norm':Int)->
   Q (.goto 0) E' [some cts,some (ints x'),some (ints inner')]):
  Wg 0 nt (.loop l151_0) E H Q:=by
 refine zaj (λk E H=>∃i norm inner x,i+k=n/\norm<M/\inner.length=n/\(∀a∈inner,a<M)/\x.length=n/\(∀a∈x,a<M)/\bump g n M k i norm inner x=res/\PE n M rows cg v5 v7 E/\
  E 37= .int .i64 (i:Int)/\E 10= .int .i64 (norm:Int)/\H=[some cts,some (ints x),some (ints inner)]) ⟨0,norm,inner,x,by omega,hno,hil,hin,hxl,hx,hres,hE,h37,h10,hH⟩ ?_
 rintro k E H ⟨i,norm,inner,x,hik,hno,hil,hin,hxl,hx,hres,hE,h37,h10,rfl⟩;refine wM ?_;obtain⟨e1,e5,e7,e8,e9,e35,e36⟩:=hE;simp only[l151_0,r151_8,SS,reduceIte,h37,e36];refine⟨λhlt=>?_,λhnl=>?_⟩
 ·have hi:i<n:=by omega
  obtain⟨k',rfl⟩:∃k',k=k'+1:=⟨k-1,by omega⟩
  obtain⟨cr,hr⟩:=hrows i hi;have hrD:rows.getD i AV.junk= .vec (ints (g.getD i [])) n cr:=by rw[qZ,hr];rfl
  have gi:=zfs inner i (by omega) AV.junk;have gr:=zfs (g.getD i []) i (by rw[hgl i hi];exact hi) AV.junk;have bi:=zvx hin (i:=i) (by omega);have br:=zvx (hgM i hi) (i:=i) (by rw[hgl i hi];exact hi)
  have w1:IntKind.i64.wrap (2*((inner.getD i 0:Nat):Int))=((2*inner.getD i 0:Nat):Int):=by
   have:(2*((inner.getD i 0:Nat):Int))=((2*inner.getD i 0:Nat):Int):=by omega
   rw[this];exact zvw (by omega)
  have w2:IntKind.i64.wrap ((norm:Int)+((2*inner.getD i 0:Nat):Int))=((norm+2*inner.getD i 0:Nat):Int):=by
   rw[<-zZ];exact zvw (by omega)
  have w3:IntKind.i64.wrap (((norm+2*inner.getD i 0:Nat):Int)+(((g.getD i []).getD i 0:Nat):Int))=((norm+2*inner.getD i 0+(g.getD i []).getD i 0:Nat):Int):=by
   rw[<-zZ];exact zvw (by omega)
  have w4:Int.tmod ((norm+2*inner.getD i 0+(g.getD i []).getD i 0:Nat):Int) (M:Int)=(((norm+2*inner.getD i 0+(g.getD i []).getD i 0)%M:Nat):Int):=rfl;simp only[r151_9,r151_10,r151_11,SS,fC,reduceIte,qQ,h37,h10,e1,e9,e35,qD,hrD,gi,gr,zhz,hrl,hil,hgl i hi,w1,w2,w3,w4];refine⟨⟨by omega,hlt⟩,by omega,⟨by omega,hlt⟩,by omega,⟨by omega,hlt⟩,by omega,by omega,rfl,?_⟩;refine jjc hM hM2 hn (hgl i hi) (hgM i hi) cts (ints x) (addR M (g.getD i []) n 0 inner) _ inner hil hin rfl (λ_ _=>rfl) rfl rfl rfl e9 e1 rfl ?_;intro E' hE';have f1:E' 1= .int .i64 M:=(hE' 1 (by decide)).trans e1;have f5:E' 5=v5:=(hE' 5 (by decide)).trans e5;have f7:E' 7=v7:=(hE' 7 (by decide)).trans e7;have f8:E' 8= .sl 1 0 n 1 (some n):=(hE' 8 (by decide)).trans e8;have f9:E' 9= .sl 2 0 n 1 (some n):=(hE' 9 (by decide)).trans e9;have f35:E' 35= .vec rows n cg:=(hE' 35 (by decide)).trans e35;have f36:E' 36= .int .i64 n:=(hE' 36 (by decide)).trans e36;have f37:E' 37= .int .i64 (i:Int):=(hE' 37 (by decide)).trans h37;have f10:E' 10= .int .i64 (((norm+2*inner.getD i 0+(g.getD i []).getD i 0)%M:Nat):Int):=(hE' 10 (by decide)).trans rfl;have f11:E' 11= .int .i64 (i:Int):=(hE' 11 (by decide)).trans rfl;clear hE';have gx:=zfs x i (by omega) AV.junk;have bx:=zvx hx (i:=i) (by omega);have gx2:=zfs (x.set i (x.getD i 0+1)) i (by simp;omega) AV.junk
  have hx2:(x.set i (x.getD i 0+1)).getD i 0=x.getD i 0+1:=by
   rw[qZ,qO (by omega)];rfl
  rw[hx2]at gx2
  have w5:IntKind.i64.wrap (((x.getD i 0:Nat):Int)+1)=((x.getD i 0+1:Nat):Int):=by
   have:(((x.getD i 0:Nat):Int)+1)=((x.getD i 0+1:Nat):Int):=by omega
   rw[this];exact zvw (by omega)
  have w6:IntKind.i64.wrap ((i:Int)+1)=((i+1:Nat):Int):=by
   have:((i:Int)+1)=((i+1:Nat):Int):=by omega
   rw[this];exact zvw (by omega)
  have z0:AV.int .i64 0=AV.int .i64 ((0:Nat):Int):=rfl;obtain⟨ral,ram⟩:=jcn hM (g.getD i []) n 0 inner hin;simp only[bump]at hres;simp only[r151_16,r151_17,r151_18,r151_19,SS,fC,reduceIte,qQ,f1,f8,f11,f37,qD,gx,zhz,hxl,w5,w6,zvv,gx2,yV,z0];refine⟨⟨by omega,hlt⟩,by omega,⟨by omega,hlt⟩,by omega,⟨by omega,hlt⟩,by omega,λhl=>?_,λhl=>?_⟩
  ·have hl':x.getD i 0+1<M:=by omega
   rw[if_pos hl']at hres;refine hQ2 _ _ _ hres.symm (yT _ hM) (ral.trans hil) ram (by simp[hxl]) (qeh hx (by omega)) _ ⟨?_,?_,?_,?_,?_,?_,?_⟩ ?_<;>simp only[zpk,qQ,if_false, *]
  ·have hl':¬x.getD i 0+1<M:=by omega
   rw[if_neg hl']at hres;refine⟨⟨by omega,hlt⟩,by omega,?_⟩;refine⟨k',_,_,by omega,⟨i+1,_,_,_,by omega,yT _ hM,ral.trans hil,ram,by simp[hxl],(by rw[jJ];exact qeh hx hM),hres,⟨?_,?_,?_,?_,?_,?_,?_⟩,?_,?_,rfl⟩,.refl⟩<;>simp only[zpk,qQ,reduceIte,if_false, *]
 ·have hi:i=n:=by omega
  have hk:k=0:=by omega
  subst hk;refine hQ1 hres.symm _ _ _ ⟨?_,?_,?_,?_,?_,?_,?_⟩<;>simp only[zpk,qQ,if_false, *]
def J79(g:List (List Nat))(n M F:Nat)(rows:List AV)(cg:Option Nat)(fin:List Nat)(f:Nat)(E:Env)(H:Heap):Prop:=
 ∃cts norm inner x,cts.length=M/\(∀a∈cts,a<F-f+1)/\f<=F/\norm<M/\inner.length=n/\(∀a∈inner,a<M)/\x.length=n/\(∀a∈x,a<M)/\runC g n M f cts norm inner x=some fin/\
  E 1= .int .i64 (M:Int)/\E 5= .vec rows n cg/\E 7= .sl 0 0 M 1 (some M)/\E 8= .sl 1 0 n 1 (some n)/\E 9= .sl 2 0 n 1 (some n)/\E 10= .int .i64 (norm:Int)/\H=[some (ints cts),some (ints x),some (ints inner)]
theorem qxh{g:List (List Nat)}{n M F:Nat}{rows:List AV}{cg:Option Nat}{fin:List Nat}(hM:0<M)(hM2:M<2^40)(hn:n<2^20)(hF:F<2^60)
  (hrl:rows.length=n) (hrows:∀i,i<n->∃c,rows[i]?=some (.vec (ints (g.getD i [])) n c)) (hgl:∀i,i<n->(g.getD i []).length=n) (hgM:∀i,i<n->∀a∈g.getD i [],a<M)
  {f:Nat} {E:Env} {H:Heap} (hJ:J79 g n M F rows cg fin f E H) {Jp:Env->Heap->Prop} {Q:Post} (h1:∀f' E' H',f'<f->J79 g n M F rows cg fin f' E' H'->Jp E' H')
  (h2:∀E' a b,E' 4= .sl 0 0 M 1 (some M)->Q .ret E' [some (ints fin),some a,some b]):
  wG 0 92 (.seq (.reg r151_6 none) (.seq (.seq (.reg r151_7 none) (.block 0 (.loop l151_0))) (.seq (.reg r151_20 none) .ret))) E H (qzw 0 Jp Q):=by
 obtain⟨cts,norm,inner,x,hcl,hcb,hfF,hno,hil,hin,hxl,hx,hrun,e1,e5,e7,e8,e9,e10,rfl⟩:=hJ;cases f with
 |zero=>simp[runC]at hrun
 |succ f=>
  have gc:=zfs cts norm (by omega) AV.junk;have bc:=zvx hcb (i:=norm) (by omega)
  have w1:IntKind.i64.wrap (((cts.getD norm 0:Nat):Int)+1)=((cts.getD norm 0+1:Nat):Int):=by
   have:(((cts.getD norm 0:Nat):Int)+1)=((cts.getD norm 0+1:Nat):Int):=by omega
   rw[this];exact zvw (by omega)
  simp only[r151_6,r151_7,r151_20,SS,fC,reduceIte,qQ,e7,e10,e5,qD,gc,w1,zhz,hcl,zvv];refine⟨⟨by omega,by omega⟩,by omega,⟨by omega,by omega⟩,by omega,?_⟩
  refine jjd hM hM2 hn hrl hrows hgl hgM (.vec rows n cg) (.sl 0 0 M 1 (some M)) (ints (cts.set norm (cts.getD norm 0+1))) (bump g n M n 0 norm inner x) norm inner x hno hil hin hxl hx rfl
   ⟨e1,e5,e7,e8,e9,rfl,rfl⟩ rfl e10 rfl ?_ ?_
  ·intro hb E' a b hE';simp only[runC,hb]at hrun;have hfin:cts.set norm (cts.getD norm 0+1)=fin:=Option.some.inj hrun;rw[hfin];exact h2 _ _ _ hE'.e7
  ·intro norm' inner' x' hb q1 q2 q3 q4 q5 E' hE' q6;simp only[runC,hb]at hrun;refine⟨rfl,h1 f E' _ (by omega) ⟨_,norm',inner',x',?_,?_,by omega,q1,q2,q3,q4,q5,hrun,hE'.e1,hE'.e5,hE'.e7,hE'.e8,hE'.e9,q6,rfl⟩⟩
   ·simp[hcl]
   ·refine qeh (λa ha=>?_) (by omega);have:=hcb a ha;omega
theorem zqy{g:List (List Nat)}{n M F:Nat}{hs rows:List AV}{ch cg:Option Nat}{kd:IntKind}{en:Int}{fin:List Nat}(hM:0<M)(hM2:M<2^40)(hn:n<2^20)(hF:F<2^60)
  (hres:Rt 207 [.vec hs n ch,.int .i64 (M:Int)] [] (.tup [.vec rows n cg,.int kd en]) [])
  (hrl:rows.length=n) (hrows:∀i,i<n->∃c,rows[i]?=some (.vec (ints (g.getD i [])) n c)) (hgl:∀i,i<n->(g.getD i []).length=n) (hgM:∀i,i<n->∀a∈g.getD i [],a<M)
  (hrun:runC g n M F (List.replicate M 0) 0 (List.replicate n 0) (List.replicate n 0)=some fin) (hfl:fin.length=M):
  Rt 151 [.vec hs n ch,.int .i64 (M:Int)] [] (.vec (ints fin) M (some M)) []:=by
 refine oF o151 ?_;simp only[c151,r151_0,SS];have hrep:∀k:Nat,List.replicate k (AV.int IntKind.i64 0)=ints (List.replicate k 0):=by intro k;simp[ints]
 have hfinal:∀(E':Env) (a b:List AV),E' 4= .sl 0 0 M 1 (some M)->(λ(x:Exit) (E':Env) (H':Heap)=>(x=Exit.ret\/x=Exit.normal)/\∃v',resA Tryz.prog [ResultVar.tmp 4] E' H'=some v'/\AL.Fin 0 v' H' (AV.vec (ints fin) M (some M)) []) .ret E' [some (ints fin),some a,some b]:=by
  intro E' a b h4;refine⟨.inl rfl,.sl 0 0 M 1 (some M),by simp[resA,zeh,h4],.freeze 2 _ _ _ ?_ (by intro i cs h;omega)⟩
  have hm:∀l:List Nat,(ints l).mapM (frzI 0 [some (ints fin),some a,some b] 1)=some (ints l):=by
   intro l
   induction l with
   |nil=>rfl
   |cons y l ih=>
    have:ints (y::l)= .int .i64 (y:Int)::ints l:=rfl;rw[this,yJ,ih];rfl
  have e:frzI 0 [some (ints fin),some a,some b] 2 (.sl 0 0 M 1 (some M))=need (0+M*1<=(ints fin).length) (((((ints fin).drop 0).take (M*1)).mapM (frzI 0 [some (ints fin),some a,some b] 1)).map λl=> .vec l M (some M)):=rfl;have ht:((ints fin).drop 0).take (M*1)=ints fin:=by rw[zU,xZ (by rw[zhz,hfl];omega)]
  rw[e,ht,hm];unfold need;rw[if_pos (by rw[zhz,hfl];omega)];rfl
 refine qkl 0 (λf E H=>J79 g n M F rows cg fin f E H) rfl ?_ ?_
 ·refine wM ?_;simp only[r151_1,r151_2,r151_3,r151_4,r151_5,SS,reduceCtorEq,reduceIte,qQ];refine zaa hres ?_;simp only[SS,reduceCtorEq,reduceIte,qJ,qQ,qD,qG,qE,hrep];refine⟨by omega,⟨by omega,by omega,by omega,by omega⟩,by omega,⟨by omega,by omega,by omega,by omega⟩,by omega,⟨by omega,by omega,by omega,by omega⟩,?_⟩
  have zr:∀(k B:Nat),0<B->∀a∈List.replicate k 0,a<B:=by
   intro k B hB a ha;rw[zR]at ha;omega
  refine qxh (f:=F) (E:=_) (H:=_) hM hM2 hn hF hrl hrows hgl hgM ⟨List.replicate M 0,0,List.replicate n 0,List.replicate n 0,by simp,zr _ _ (by omega),qU _,hM,by simp,zr _ _ hM,by simp,zr _ _ hM,hrun,rfl,rfl,rfl,rfl,rfl,rfl,rfl⟩
   (λf' E' H' hlt h=>⟨f',E',H',h,.refl⟩) hfinal
 ·intro f E H hJ;refine wM ?_;exact qxh hM hM2 hn hF hrl hrows hgl hgM hJ (λf' E' H' hlt h=>⟨f',E',H',hlt,h,.refl⟩) hfinal
end Go.Proofs.YtgfbaioffpcelaaGreatDoor
namespace Go.Proofs.YtgfbaioffpcelaaGreatDoor
open Go Go.AL Go.Proofs
theorem qns{p e:Nat}(hp:1<=p)(h:p^e<=2097152)(he:e<2^40):Rt 150 [.int .i64 (p:Int),.int .i64 (e:Int)] [] (.tup [.int .i64 ((p^e:Nat):Int),.bool true]) []:=by
 have hle:∀i,i<=e->p^i<=2097152:=λi hi=>xB (xG hp hi) h
 refine oF o150 ?_;simp only[c150,r150_0,r150_1,r150_2,SS,reduceCtorEq,reduceIte,qQ]
 refine zaj (λq E H=>∃i:Nat,i+q=e/\H=[]/\E 0= .int .i64 (p:Int)/\E 6= .int .i64 ((p^i:Nat):Int)/\E 7= .int .i64 (e:Int)/\E 8= .int .i64 (i:Int)) (n:=e)
  ⟨0,by omega,rfl,by rfl,by rfl,by rfl,by rfl⟩ ?_
 rintro q E H ⟨i,hiq,rfl,e0,e6,e7,e8⟩;refine wM ?_;simp only[l150_0,r150_3,SS,reduceCtorEq,reduceIte,e7,e8];refine⟨λhlt=>?_,λhge=>?_⟩
 ·obtain⟨q,rfl⟩:∃q',q=q'+1:=⟨q-1,by omega⟩
  have hs:=hle (i+1) (by omega);have em:((p^i:Nat):Int)*(p:Int)=((p^(i+1):Nat):Int):=by rw[xS];exact(yU _ _).symm
  have w5:=wS1 i (by omega);have w6:IntKind.i64.wrap ((p^(i+1):Nat):Int)=((p^(i+1):Nat):Int):=zvw (by omega);simp only[r150_4,r150_5,r150_6,r150_7,SS,reduceCtorEq,reduceIte,qQ,e0,e6,e8,em,w5,w6];refine⟨λhgt=>absurd hgt (by omega),λ_=>⟨q,_,_,by omega,⟨i+1,by omega,rfl,?_,?_,?_,?_⟩,.refl⟩⟩
  all_goals simp only[UU,qQ,reduceIte, *]
 ·have hie:i=e:=by omega
  subst hie;simp only[r150_8,SS,reduceIte,qQ,e6];exact kR
theorem jco{a:AV}{p:Int}(h1:Rt 30 [a] [] (.bool true) [])(hc:a.closed=true)(hp:p<=9973)(h2:Rt 144 [.int .i64 p] [] (.bool true) []):Rt 60 [a,.int .i64 p] [] (.int .i64 0) []:=by
 have c1:xX [a]=true:=by simp only[xX,hc,zI]
 have d1:decide (9973<p)=false:=dF;refine oF o60 ?_;simp only[c60,r60_0,r60_1,SS,reduceCtorEq,reduceIte];refine zaa h1 ?_ c1;simp only[zaf,SS,fC,reduceIte,qQ];simp only[r60_3,SS,fC,reduceIte,qQ,d1];refine zaa h2 ?_;simp only[zaf,SS,fC,reduceIte,qQ,r60_5];exact kR
theorem quq{hs:List AV}{ch:Option Nat}{n p e:Nat}{v:AV}(hcl:(AV.vec hs n ch).closed=true)(hchk:Rt 60 [.vec hs n ch,.int .i64 (p:Int)] [] (.int .i64 0) [])
  (hp:1<=p) (he:1<=e) (he2:e<2^40) (hn:1<=n) (hn2:n<2^40) (hpow:(p^e)^n<=2097152) (hcnt:Rt 151 [.vec hs n ch,.int .i64 ((p^e:Nat):Int)] [] v []) (hv:v.closed=true):
  Rt 63 [.vec hs n ch,.int .i64 (p:Int),.int .i64 (e:Int)] [] (.tup [v,.int .i64 0]) []:=by
 have h1:1<=p^e:=Nat.one_le_pow _ _ hp;have hpe:p^e<=2097152:=xB (by have:=xG (n:=p^e) h1 hn;rwa[Nat.pow_one]at this) hpow;have t1:=qns hp hpe he2;have t2:=qns h1 hpow hn2;have c0:xX [.vec hs n ch,.int .i64 (p:Int)]=true:=by simp only[xX,hcl];rfl
 have c1:xX [.vec hs n ch,.int .i64 ((p^e:Nat):Int)]=true:=by simp only[xX,hcl];rfl
 refine oF o63 ?_;simp only[c63,r63_0,r63_1,SS,reduceCtorEq,reduceIte,qQ];refine zaa hchk ?_ c0;simp only[zaf,SS,reduceIte,qQ];simp only[r63_2,SS,reduceIte,qQ];refine⟨λhne=>absurd rfl hne,λ_=>?_⟩;simp only[r63_4,SS,reduceIte,qQ];refine⟨λhlt=>absurd hlt (by omega),λ_=>?_⟩;simp only[r63_6,SS,reduceIte,qQ];refine zaa t1 ?_;simp only[zaf,SS,reduceIte,qQ,qG,qE];simp only[r63_7,r63_9,SS,fC,reduceCtorEq,reduceIte,qQ];refine zaa t2 ?_;simp only[zaf,SS,reduceIte,qQ,qG,qE];simp only[r63_10,r63_12,SS,fC,reduceCtorEq,reduceIte,qQ];refine zaa hcnt ?_ c1 hv;simp only[zaf,SS,reduceIte,qQ];exact kR
end Go.Proofs.YtgfbaioffpcelaaGreatDoor
namespace Go.Count
end Go.Count
namespace Go.Proofs.YtgfbaioffpcelaaGreatDoor
open Go Go.AL Go.Proofs
def gN(n:Nat)(M:List (List Int))(m:Nat):List (List Nat):=(modM n M (m:Int)).map λr=>r.map Int.toNat
theorem qei(n:Nat)(M:List (List Int))(m i:Nat):(gN n M m).getD i []=((modM n M (m:Int)).getD i []).map Int.toNat:=by
 unfold gN;rw[qZ,xA,qZ];cases (modM n M (m:Int))[i]?<;>rfl
theorem qnu{n:Nat}{M:List (List Int)}{m i j:Nat}:Count.ent (gN n M m) i j=(ent (modM n M (m:Int)) i j).toNat:=by
 unfold Count.ent;rw[qei];unfold ent;generalize (modM n M (m:Int)).getD i []=r;rw[qZ,xA,qZ];cases r[j]?<;>rfl
theorem qnv{r:List Int}(h:∀z∈r,0<=z):i64z r=ints (r.map Int.toNat):=by
 unfold i64z ints;rw[List.map_map];refine List.map_congr_left λz hz=>?_
 show AV.int .i64 z= .int .i64 ((z.toNat:Nat):Int)
 rw[Int.toNat_of_nonneg (h z hz)]
theorem qej{n:Nat}{M:List (List Int)}{m i:Nat}(hm:0<m):∀z∈(modM n M (m:Int)).getD i [],0<=z/\z<m:=by
 intro z hz;rw[qZ]at hz;cases h:(modM n M (m:Int))[i]? with
 |none=>rw[h]at hz;simp at hz
 |some r=>
  rw[h,xT]at hz;have hr:r∈modM n M (m:Int):=zW h;unfold modM mkM at hr;obtain⟨i',_,rfl⟩:=List.mem_map.1 hr;obtain⟨j',_,rfl⟩:=List.mem_map.1 hz;exact⟨jO _ (by omega),zP _ (by omega)⟩
end Go.Proofs.YtgfbaioffpcelaaGreatDoor
namespace Go.Count
end Go.Count
namespace Go.Proofs.YtgfbaioffpcelaaGreatDoor
open Go Go.AL Go.Proofs
open Go.Limb
open Go.Det
theorem zvy{A0:Nat}{M:List (List Int)}(hb:Bnd A0 M)(hA:A0<BIG):qgw M:=by
 intro r hr z hz;obtain⟨i,hi,rfl⟩:=zE hr;obtain⟨j,hj,rfl⟩:=zE hz;have:=hb i j;unfold ent at this;rw[qZ (l:=M),qV hi,xT,qZ,qV hj,xT]at this;omega
theorem znx{n A0:Nat}{M:List (List Int)}(hS:Shp n M)(hn:1<=n/\n<=8)(hb:Bnd A0 M)(hA:A0<BIG):Sq n M (matC M):=⟨zqk (zvy hb hA),hS.len,hS.row,hn.1,hn.2⟩
def zqz(M:List (List Int)):Prop:=1<=M.length/\M.length<=8/\Shp M.length M/\∀i j,i<M.length->j<M.length->ent M i j=ent M j i/\ -262144<ent M i j/\ent M i j<262144
theorem qxi{M:List (List Int)}{a:AV}(h:ImV M a)(h62:M.length<4611686018427387904)(hr62:∀i,i<M.length->(M.getD i []).length<4611686018427387904){b:Bool}(hb:b=true↔zqz M):Rt 94 [a] [] (.bool b) []:=by
 have hf:=h.fit;obtain⟨rows,c,rfl,hl,hr⟩:=h.val
 have no:¬zqz M->b=false:=by
  intro hn;cases b with
  |false=>rfl
  |true=>exact absurd (hb.1 rfl) hn
 refine oF o94 ?_;by_cases h1:M.length<1\/8<M.length
 ·have hbf:=no (λhS=>by have:=hS.1;have:=hS.2.1;omega);subst hbf;by_cases h2:M.length<1
  ·have d1:decide ((M.length:Int)<1)=true:=dT;simp only[c94,r94_0,r94_1,r94_2,SS,fC,reduceCtorEq,reduceIte,qQ,d1];simp only[r94_3,SS];exact dR
  ·have d1:decide ((M.length:Int)<1)=false:=dF;have d2:decide ((8:Int)<(M.length:Nat))=true:=dT;simp only[c94,r94_0,r94_1,r94_2,SS,fC,reduceCtorEq,reduceIte,qQ,d1,d2];simp only[r94_3,SS];exact dR
 have d1:decide ((M.length:Int)<1)=false:=dF;have d2:decide ((8:Int)<(M.length:Nat))=false:=dF;simp only[c94,r94_0,r94_1,r94_2,SS,fC,reduceCtorEq,reduceIte,qQ,d1,d2];simp only[r94_4,SS,reduceCtorEq,reduceIte,qQ]
 refine zaj (λk E H=>∃i,i+k=M.length/\E 0= .vec rows M.length c/\E 3= .int .i64 (M.length:Nat)/\E 18= .vec rows M.length c/\E 19= .int .i64 (M.length:Nat)/\E 20= .int .i64 (i:Nat)/\H=[]/\∀s,s<i->(M.getD s []).length=M.length) (n:=M.length)
  ⟨0,by omega,by rfl,by rfl,by rfl,by rfl,by rfl,rfl,λs hs=>absurd hs (by omega)⟩ ?_
 rintro k E H ⟨i,hik,e0,e3,e18,e19,e20,rfl,hsh⟩;refine wM ?_;simp only[l94_0,r94_5,SS,reduceCtorEq,reduceIte,e19,e20];refine⟨λhlt=>?_,λhge=>?_⟩
 ·obtain⟨k,rfl⟩:∃k',k=k'+1:=⟨k-1,by omega⟩
  have hi:i<M.length:=by omega
  obtain⟨ci,hei⟩:=hr i hi;have hri:=hr62 i hi;have w5:=wS1 i (by omega);simp only[r94_6,r94_7,SS,fC,reduceIte,qQ,e3,e18,e20,qD,hei,hl];refine⟨⟨by omega,by omega⟩,by omega,λhne=>?_,λheq=>?_⟩
  ·have hbf:=no (λhS=>hne (by rw[hS.2.2.1.row i hi]));subst hbf;simp only[r94_8,SS];exact dR
  ·have heq:(M.getD i []).length=M.length:=by
    have:=Decidable.not_not.1 heq;omega
   simp only[r94_9,SS,reduceIte,qQ,e20,w5];refine⟨k,_,_,by omega,⟨i+1,by omega,?_,?_,?_,?_,?_,rfl,λs hs=>?_⟩,.refl⟩
   ·simp only[UU,qQ, *]
   ·simp only[UU,qQ, *]
   ·simp only[UU,qQ, *]
   ·simp only[UU,qQ, *]
   ·simp only[UU,qQ,reduceIte, *]
   ·rcases(by omega:s<i\/s=i)with e | e
    ·exact hsh s e
    ·rw[e];exact heq
 ·have hin:i=M.length:=by omega
  subst hin;clear hge e20 e19 e18 hik k;have hS:Shp M.length M:=⟨rfl,hsh⟩
  simp only[r94_10,SS,reduceCtorEq,reduceIte,qQ,e0]
  refine zaj (λk E H=>∃i,i+k=M.length/\E 0= .vec rows M.length c/\E 29= .vec rows M.length c/\E 30= .int .i64 (M.length:Nat)/\E 31= .int .i64 (i:Nat)/\H=[]/\∀s t,s<i->t<M.length->ent M s t=ent M t s/\ -262144<ent M s t/\ent M s t<262144) (n:=M.length)
   ⟨0,by omega,by exact e0,by rfl,by rfl,by rfl,rfl,λs t hs=>absurd hs (by omega)⟩ ?_
  clear e0 e3 hsh E;rintro k E H ⟨i,hik,e0,e29,e30,e31,rfl,hP⟩;refine wM ?_;simp only[l94_1,r94_11,SS,reduceCtorEq,reduceIte,e30,e31];refine⟨λhlt=>?_,λhge=>?_⟩
  ·obtain⟨k,rfl⟩:∃k',k=k'+1:=⟨k-1,by omega⟩
   have hi:i<M.length:=by omega
   obtain⟨ci,hei⟩:=hr i hi;have w5:=wS1 i (by omega);have hcol:=hS.row i hi;simp only[r94_12,r94_13,SS,fC,reduceIte,qQ,e29,e31,qD,hei,hl,hcol];refine⟨⟨by omega,by omega⟩,by omega,?_⟩
   refine zaj (λk2 E H=>∃j,j+k2=M.length/\E 0= .vec rows M.length c/\E 6= .int .i64 (i:Nat)/\E 29= .vec rows M.length c/\E 30= .int .i64 (M.length:Nat)/\E 31= .int .i64 (i:Nat)/\E 36= .vec (i64z (M.getD i [])) M.length ci/\E 37= .int .i64 (M.length:Nat)/\E 38= .int .i64 (j:Nat)/\H=[]/\∀t,t<j->ent M i t=ent M t i/\ -262144<ent M i t/\ent M i t<262144) (n:=M.length)
    ⟨0,by omega,by exact e0,by rfl,by exact e29,by exact e30,by exact e31,by rfl,by rfl,by rfl,rfl,λt ht=>absurd ht (by omega)⟩ ?_
   clear e0 e29 e30 e31 E;rintro k2 E H ⟨j,hjk,e0,e6,e29,e30,e31,e36,e37,e38,rfl,hP2⟩;refine wM ?_;simp only[l94_2,r94_14,SS,reduceCtorEq,reduceIte,qQ,e37,e38];refine⟨λhlt2=>?_,λhge2=>?_⟩
   ·obtain⟨k2,rfl⟩:∃k',k2=k'+1:=⟨k2-1,by omega⟩
    have hj:j<M.length:=by omega
    obtain⟨cj,hej⟩:=hr j hj;have hcj:=hS.row j hj;have w6:=wS1 j (by omega);have g1:(i64z (M.getD i [])).getD j .junk= .int .i64 (ent M i j):=zck _ j (by omega) _;have g2:(i64z (M.getD j [])).getD i .junk= .int .i64 (ent M j i):=zck _ i (by omega) _;simp only[r94_15,r94_16,SS,fC,reduceCtorEq,reduceIte,qQ,e0,e6,e36,e38,qD,hej,hl,hcj,zbe,hcol,g1,g2];have bad:¬(ent M i j=ent M j i/\ -262144<ent M i j/\ent M i j<262144)->b=false:=λhn=>no λhSm=>hn (hSm.2.2.2 i j hi hj)
    refine⟨⟨by omega,by omega⟩,by omega,⟨by omega,by omega⟩,by omega,⟨by omega,by omega⟩,by omega,λh1=>⟨λh2=>⟨λh3=>?_,λh3=>?_⟩,λh2=>?_⟩,λh1=>?_⟩
    ·obtain rfl:=bad (by omega);simp only[r94_17,SS];exact dR
    ·simp only[r94_18,SS,reduceIte,qQ,e38,w6];refine⟨k2,_,_,by omega,⟨j+1,by omega,?_,?_,?_,?_,?_,?_,?_,?_,rfl,λt ht=>?_⟩,.refl⟩
     ·simp only[UU,qQ, *]
     ·simp only[UU,qQ, *]
     ·simp only[UU,qQ, *]
     ·simp only[UU,qQ, *]
     ·simp only[UU,qQ, *]
     ·simp only[UU,qQ, *]
     ·simp only[UU,qQ, *]
     ·simp only[UU,qQ,reduceIte, *]
     ·rcases(by omega:t<j\/t=j)with e | e
      ·exact hP2 t e
      ·rw[e];exact⟨Decidable.not_not.1 h1,by omega,by omega⟩
    ·obtain rfl:=bad (by omega);simp only[r94_17,SS];exact dR
    ·obtain rfl:=bad (λe=>h1 e.1);simp only[r94_17,SS];exact dR
   ·have hj:j=M.length:=by omega
    subst hj;simp only[r94_19,SS,reduceIte,qQ,e31,w5];refine⟨k,_,_,by omega,⟨i+1,by omega,?_,?_,?_,?_,rfl,λs t hs ht=>?_⟩,.refl⟩
    ·simp only[UU,qQ, *]
    ·simp only[UU,qQ, *]
    ·simp only[UU,qQ, *]
    ·simp only[UU,qQ,reduceIte, *]
    ·rcases(by omega:s<i\/s=i)with e | e
     ·exact hP s t e ht
     ·rw[e];exact hP2 t ht
  ·have hin:i=M.length:=by omega
   subst hin;obtain rfl:=hb.2 ⟨by omega,by omega,hS,λs t hs ht=>hP s t hs ht⟩;simp only[r94_20,SS];exact dR
def qek(n:Nat)(M:List (List Int)):Prop:=0<ent M 0 0/\ent M 0 0<65536/\∀i,0<i->i<n->2*ent M i 0<=ent M 0 0/\ -(2*ent M i 0)<=ent M 0 0
theorem qxj{n:Nat}{M:List (List Int)}{a:AV}(h:ImV M a)(hS:Shp n M)(hn:1<=n/\n<=8)(hbd:∀i,i<n-> -1099511627776<=ent M i 0/\ent M i 0<=1099511627776){b:Bool}(hb:b=true↔qek n M):Rt 95 [a] [] (.bool b) []:=by
 obtain⟨rows,c,rfl,hl,hr⟩:=h.val
 have no:¬qek n M->b=false:=by
  intro hn;cases b with
  |false=>rfl
  |true=>exact absurd (hb.1 rfl) hn
 have hlen:=hS.len;obtain⟨c0,he0⟩:=hr 0 (by omega);have hc0:=hS.row 0 (by omega);have g0:(i64z (M.getD 0 [])).getD 0 .junk= .int .i64 (ent M 0 0):=zck _ 0 (by omega) _;have hb0:=hbd 0 (by omega);refine oF o95 ?_;simp only[c95,r95_0,r95_1,SS,fC,reduceCtorEq,reduceIte,qQ,he0,hc0,hl,hlen,g0,zbe,xP];refine⟨⟨by omega,by omega⟩,by omega,⟨by omega,by omega⟩,by omega,?_⟩;simp only[r95_2,SS,fC,reduceIte,qQ];refine⟨λh1=>⟨λh2=>?_,λh2=>?_⟩,λh1=>?_⟩
 ·obtain rfl:=no (λhp=>by have:=hp.2.1;omega);simp only[r95_3,SS];exact dR
 ·simp only[r95_4,SS,reduceCtorEq,reduceIte,qQ,hl,hlen];have t1:Int.toNat 1=1:=rfl;have htail:List.take (n-1) (List.drop 1 rows)=rows.drop 1:=xZ (by rw[jH];omega);have hdl:(rows.drop 1).length=n-1:=by rw[jH];omega
  have hdg:∀i,(rows.drop 1).getD i .junk=rows.getD (i+1) .junk:=by
   intro i;rw[qZ,List.getElem?_drop,qZ,Nat.add_comm]
  simp only[t1,htail];refine⟨by omega,⟨by omega,by omega,by omega⟩,?_⟩
  refine zaj (λk E H=>∃i,i+k=n-1/\E 3= .int .i64 (ent M 0 0)/\E 18= .vec (rows.drop 1) (n-1) (zdn 1 c)/\E 19= .int .i64 ((n-1:Nat):Int)/\E 20= .int .i64 (i:Nat)/\H=[]/\∀s,0<s->s<i+1->2*ent M s 0<=ent M 0 0/\ -(2*ent M s 0)<=ent M 0 0) (n:=n-1)
   ⟨0,by omega,by rfl,by rfl,by rfl,by rfl,rfl,λs hs hs2=>absurd hs2 (by omega)⟩ ?_
  rintro k E H ⟨i,hik,e3,e18,e19,e20,rfl,hP⟩;refine wM ?_;simp only[l95_0,r95_5,SS,reduceCtorEq,reduceIte,e19,e20];refine⟨λhlt=>?_,λhge=>?_⟩
  ·obtain⟨k,rfl⟩:∃k',k=k'+1:=⟨k-1,by omega⟩
   have hi:i+1<n:=by omega
   obtain⟨ci,hei⟩:=hr (i+1) (by omega);have hci:=hS.row (i+1) hi;have gi:(i64z (M.getD (i+1) [])).getD 0 .junk= .int .i64 (ent M (i+1) 0):=zck _ 0 (by omega) _;have hbi:=hbd (i+1) hi;have w5:=wS1 i (by omega);have w6:IntKind.i64.wrap (2*ent M (i+1) 0)=2*ent M (i+1) 0:=w64 (by omega) (by omega);have w7:IntKind.i64.wrap (-2*ent M (i+1) 0)= -2*ent M (i+1) 0:=w64 (by omega) (by omega);have bad:¬(2*ent M (i+1) 0<=ent M 0 0/\ -(2*ent M (i+1) 0)<=ent M 0 0)->b=false:=λhne=>no λhp=>hne (hp.2.2 (i+1) (by omega) hi)
   simp only[r95_6,r95_7,SS,fC,reduceIte,qQ,e3,e18,e20,qD,hdg,hdl,hei,hci,gi,zbe,xP,w6,w7];refine⟨⟨by omega,by omega⟩,by omega,⟨by omega,by omega⟩,by omega,λh3=>⟨⟨by omega,by omega⟩,by omega,λh4=>?_,λh4=>?_⟩,λh3=>?_⟩
   ·obtain rfl:=bad (by omega);simp only[r95_8,SS];exact dR
   ·simp only[r95_9,SS,reduceIte,qQ,e20,w5];refine⟨k,_,_,by omega,⟨i+1,by omega,?_,?_,?_,?_,rfl,λs h0 hs=>?_⟩,.refl⟩
    ·simp only[UU,qQ, *]
    ·simp only[UU,qQ, *]
    ·simp only[UU,qQ, *]
    ·simp only[UU,qQ,reduceIte, *]
    ·rcases(by omega:s<i+1\/s=i+1)with e | e
     ·exact hP s h0 e
     ·rw[e];exact⟨by omega,by omega⟩
   ·obtain rfl:=bad (by omega);simp only[r95_8,SS];exact dR
  ·have hin:i=n-1:=by omega
   subst hin;obtain rfl:=hb.2 ⟨by omega,by omega,λs h0 hs=>hP s h0 (by omega)⟩;simp only[r95_10,SS];exact dR
 ·obtain rfl:=no (λhp=>by have:=hp.1;omega);simp only[r95_3,SS];exact dR
def zcb(n k:Nat)(M:List (List Int)):List (List Int):=mkM (n-k) λi j=>stg (rowF M) k (k+i) (k+j)
theorem zra(n k:Nat)(M:List (List Int)):Shp (n-k) (zcb n k M):=zci _ _
theorem zde{n k i j:Nat}{M:List (List Int)}(hi:i<n-k)(hj:j<n-k):ent (zcb n k M) i j=stg (rowF M) k (k+i) (k+j):=zbl hi hj
theorem qhj{n:Nat}{M:List (List Int)}(h:Shp n M):zcb n 0 M=M:=by
 refine zqq (n:=n) (zra n 0 M) h λi j hi hj=>?_
 rw[zde (by omega) (by omega),zda,xM,xM];rfl
section
variable{m:Nat}{S T:List (List Int)}{sr:List AV}{sc:Option Nat}{d last:Int}
structure StF(m:Nat)(S T:List (List Int))(sr:List AV)(sc:Option Nat)(d last:Int):Prop where
 m2:m+1<=8
 shS:Shp (m+1) S
 shT:Shp m T
 val:∀i,i<m+1->∃c',sr.getD i .junk= .vec (i64z (S.getD i [])) (m+1) c'
 len:sr.length=m+1
 de:d=ent S 0 0
 db:0<d/\d<65536
 last0:last≠0
 big:∀i j,i<m+1->j<m+1-> -34359738368<=ent S i j/\ent S i j<=34359738368
 low:∀i,i<m+1-> -65536<=ent S i 0/\ent S i 0<=65536/\ -65536<=ent S 0 i/\ent S 0 i<=65536
 quo:∀i j,i<m->j<m->Int.tdiv (d*ent S (i+1) (j+1)-ent S (i+1) 0*ent S 0 (j+1)) last=ent T i j
theorem zji{x y:Int}{a b:Int}(h1:x<=a)(h2: -a<=x)(h3:y<=b)(h4: -b<=y):x*y<=a*b/\ -(a*b)<=x*y:=zqo h1 h2 h3 h4
theorem qnw(hF:StF m S T sr sc d last){i:Nat}(hi:i<m){rows:List (List Int)}{ci:Option Nat}(hrl:rows.length=i+1)(hr0:(rows.getD i []).length=m){E:Env}{Q:Post}
  (e3:E 3= .vec sr (m+1) sc) (e4:E 4= .int .i64 last) (e5:E 5= .int .i64 d) (e6:E 6= .sl 0 0 m 1 (some m)) (e7:E 7= .int .i64 (i:Nat)) (e8:E 8= .vec (i64z (S.getD (i+1) [])) (m+1) ci) (e31:E 31= .int .i64 (m:Nat)) (e32:E 32= .int .i64 (i:Nat))
  (e47:E 47= .int .i64 (m:Nat)) (e48:E 48= .int .i64 0)
  (hQ:∀E' r,r.length=m->(∀j,j<m->r.getD j 0=ent T i j)->E' 3= .vec sr (m+1) sc->E' 4= .int .i64 last->E' 5= .int .i64 d->E' 6= .sl 0 0 m 1 (some m)->E' 31= .int .i64 (m:Nat)->E' 32= .int .i64 (i:Nat)->Q (.exit 4) E' (bH m m (rows.set i r))):
  Wg 0 118 (.loop l30_2) E (bH m m rows) Q:=by
 refine zaj (λk E H=>∃j r,j+k=m/\r.length=m/\(∀t,t<j->r.getD t 0=ent T i t)/\H=bH m m (rows.set i r)/\E 3= .vec sr (m+1) sc/\E 4= .int .i64 last/\E 5= .int .i64 d/\E 6= .sl 0 0 m 1 (some m)/\E 7= .int .i64 (i:Nat)/\E 8= .vec (i64z (S.getD (i+1) [])) (m+1) ci/\
  E 31= .int .i64 (m:Nat)/\E 32= .int .i64 (i:Nat)/\E 47= .int .i64 (m:Nat)/\E 48= .int .i64 (j:Nat)) (n:=m)
  ⟨0,rows.getD i [],by omega,hr0,λt ht=>absurd ht (by omega),?_,e3,e4,e5,e6,e7,e8,e31,e32,e47,e48⟩ ?_
 ·congr 1;refine xC (by simp) λt h1 h2=>?_
  rw[jC];split
  ·rename_i e;subst e;rw[qZ,qV h1];rfl
  ·rfl
 clear e3 e4 e5 e6 e7 e8 e31 e32 e47 e48 E;rintro k E H ⟨j,r,hjk,hrm,hr,rfl,e3,e4,e5,e6,e7,e8,e31,e32,e47,e48⟩;refine wM ?_;simp only[l30_2,r30_16,SS,reduceIte,e47,e48];refine⟨λhlt=>?_,λhge=>?_⟩
 ·obtain⟨k,rfl⟩:∃k',k=k'+1:=⟨k-1,by omega⟩
  have hj:j<m:=by omega
  have hm2:=hF.m2;obtain⟨c0,h0⟩:=hF.val 0 (by omega);have hl:=hF.len;have l0:=hF.shS.row 0 (by omega);have l1:=hF.shS.row (i+1) (by omega);have g1:(i64z (S.getD (i+1) [])).getD (j+1) .junk= .int .i64 (ent S (i+1) (j+1)):=zck _ (j+1) (by omega) _;have g2:(i64z (S.getD (i+1) [])).getD 0 .junk= .int .i64 (ent S (i+1) 0):=zck _ 0 (by omega) _;have g3:(i64z (S.getD 0 [])).getD (j+1) .junk= .int .i64 (ent S 0 (j+1)):=zck _ (j+1) (by omega) _;have w5:=wS1 j (by omega);have hset:(rows.set i r).length=i+1:=by simp[hrl]
  have gr:=zgq (N:=m) (n:=m) (i:=i) (rows:=rows.set i r) (by omega);have gri:(rows.set i r).getD i []=r:=by rw[qZ,qO (by omega)];rfl
  rw[gri]at gr;have go:getB (bH m m (rows.set i r)) 0=some (outS m m (i+1)):=by rw[zen,hset]
  have gol:=zfl (N:=m) (n:=m) (i:=i+1) (by omega);have gog:=zfm (N:=m) (n:=m) (i:=i+1) (k:=i) (by omega);obtain⟨b1,b2⟩:=hF.big (i+1) (j+1) (by omega) (by omega);obtain⟨b3,b4,_,_⟩:=hF.low (i+1) (by omega);obtain⟨_,_,b5,b6⟩:=hF.low (j+1) (by omega);obtain⟨d1,d2⟩:=hF.db;have p1:=zji (x:=d) (y:=ent S (i+1) (j+1)) (a:=65536) (b:=34359738368) (by omega) (by omega) b2 b1;have p2:=zji (x:=ent S (i+1) 0) (y:=ent S 0 (j+1)) (a:=65536) (b:=65536) b4 b3 b6 b5;have hq:=hF.quo i j hi hj;have w1:IntKind.i64.wrap (d*ent S (i+1) (j+1))=d*ent S (i+1) (j+1):=w64 (by omega) (by omega);have w2:IntKind.i64.wrap (ent S (i+1) 0*ent S 0 (j+1))=ent S (i+1) 0*ent S 0 (j+1):=w64 (by omega) (by omega);have w3:IntKind.i64.wrap (d*ent S (i+1) (j+1)-ent S (i+1) 0*ent S 0 (j+1))=d*ent S (i+1) (j+1)-ent S (i+1) 0*ent S 0 (j+1):=w64 (by omega) (by omega)
  have w4:IntKind.i64.wrap (ent T i j)=ent T i j:=by
   have h1:(ent T i j).natAbs=(d*ent S (i+1) (j+1)-ent S (i+1) 0*ent S 0 (j+1)).natAbs/last.natAbs:=by rw[<-hq];exact Int.natAbs_tdiv _ _
   have h2:=jL (d*ent S (i+1) (j+1)-ent S (i+1) 0*ent S 0 (j+1)).natAbs last.natAbs;exact w64 (by omega) (by omega)
  simp only[r30_17,r30_18,SS,fC,reduceIte,qQ,qX,e3,e4,e5,e6,e7,e8,e48,qD,xP,go,gol,gog,h0,hl,l0,l1,g1,g2,g3,zbe,w5,w1,w2,w3,hq,w4,gr,hrm,zdi];have hl0:=hF.last0;refine⟨⟨by omega,by omega⟩,by omega,⟨by omega,by omega⟩,by omega,⟨by omega,by omega⟩,⟨by omega,by omega⟩,⟨by omega,by omega⟩,by omega,hl0,⟨by omega,by omega⟩,by omega,rfl,?_⟩;simp only[r30_19,SS,reduceIte,qQ,e48,w5,zii];refine⟨k,_,_,by omega,⟨j+1,r.set j (ent T i j),by omega,by simp[hrm],λt ht=>?_,?_,?_,?_,?_,?_,?_,?_,?_,?_,?_,?_⟩,.refl⟩
  ·rw[qZ];rcases(by omega:t<j\/t=j)with e | e
   ·rw[xO (by omega),<-qZ];exact hr t e
   ·rw[e,qO (by omega)];rfl
  ·rw[jJ]
  all_goals simp only[UU,qQ,reduceIte, *]
 ·have hjm:j=m:=by omega
  subst hjm;exact hQ _ r hrm hr (by exact e3) (by exact e4) (by exact e5) (by exact e6) (by exact e31) (by exact e32)
theorem qnx{i:Nat}(hi:i<T.length):T.take i++[T.getD i []]=T.take (i+1):=by
 rw[jK,qZ,qV hi];rfl
theorem qhk(hF:StF m S T sr sc d last){E:Env}{Q:Post}
  (e3:E 3= .vec sr (m+1) sc) (e4:E 4= .int .i64 last) (e5:E 5= .int .i64 d) (e6:E 6= .sl 0 0 m 1 (some m)) (e31:E 31= .int .i64 (m:Nat)) (e32:E 32= .int .i64 0)
  (hQ:∀E',E' 3= .vec sr (m+1) sc->E' 4= .int .i64 last->E' 5= .int .i64 d->E' 6= .sl 0 0 m 1 (some m)->Q (.exit 2) E' (bH m m T)):
  Wg 0 118 (.loop l30_1) E (bH m m []) Q:=by
 refine zaj (λk E H=>∃i,i+k=m/\H=bH m m (T.take i)/\E 3= .vec sr (m+1) sc/\E 4= .int .i64 last/\E 5= .int .i64 d/\E 6= .sl 0 0 m 1 (some m)/\E 31= .int .i64 (m:Nat)/\E 32= .int .i64 (i:Nat)) (n:=m)
  ⟨0,by omega,rfl,e3,e4,e5,e6,e31,e32⟩ ?_
 clear e3 e4 e5 e6 e31 e32 E;rintro k E H ⟨i,hik,rfl,e3,e4,e5,e6,e31,e32⟩;refine wM ?_;simp only[l30_1,r30_11,SS,reduceIte,e31,e32];refine⟨λhlt=>?_,λhge=>?_⟩
 ·obtain⟨k,rfl⟩:∃k',k=k'+1:=⟨k-1,by omega⟩
  have hi:i<m:=by omega
  have hm2:=hF.m2;have hTl:=hF.shT.len;obtain⟨ci,hei⟩:=hF.val (i+1) (by omega);have hl:=hF.len;have htl:(T.take i).length=i:=by rw[jD];omega
  have w5:=wS1 i (by omega);have hbl:(bH m m (T.take i)).length=i+1:=by rw[qee,htl]
  have go:getB (bH m m (T.take i)++[some (i64z (List.replicate m 0))]) 0=some (outS m m i):=by
   have:getB (bH m m (T.take i)) 0=some (outS m m i):=by rw[zen,htl]
   exact this
  have gol:=zfl (N:=m) (n:=m) (i:=i) (by omega);have hnew:=qef (N:=m) (n:=m) (rows:=T.take i) (List.replicate m 0) (by omega);rw[htl]at hnew;simp only[r30_12,r30_13,r30_14,SS,fC,reduceIte,qQ,qX,e3,e6,e32,qD,w5,hei,hl,hbl,zkd,go,gol];refine⟨⟨by omega,by omega⟩,by omega,by decide,⟨by omega,by omega,by omega,by omega⟩,⟨by omega,by omega⟩,by omega,?_⟩;rw[hnew];simp only[r30_15,SS,reduceIte,qQ,e6];refine qnw hF hi (ci:=ci) (rows:=T.take i++[List.replicate m 0]) (by simp;omega) ?_ (by exact e3) (by exact e4) (by exact e5) (by exact e6) (by rfl) (by rfl) (by exact e31) (by exact e32) (by rfl) (by rfl) ?_
  ·rw[qZ,qI (by omega),htl,xI];simp
  intro E' r hrm hr f3 f4 f5 f6 f31 f32
  have er:r=T.getD i []:=by
   have hTi:=hF.shT.row i hi;refine xC (by omega) λt h1 h2=>?_
   have:=hr t (by omega);unfold ent at this;rw[qZ,qV h1,qZ (l:=T.getD i []),qV h2]at this;exact this
  have eset:(T.take i++[List.replicate m 0]).set i r=T.take (i+1):=by
   rw[xE _ _ (by omega),htl,xI,er];exact qnx (by omega)
  rw[eset];simp only[r30_20,SS,reduceIte,qQ,f32,w5];refine⟨k,_,_,by omega,⟨i+1,by omega,rfl,?_,?_,?_,?_,?_,?_⟩,.refl⟩
  all_goals simp only[UU,qQ,reduceIte, *]
 ·have him:i=m:=by omega
  have htl:T.take i=T:=xZ (by rw[hF.shT.len];omega);rw[htl];exact hQ _ (by exact e3) (by exact e4) (by exact e5) (by exact e6)
end
end Go.Proofs.YtgfbaioffpcelaaGreatDoor
namespace Go.Det
structure Part(n:Nat)(a:Nat->Row)(k:Nat):Prop where
 pos:∀t,t<k->0<lead a (t+1)
 lt:∀t,t<k->lead a (t+1)<65536
 sized:∀t i,t<k->i<n->t<i->2*stg a t i t<=lead a (t+1)/\ -(2*stg a t i t)<=lead a (t+1)
 lov:∀t,t<k->3*(lead a (t+1)*lead a (t+1))<=4*(lead a t*lead a (t+2)+stg a t (t+1) t*stg a t (t+1) t)
theorem Part.zero{n:Nat}{a:Nat->Row}:Part n a 0:=⟨λ_ h=>absurd h (by omega),λ_ h=>absurd h (by omega),λ_ _ h=>absurd h (by omega),λ_ h=>absurd h (by omega)⟩
theorem Part.pos'{n k:Nat}{a:Nat->Row}(h:Part n a k):∀t,t<=k->0<lead a t:=by
 intro t ht;cases t with
 |zero=>rw[zat];decide
 |succ t=>exact h.pos t (by omega)
theorem Part.ne{n k:Nat}{a:Nat->Row}(h:Part n a k):∀t,t<=k->lead a t≠0:=λt ht=>by have:=h.pos' t ht;omega
theorem Part.lt'{n k:Nat}{a:Nat->Row}(h:Part n a k):∀t,t<=k->lead a t<65536:=by
 intro t ht;cases t with
 |zero=>rw[zat];decide
 |succ t=>exact h.lt t (by omega)
theorem Part.next{n k:Nat}{a:Nat->Row}(h:Part n a k)(h1:0<lead a (k+1))(h2:lead a (k+1)<65536)(h3:∀i,i<n->k<i->2*stg a k i k<=lead a (k+1)/\ -(2*stg a k i k)<=lead a (k+1))
  (h4:3*(lead a (k+1)*lead a (k+1))<=4*(lead a k*lead a (k+2)+stg a k (k+1) k*stg a k (k+1) k)):Part n a (k+1):=by
 have sp:∀t,t<k+1->t<k\/t=k:=λt ht=>by omega
 refine⟨λt ht=>?_,λt ht=>?_,λt i ht hi hti=>?_,λt ht=>?_⟩
 ·rcases sp t ht with e | e
  ·exact h.pos t e
  ·rw[e];exact h1
 ·rcases sp t ht with e | e
  ·exact h.lt t e
  ·rw[e];exact h2
 ·rcases sp t ht with e | e
  ·exact h.sized t i e hi hti
  ·subst e;exact h3 i hi hti
 ·rcases sp t ht with e | e
  ·exact h.lov t e
  ·subst e;exact h4
theorem Part.red{n:Nat}{a:Nat->Row}(h1:1<=n)(h8:n<=8)(hs:∀i j,i<n->j<n->a i j=a j i)(h:Part n a (n-1))(hp:0<lead a n)(hd:lead a n<=10000):Red n a:=by
 refine⟨h1,h8,hs,λk hk=>?_,hd,λi j hi hj=>h.sized j i (by omega) hi hj,λi h0 hi=>?_⟩
 ·rcases qC k (n-1)with e | e
  ·exact h.pos k e
  ·have:k+1=n:=by omega
   rw[this];exact hp
 ·have:=h.lov (i-1) (by omega);have e1:i-1+1=i:=by omega
  have e2:i-1+2=i+1:=by omega
  rw[e1,e2]at this;exact this
theorem Part.entry{n:Nat}{a:Nat->Row}(hs:∀i j,i<n->j<n->a i j=a j i)(hb:∀i j,i<n->j<n->a i j<=262144/\ -262144<=a i j):∀k,k<n->Part n a k->∀i j,i<n->j<n->k<=i->k<=j->
  stg a k i j<=lead a k*(262144+16384*(k:Int))/\ -(lead a k*(262144+16384*(k:Int)))<=stg a k i j:=by
 intro k
 induction k with
 |zero=>
  intro _ _ i j hi hj _ _;rw[zda,zat];have:=hb i j hi hj;omega
 |succ k ih=>
  intro hk h i j hi hj h1 h2;have hpre:Part n a k:=⟨λt ht=>h.pos t (by omega),λt ht=>h.lt t (by omega),λt i ht=>h.sized t i (by omega),λt ht=>h.lov t (by omega)⟩
  obtain⟨x1,x2⟩:=ih (by omega) hpre i j hi hj (by omega) (by omega);have hn:=hpre.ne;have e:=zcg hn i j;obtain⟨u1,u2⟩:=h.sized k i (by omega) hi (by omega);obtain⟨v1,v2⟩:=h.sized k j (by omega) hj (by omega);rw[zge hs k (by omega) hn k j (by omega) hj (by omega) (by omega)]at e;have p:=hpre.pos' k (qU _);have p1:=h.pos k (by omega);have q1:=h.lt k (by omega);have:=jfx (by omega) (by omega) (by omega) e x1 x2 u1 u2 v1 v2;have c:(262144+16384*(k:Int)+16384)=262144+16384*((k+1:Nat):Int):=by omega
  rw[c]at this;exact this
theorem Part.entry35{n k:Nat}{a:Nat->Row}(h8:n<=8)(hs:∀i j,i<n->j<n->a i j=a j i)(hb:∀i j,i<n->j<n->a i j<=262144/\ -262144<=a i j)(hk:k<n)(h:Part n a k){i j:Nat}(hi:i<n)(hj:j<n)(h1:k<=i)(h2:k<=j):
  stg a k i j<=34359738368/\ -34359738368<=stg a k i j:=by
 obtain⟨e1,e2⟩:=Part.entry hs hb k hk h i j hi hj h1 h2;have p:=h.pos' k (qU _);have q:=h.lt' k (qU _)
 have c:lead a k*(262144+16384*(k:Int))<=65536*524288:=by
  have m1:lead a k*(262144+16384*(k:Int))<=65536*(262144+16384*(k:Int)):=qW (by omega) (by omega);have m2:(65536:Int)*(262144+16384*(k:Int))<=65536*524288:=by omega
  omega
 omega
theorem Red.part{n:Nat}{a:Nat->Row}(h:Red n a){k:Nat}(hk:k+1<n):0<lead a (k+1)/\lead a (k+1)<65536/\(∀i,i<n->k<i->2*stg a k i k<=lead a (k+1)/\ -(2*stg a k i k)<=lead a (k+1))/\
  3*(lead a (k+1)*lead a (k+1))<=4*(lead a k*lead a (k+2)+stg a k (k+1) k*stg a k (k+1) k):=by
 have:=h.minor (k:=k+1) (by omega);refine⟨h.pos k (by omega),by omega,λi hi hki=>h.sized i k hi hki,?_⟩;have:=h.lov (k+1) (by omega) hk;exact this
theorem qny{n k:Nat}{a:Nat->Row}(h:Part n a k)(i j:Nat):Int.tdiv (lead a (k+1)*stg a k i j-stg a k i k*stg a k k j) (lead a k)=stg a (k+1) i j:=by
 rw[<-zcg h.ne i j,Int.mul_tdiv_cancel_left _ (h.ne k (qU _))]
