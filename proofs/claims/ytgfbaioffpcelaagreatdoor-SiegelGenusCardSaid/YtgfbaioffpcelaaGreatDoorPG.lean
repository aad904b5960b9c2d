/- A part of the proof. -/
import Derived.Test.YtgfbaioffpcelaaGreatDoorPF
set_option linter.all false
set_option maxRecDepth 100000
open Nat renaming reduceEqDiff -> qQ, reduceLeDiff -> qX, reduceAdd -> qJ, pow_le_pow_right -> qW, le_refl -> qV, mul_comm -> qC, eq_zero_or_pos -> qD, mul_le_mul_right -> qE, pow_succ -> qG, lt_or_ge -> qH, mul_assoc -> qM, dvd_of_mod_eq_zero -> qN, pow_zero -> qO, mul_le_mul -> qP, le_mul_of_pos_right -> qT, one_mul -> xQ, dvd_trans -> xX, mod_eq_zero_of_dvd -> xJ, mod_two_eq_zero_or_one -> xU, zero_add -> xI, pow_one -> xM, mul_pos -> xN, pow_le_pow_left -> xP, mul_le_mul_left -> xS, eq_of_mul_eq_mul_left -> xT, mul_one -> yX, dvd_mul_right -> yZ, mul_div_cancel_left -> yW, sub_self -> yV, dvd_zero -> yH, mul_mod_right -> yI, dvd_mul_left -> yM, one_ne_zero -> yO
open List renaming replicate_zero -> qZ, append_nil -> qK, length_cons -> qY, length_append -> qU, getElem?_cons_zero -> qI, getElem?_cons_succ -> qL, take_of_length_le -> xZ, length_nil -> xK, set_append_right -> xW, mem_cons_of_mem -> xV, cons_append -> xA, set_cons_succ -> xC, set_cons_zero -> xD, mem_cons_self -> xE, mapM_cons -> xH, append_assoc -> xL, getElem?_eq_getElem -> yJ, length_map -> yY, drop_zero -> yA, mem_append_left -> yB, map_append -> yP
open Go.AL.AV.closed renaming closedL -> qA
open Int renaming sign_eq_one_of_pos -> qB, sign_eq_neg_one_of_neg -> qS, tmod_eq_emod_of_nonneg -> xY, natCast_mul -> xB, emod_lt_of_pos -> xG, emod_nonneg -> xO, toNat_natCast -> yQ, toNat_zero -> yU, emod_emod_of_dvd -> yC, toNat_of_nonneg -> yD, reduceNeg -> yE, tmod_eq_emod -> yN
open Bool renaming and_self -> yK, and_true -> yG
open Option renaming bind_some -> yL
namespace Go.Proofs.YtgfbaioffpcelaaGreatDoor
open Go Go.AL Go.Proofs Go.Limb Go.Det
theorem qnz{n k:Nat}{M:List (List Int)}(hs:∀i j,i<n->j<n->rowF M i j=rowF M j i)(hP:Part n (rowF M) k)(hk:k+1<n)(hsh:qek (n-k) (zcb n k M)):∀i,i<n-k-> -65536<=ent (zcb n k M) i 0/\ent (zcb n k M) i 0<=65536/\ -65536<=ent (zcb n k M) 0 i/\ent (zcb n k M) 0 i<=65536:=by
 intro i hi
 have e:ent (zcb n k M) 0 i=ent (zcb n k M) i 0:=by
  rw[zde (by omega) hi,zde hi (by omega)];exact zge hs k (by omega) hP.ne _ _ (by omega) (by omega) (by omega) (by omega)
 rw[e];obtain⟨h1,h2,h3⟩:=hsh;rcases qD i with h0 | h0
 ·subst h0;omega
 ·have:=h3 i h0 hi;omega
theorem ztd{n k:Nat}{a:Nat->Det.Row}(n8:n<=8)(hs:∀i j,i<n->j<n->a i j=a j i)(hb:∀i j,i<n->j<n->a i j<=262144/\ -262144<=a i j)(hP:Part n a k)(hk:k+1<n)(h1:0<lead a (k+1))(h2:lead a (k+1)<65536)
  (h3:∀i,i<n->k<i->2*stg a k i k<=lead a (k+1)/\ -(2*stg a k i k)<=lead a (k+1)) {i j:Nat} (hi:i<n) (hj:j<n) (hki:k<i) (hkj:k<j):stg a (k+1) i j<=34359738368/\ -34359738368<=stg a (k+1) i j:=by
 obtain⟨x1,x2⟩:=Part.entry hs hb k (by omega) hP i j hi hj (by omega) (by omega);have hn:=hP.ne;have e:=zcg hn i j;obtain⟨u1,u2⟩:=h3 i hi hki;obtain⟨v1,v2⟩:=h3 j hj hkj;rw[zge hs k (by omega) hn k j (by omega) hj (by omega) (by omega)]at e;have p:=hP.pos' k (qV _);obtain⟨y1,y2⟩:=jfx (by omega) (by omega) (by omega) e x1 x2 u1 u2 v1 v2
 have c:lead a (k+1)*(262144+16384*(k:Int)+16384)<=65536*524288:=by
  have m1:lead a (k+1)*(262144+16384*(k:Int)+16384)<=65536*(262144+16384*(k:Int)+16384):=Int.mul_le_mul_of_nonneg_right (by omega) (by omega);omega
 omega
theorem qhl{M:List (List Int)}{a:AV}(h:ImV M a)(h62:M.length<4611686018427387904)(hr62:∀i,i<M.length->(M.getD i []).length<4611686018427387904){b:Bool}(hb:b=true↔zqz M/\Red M.length (rowF M)):Rt 30 [a] [] (.bool b) []:=by
 have no:¬(zqz M/\Red M.length (rowF M))->b=false:=by
  intro hn;cases b with
  |false=>rfl
  |true=>exact absurd (hb.1 rfl) hn
 refine oF o30 ?_;by_cases hS:zqz M;rotate_left
 ·obtain rfl:=no (λe=>hS e.1);have t1:=qxi h h62 hr62 (b:=false) ⟨λe=>by simp at e,λe=>absurd e hS⟩;obtain⟨rows,c,rfl,hl,hr⟩:=h.val;simp only[c30,r30_0,r30_1,SS,reduceCtorEq,reduceIte];refine zaa t1 ?_;simp only[SS,fC,reduceIte,qQ];simp only[r30_2,SS];exact dR
 have t1:=qxi h h62 hr62 (b:=true) ⟨λ_=>hS,λ_=>rfl⟩;have hf0:=h.fit;have himv:=h;obtain⟨rows,c,rfl,hl,hr⟩:=h.val;obtain⟨n1,n8,hsh,hent⟩:=hS;generalize hn:M.length=n at*;have hsym:∀i j,i<n->j<n->rowF M i j=rowF M j i:=λi j hi hj=>(hent i j hi hj).1
 have hbnd:∀i j,i<n->j<n->rowF M i j<=262144/\ -262144<=rowF M i j:=λi j hi hj=>by have:=hent i j hi hj;show ent M i j<=_/\_<=ent M i j;omega
 simp only[c30,r30_0,r30_1,SS,reduceCtorEq,reduceIte];refine zaa t1 ?_;simp only[SS,fC,reduceIte,qQ];simp only[r30_3,r30_4,SS,reduceCtorEq,reduceIte,qQ]
 refine zaj (λq E H=>∃k sr sc,k+q+1=n/\Part n (rowF M) k/\ImV (zcb n k M) (.vec sr (n-k) sc)/\E 3= .vec sr (n-k) sc/\E 4= .int .i64 (lead (rowF M) k)/\H=[]) (n:=n-1)
  ⟨0,rows,c,by omega,Part.zero,by rw[qhj hsh];exact himv,by rfl,by rfl,rfl⟩ ?_
 rintro q E H ⟨k,sr,sc,hkq,hP,hV,e3,e4,rfl⟩;refine wM ?_;have hsS:=zra n k M;obtain⟨srw,src,hse,hsl,hsr⟩:=hV.val;rw[hsS.len]at hse hsl hsr;injection hse with hs1 hs2 hs3
 subst hs1 hs3;obtain⟨c0,hc0⟩:=hsr 0 (by omega);have l0:=hsS.row 0 (by omega);have g00:(i64z ((zcb n k M).getD 0 [])).getD 0 .junk= .int .i64 (ent (zcb n k M) 0 0):=zck _ 0 (by omega) _;have e00:ent (zcb n k M) 0 0=lead (rowF M) (k+1):=by rw[zde (by omega) (by omega),zbh];rfl
 simp only[l30_0,r30_5,SS,reduceCtorEq,reduceIte,qQ,e3];refine⟨λhgt=>?_,λhle=>?_⟩
 ·obtain⟨m,hm⟩:∃m,n-k=m+1:=⟨n-k-1,by omega⟩
  have hk1:k+1<n:=by omega
  have hbig:∀i j,i<n-k->j<n-k-> -34359738368<=ent (zcb n k M) i j/\ent (zcb n k M) i j<=34359738368:=by
   intro i j hi hj;rw[zde hi hj];have:=hP.entry35 n8 hsym hbnd (by omega) (i:=k+i) (j:=k+j) (by omega) (by omega) (by omega) (by omega);omega
  simp only[r30_6,r30_7,SS,fC,reduceIte,qQ,e3,hc0,hsl,l0,g00,zbe,yU];refine⟨⟨by omega,by omega⟩,by omega,⟨by omega,by omega⟩,by omega,?_⟩;by_cases hsp:qek (n-k) (zcb n k M);rotate_left
  ·have hbf:=no (λe=>hsp (by
    obtain⟨r1,r2,r3,_⟩:=e.2.part hk1;refine⟨by rw[e00];exact r1,by rw[e00];exact r2,λi h0 hi=>?_⟩;rw[e00,zde hi (by omega)];exact r3 (k+i) (by omega) (by omega)))
   subst hbf;have t2:=qxj hV hsS (by omega) (λi hi=>by have:=hbig i 0 hi (by omega);omega) (b:=false) ⟨λe=>by simp at e,λe=>absurd e hsp⟩;refine zaa t2 ?_;simp only[SS,fC,reduceIte,qQ];simp only[r30_8,SS];exact dR
  have t2:=qxj hV hsS (by omega) (λi hi=>by have:=hbig i 0 hi (by omega);omega) (b:=true) ⟨λ_=>hsp,λ_=>rfl⟩;refine zaa t2 ?_;simp only[SS,fC,reduceIte,qQ];have w1:IntKind.i64.wrap (((n-k:Nat):Int)-1)=(m:Nat):=wQ (by omega);simp only[r30_9,SS,reduceIte,qQ,e3,w1,yQ];refine⟨by decide,⟨by omega,by omega,by omega,by omega⟩,?_⟩;obtain⟨sp1,sp2,sp3⟩:=hsp;have hlow:=qnz hsym hP hk1 ⟨sp1,sp2,sp3⟩
  have sz:∀i,i<n->k<i->2*stg (rowF M) k i k<=lead (rowF M) (k+1)/\ -(2*stg (rowF M) k i k)<=lead (rowF M) (k+1):=by
   intro i hi hki;have:=sp3 (i-k) (by omega) (by omega);rw[e00,zde (by omega) (by omega),show k+(i-k)=i by omega]at this;exact this
  rw[e00]at sp1 sp2
  have hTs:Shp m (zcb n (k+1) M):=by
   have:=zra n (k+1) M;rw[show n-(k+1)=m by omega]at this;exact this
  have hq:∀i j,i<m->j<m->Int.tdiv (lead (rowF M) (k+1)*ent (zcb n k M) (i+1) (j+1)-ent (zcb n k M) (i+1) 0*ent (zcb n k M) 0 (j+1)) (lead (rowF M) k)=ent (zcb n (k+1) M) i j:=by
   intro i j hi hj;rw[zde (by omega) (by omega),zde (by omega) (by omega),zde (by omega) (by omega),zde (by omega) (by omega)];rw[show k+(i+1)=k+1+i by omega,show k+(j+1)=k+1+j by omega];exact qny hP _ _
  have hF:StF m (zcb n k M) (zcb n (k+1) M) sr sc (lead (rowF M) (k+1)) (lead (rowF M) k):=by
   refine⟨by omega,by rw[<-hm];exact hsS,hTs,λi hi=>?_,by omega,e00.symm,⟨sp1,sp2⟩,hP.ne k (qV _),λi j hi hj=>hbig i j (by omega) (by omega),λi hi=>hlow i (by omega),hq⟩;obtain⟨c',hc'⟩:=hsr i (by omega);rw[hsS.row i (by omega),hm]at hc';exact⟨c',hc'⟩
  simp only[r30_10,SS,reduceIte,qQ];have hb0:[some (List.replicate m (AV.vec [] 0 (some 0)))]=bH m m []:=rfl;rw[hb0];refine qhk hF (by simp only[UU,qQ,e3,hm]) (by simp only[UU,qQ,e4]) (by simp only[UU,qQ,reduceIte,e00]) (by simp only[UU,qQ,reduceIte]) (by simp only[UU,qQ,reduceIte]) (by simp only[UU,qQ,reduceIte]) ?_;intro E' f3 f4 f5 f6;obtain⟨c1,hc1⟩:=hF.val 1 (by omega);have l1:=hF.shS.row 1 (by omega);have g10:(i64z ((zcb n k M).getD 1 [])).getD 0 .junk= .int .i64 (ent (zcb n k M) 1 0):=zck _ 0 (by omega) _;have lT:=hTs.row 0 (by omega);have gT:(i64z ((zcb n (k+1) M).getD 0 [])).getD 0 .junk= .int .i64 (ent (zcb n (k+1) M) 0 0):=zck _ 0 (by omega) _;have eT:ent (zcb n (k+1) M) 0 0=lead (rowF M) (k+2):=by rw[zde (by omega) (by omega),zbh (rowF M) (k+1)]
  have eL:ent (zcb n k M) 1 0=stg (rowF M) k (k+1) k:=by rw[zde (by omega) (by omega)];rfl
  have go:getB (bH m m (zcb n (k+1) M)) 0=some (outS m m m):=by rw[zen,hTs.len]
  have gol:=zfl (N:=m) (n:=m) (i:=m) (qV _);have gog:=zfm (N:=m) (n:=m) (i:=m) (k:=0) (by omega);have gr:=zgq (N:=m) (n:=m) (i:=0) (rows:=zcb n (k+1) M) (by rw[hTs.len];omega);have nb:=ztd n8 hsym hbnd hP hk1 sp1 sp2 sz (i:=k+1) (j:=k+1) hk1 hk1 (by omega) (by omega);rw[<-zbh]at nb;have lk:=hP.lt' k (qV _);have lk0:=hP.pos' k (qV _);have sl:=sz (k+1) hk1 (by omega);have p1:=zji (x:=lead (rowF M) k) (y:=lead (rowF M) (k+2)) (a:=65536) (b:=34359738368) (by omega) (by omega) nb.1 nb.2;have p2:=zji (x:=stg (rowF M) k (k+1) k) (y:=stg (rowF M) k (k+1) k) (a:=65536) (b:=65536) (by omega) (by omega) (by omega) (by omega);have p3:=zji (x:=3*lead (rowF M) (k+1)) (y:=lead (rowF M) (k+1)) (a:=262144) (b:=65536) (by omega) (by omega) (by omega) (by omega);have w2:IntKind.i64.wrap (lead (rowF M) k*lead (rowF M) (k+2))=lead (rowF M) k*lead (rowF M) (k+2):=w64 (by omega) (by omega);have w3:IntKind.i64.wrap (stg (rowF M) k (k+1) k*stg (rowF M) k (k+1) k)=stg (rowF M) k (k+1) k*stg (rowF M) k (k+1) k:=w64 (by omega) (by omega);have w4:IntKind.i64.wrap (lead (rowF M) k*lead (rowF M) (k+2)+stg (rowF M) k (k+1) k*stg (rowF M) k (k+1) k)=lead (rowF M) k*lead (rowF M) (k+2)+stg (rowF M) k (k+1) k*stg (rowF M) k (k+1) k:=w64 (by omega) (by omega);have w5:IntKind.i64.wrap (4*(lead (rowF M) k*lead (rowF M) (k+2)+stg (rowF M) k (k+1) k*stg (rowF M) k (k+1) k))=4*(lead (rowF M) k*lead (rowF M) (k+2)+stg (rowF M) k (k+1) k*stg (rowF M) k (k+1) k):=w64 (by omega) (by omega);have w6:IntKind.i64.wrap (3*lead (rowF M) (k+1))=3*lead (rowF M) (k+1):=w64 (by omega) (by omega);have w7:IntKind.i64.wrap (3*lead (rowF M) (k+1)*lead (rowF M) (k+1))=3*lead (rowF M) (k+1)*lead (rowF M) (k+1):=w64 (by omega) (by omega);have hlenS:=hF.len;simp only[SS,fC,reduceCtorEq,reduceIte,qJ,qQ,qX,r30_21,r30_22,f3,f4,f5,f6,hc1,hlenS,l1,g10,zbe,yU,Int.toNat_one,go,gol,gog,gr,lT,gT,eT,eL,w2,w3,w4,w5,w6,w7];have assoc:3*lead (rowF M) (k+1)*lead (rowF M) (k+1)=3*(lead (rowF M) (k+1)*lead (rowF M) (k+1)):=Int.mul_assoc _ _ _;refine⟨⟨by omega,by omega⟩,by omega,⟨by omega,by omega⟩,⟨by omega,by omega⟩,by omega,⟨by omega,by omega⟩,by omega,λhno=>?_,λhyes=>?_⟩
  ·have hbf:=no (λe=>by
    obtain⟨_,_,_,r4⟩:=e.2.part hk1;omega)
   subst hbf;simp only[r30_23,SS];exact dR
  ·obtain⟨q,rfl⟩:∃q',q=q'+1:=⟨q-1,by omega⟩
   have hP':=hP.next sp1 sp2 sz (by omega);have hnk:n-(k+1)=m:=by omega
   have key3:∀E:Env,E 3= .sl 0 0 m 1 (some m)->frzE 0 3 (bH m m (zcb n (k+1) M)) E 3= .vec (zbt m (zcb n (k+1) M)) (n-(k+1)) (some m):=by
    intro E h;unfold frzE;rw[h,if_neg (by simp[AV.under]),qnl hTs.len hTs.row,hnk];rfl
   have key4:∀(E:Env) (z:Int),E 4= .int .i64 z->frzE 0 3 (bH m m (zcb n (k+1) M)) E 4= .int .i64 z:=by
    intro E z h;unfold frzE;rw[h];rfl
   have hfit:∀i j,In64 (ent (zcb n (k+1) M) i j):=by
    intro i j;by_cases hij:i<m/\j<m
    ·rw[zde (by omega) (by omega)];have:=ztd n8 hsym hbnd hP hk1 sp1 sp2 sz (i:=k+1+i) (j:=k+1+j) (by omega) (by omega) (by omega) (by omega);unfold In64;omega
    ·rw[hTs.out (by omega)];unfold In64;omega
   have hV':=zez (N:=m) (n:=m) (c:=some m) hTs.len hTs.row hfit;simp only[r30_24,SS,reduceIte,qQ,f5,f6];refine⟨q,frzE 0 3 (bH m m (zcb n (k+1) M)) _,List.take 0 (bH m m (zcb n (k+1) M)),by omega,⟨k+1,zbt m (zcb n (k+1) M),some m,by omega,hP',by rw[hnk];exact hV',key3 _ (by rfl),key4 _ _ (by rfl),rfl⟩,zhp 0 3 (qV _) (Nat.zero_le _) (λi cs h=>absurd h (by omega))⟩
 ·have hkn:k+1=n:=by omega
  have eN:ent (zcb n k M) 0 0=lead (rowF M) n:=by rw[e00,hkn]
  have hfit0:=hV.fit 0 0;simp only[r30_25,SS,fC,reduceIte,qQ,e3,hc0,hsl,l0,g00,zbe,yU,eN];have hkk:k=n-1:=by omega
  rw[hkk]at hP;refine⟨⟨by omega,by omega⟩,by omega,⟨by omega,by omega⟩,by omega,λhpos=>⟨⟨by omega,by omega⟩,by omega,⟨by omega,by omega⟩,by omega,?_⟩,λhneg=>?_⟩
  ·have hbv:b=decide (lead (rowF M) n<=10000):=by
    by_cases hd:lead (rowF M) n<=10000
    ·rw[decide_eq_true hd];exact hb.2 ⟨by unfold zqz;rw[hn];exact⟨n1,n8,hsh,hent⟩,hP.red n1 n8 hsym hpos hd⟩
    ·rw[decide_eq_false hd];exact no (λe=>hd e.2.small)
   subst hbv;exact dR
  ·have hbf:=no (λe=>by have:=e.2.pos' n (qV _);omega);subst hbf;have d0:decide (0<lead (rowF M) n)=false:=decide_eq_false hneg;simp only[d0];exact dR
end Go.Proofs.YtgfbaioffpcelaaGreatDoor
namespace Go.Proofs.YtgfbaioffpcelaaGreatDoor
open Go Go.AL Go.Proofs Go.Det
theorem zmg{n:Nat}{M:List (List Int)}(hS:Shp n M)(h:Red n (rowF M))(i j:Nat):ent M i j<=180224/\ -180224<=ent M i j:=by
 by_cases hi:i<n/\j<n
 ·exact h.entry hi.1 hi.2
 ·rw[hS.out (by omega)];omega
theorem zke{n:Nat}{M:List (List Int)}(hS:Shp n M)(h:Red n (rowF M))(i j:Nat):In64 (ent M i j):=by
 have:=zmg hS h i j;unfold In64;omega
theorem qoa{n:Nat}{M:List (List Int)}(hS:Shp n M)(h:Red n (rowF M)):zqz M:=by
 have hl:=hS.len;refine⟨by rw[hl];exact h.n1,by rw[hl];exact h.n8,by rw[hl];exact hS,λi j hi hj=>?_⟩;rw[hl]at hi hj;have:=zmg hS h i j;exact⟨h.sym i j hi hj,by omega,by omega⟩
theorem jcp{n:Nat}{M:List (List Int)}(hS:Shp n M)(h:Red n (rowF M)):Rt 30 [.vec (zbt n M) n (some n)] [] (.bool true) []:=by
 have h8:=h.n8;have hIm:ImV M (.vec (zbt n M) n (some n)):=zez hS.len hS.row (zke hS h);refine qhl hIm (by rw[hS.len];omega) (λi hi=>by rw[hS.row i (by rw[hS.len]at hi;exact hi)];omega) ⟨λ_=>⟨qoa hS h,by rw[hS.len];exact h⟩,λ_=>rfl⟩
open Go.Limb
end Go.Proofs.YtgfbaioffpcelaaGreatDoor
namespace Go.Proofs.YtgfbaioffpcelaaGreatDoor
open Go Go.AL Go.Proofs Go.Det
theorem qur{n m:Nat}{M:List (List Int)}{hs:List AV}{ch:Option Nat}(hIm:ImV M (.vec hs n ch))(hS:Shp n M)(hsy:∀i j,i<n->j<n->ent M i j=ent M j i)(hn:1<=n/\n<=8)(hm:2<=m)(hm2:m<=2097152)(hpow:m^n<2^60):
  ∃fin:List Nat,fin.length=m/\(∀t,fin.getD t 0=(Count.allV m n).countP λy=>decide (Count.nrm (gN n M m) n y%m=t))/\Rt 151 [.vec hs n ch,.int .i64 (m:Int)] [] (.vec (ints fin) m (some m)) []:=by
 have hTs:Shp n (modM n M (m:Int)):=zci _ _
 have hgs:∀j k,j<n->k<n->Count.ent (gN n M m) j k=Count.ent (gN n M m) k j:=by
  intro j k hj hk;rw[qnu,qnu];unfold modM;rw[zbl hj hk,zbl hk hj,hsy j k hj hk]
 obtain⟨fin,h1,h2,h3⟩:=Count.runC_ok (g:=gN n M m) (n:=n) (M:=m) (by omega) hgs;refine⟨fin,h2,h3,?_⟩;have tR:=qhg hIm hS hn (m:=(m:Int)) (by omega);refine zqy (g:=gN n M m) (by omega) (by omega) (by omega) hpow tR (by simp[zbt,hTs.len]) (λi hi=>⟨some n,?_⟩) (λi hi=>?_) (λi hi a ha=>?_) h1 h2
 ·have hi':i<(modM n M (m:Int)).length:=by rw[hTs.len];exact hi
  rw[qei,<-qnv (λz hz=>(qej (by omega) z hz).1)];unfold zbt;rw[List.getElem?_map,yJ hi',List.getD_eq_getElem?_getD,yJ hi'];rfl
 ·rw[qei,yY,hTs.row i hi]
 ·rw[qei]at ha;obtain⟨z,hz,rfl⟩:=List.mem_map.1 ha;have:=qej (by omega) z hz;omega
end Go.Proofs.YtgfbaioffpcelaaGreatDoor
namespace Go.Proofs.YtgfbaioffpcelaaGreatDoor
open Go Go.AL Go.Proofs
noncomputable section
open Tryz
def q12:=V (RS f12=·)
def q48:=V (RS f48=·)
def q58:=V (RS f58=·)
def q146:=V (RS f146=·)
def r146_0:=X q146 0
def r146_1:=X q146 1
def r146_2:=X q146 2
def r146_3:=X q146 3
def r146_4:=X q146 4
def r146_5:=X q146 5
def r146_6:=X q146 6
def c146:CC:=sR r146_0<|sR r146_1<|qR r146_2 19 r146_3<|sR r146_4<|sR r146_5<|sR r146_6 .ret
theorem o146:FnI 146 24 f146 c146 [.tmp 6]:=oM func146
end
end Go.Proofs.YtgfbaioffpcelaaGreatDoor
namespace Go.Proofs.YtgfbaioffpcelaaGreatDoor
open Go Go.AL Go.Proofs Go.Limb
theorem okV:okC (okFn Tryz.prog) 146=true:=ztr qkz (by decide)
theorem jje{x d s e:Int}{r1 r2 d1 d2:AV}(hx:zap x (.agg [r1,r2]))(hd:zap d (.agg [d1,d2]))(hx0:0<=x)(hd0:0<d)(h:x%d≠0):
  Rt 146 [.agg [d1,d2],.int .i64 s,.ptr 0 0,.ptr 1 0] [some [r1,r2],some [.int .i64 e]] (.bool false) [some [r1,r2],some [.int .i64 e]]:=by
 obtain⟨v,w,iv,iw,t1⟩:=zvj hx hd (by omega) (.inl hx0);have t2:=zpx iw;have hs:(x%d).sign=1:=qB (by have:=xO x (show d≠0 by omega);omega);rw[hs]at t2;obtain⟨lr,cr,rfl,rfl⟩:=zau hx;obtain⟨ld,cd,rfl,rfl⟩:=zau hd;obtain⟨lv,cv,rfl⟩:=iv.shape;obtain⟨lw,cw,rfl⟩:=iw.shape;refine oF o146 ?_;simp only[c146,r146_0,r146_1,SS,reduceCtorEq,reduceIte,qJ,qQ,qX];refine zaa t1 ?_;simp only[zaf,zac,qZ,qK,SS,reduceIte,qJ,qQ,qX,qI,qL];simp only[r146_2,SS,reduceIte,qJ,qQ,qX];refine zaa t2 ?_;simp only[zaf,zac,qZ,qK,SS,fC,reduceIte,qQ,show decide ((1:Int)≠0)=true from rfl];simp only[r146_3,SS]
 exact⟨.inl trivial,_,rfl,.drop _ _ rfl (by
  intro i cs hi hc;rcases(by omega:i=0\/i=1)with rfl | rfl
  ·cases hc;exact zbd _ _ (by simp only[qA,AV.closed,yK])
  ·cases hc;rfl)⟩
theorem jgo{p x:Nat}{v:AV}(hp:PrmZ (p:Int))(hp2:p<=9973)(hx1:1<=x)(hx:x<=2000)(hnd:x%p≠0)(iv:zap (x:Int) v):∃r,zap (x:Int) r/\Rt 61 [v,.int .i64 (p:Int)] [] (.tup [.int .i64 0,r,.int .i64 0]) []:=by
 have hp':2<=p:=by have:=hp.1;omega
 have ti:=prIs (z:=(p:Int)) (b:=true) ⟨λ_=>hp,λ_=>rfl⟩;have ts:=zpx iv;rw[qB (by omega)]at ts;obtain⟨r,ir,tn⟩:=zna iv;obtain⟨w,iw,tw⟩:=znp (p:Int) (by omega) (by omega);obtain⟨lv,cv,rfl⟩:=iv.shape;obtain⟨lr,cr,rfl⟩:=ir.shape;obtain⟨lw,cw,rfl⟩:=iw.shape;have td:=jje (s:=1) (e:=0) ir iw (by omega) (by omega) (by omega);have hld:ldSz Tryz.prog 32=some (true,2):=by kernel_rfl
 have hcr:qA [.bool (decide ((x:Int)<0)),.vec (u32s lr) lr.length cr]=true:=by simp only[qA,AV.closed,yK]
 refine⟨_,ir,?_⟩;refine oF o61 ?_;simp only[c61,r61_0,r61_1,SS,reduceCtorEq,reduceIte,qQ];refine zaa ti ?_;simp only[zaf,zac,qZ,qK,SS,fC,reduceIte,qQ];simp only[r61_3,SS,reduceIte,qJ,qQ,qX];refine zaa ts ?_;have d1:decide ((1:Int)=0)=false:=by decide
 simp only[zaf,zac,qZ,qK,SS,fC,reduceIte,qQ,d1];simp only[r61_5,SS,reduceIte,qJ,qQ,qX];refine zaa tn ?_;simp only[zaf,zac,qZ,qK,SS,reduceIte,qJ,qQ,qX];simp only[r61_6,r61_7,r61_8,SS,reduceIte,qJ,qQ,qX];refine zaa tw ?_;simp only[zaf,zac,qZ,qK,SS,reduceIte,qJ,qQ,qX]
 refine zaj (λf E H=>H=[some [.bool (decide ((x:Int)<0)),.vec (u32s lv) lv.length cv],some [.bool false,.vec [] 0 (some 0)],some [.bool (decide ((x:Int)<0)),.vec (u32s lr) lr.length cr],some [.int .i64 0],some [.bool (decide ((p:Int)<0)),.vec (u32s lw) lw.length cw]]/\E 5= .ptr 1 0/\E 6= .int .i64 0/\E 7= .ptr 2 0/\E 8= .ptr 3 0/\E 9= .clo 146 [.ptr 2 0,.ptr 3 0]/\E 10= .sl 4 0 1 2 (some 1)) (n:=0)
  ⟨rfl,by rfl,by rfl,by rfl,by rfl,by rfl,by rfl⟩ ?_
 rintro f E H ⟨rfl,e5,e6,e7,e8,e9,e10⟩;refine wM ?_;have wk:IntKind.i64.wrap (((1:Nat):Int)-1)=0:=by decide
 have sh:IntKind.i64.wrap (1*2^min (Int.toNat 0) IntKind.i64.bits)=1:=by decide
 simp only[l61_0,r61_9,SS,reduceCtorEq,reduceIte,qJ,qQ,qX,e9,e10,wk,sh];refine⟨⟨by omega,by omega⟩,by decide,by omega,_,_,rfl,okV,?_⟩;refine zlv (i:=2) (j:=3) (args0:=[.agg [.bool (decide ((p:Int)<0)),.vec (u32s lw) lw.length cw],.int .i64 1,.ptr 0 0,.ptr 1 0]) td rfl rfl (by decide) ?_ ?_ ?_ hcr rfl hcr rfl
 ·have e:=zes (zan [2,3] 5) _ iw.closed;simp only[List.map_cons,List.map_nil,qY,xK,e];rfl
 rotate_left
 ·have:=zbd 2 _ (zao lw);simp[AV.under.underL,AV.under]
 simp only[zaf,zac,keys,qZ,qK,xC,xD,SS,fC,reduceIte,qQ];refine⟨rfl,?_⟩;have wk2:IntKind.i64.wrap (((1:Nat):Int)-2)= -1:=by decide
 simp only[r61_12,SS,reduceIte,qQ,e10,wk2]
 refine zaj (λf E H=>H=[some [.bool (decide ((x:Int)<0)),.vec (u32s lv) lv.length cv],some [.bool false,.vec [] 0 (some 0)],some [.bool (decide ((x:Int)<0)),.vec (u32s lr) lr.length cr],some [.int .i64 0],some [.bool (decide ((p:Int)<0)),.vec (u32s lw) lw.length cw]]/\E 5= .ptr 1 0/\E 7= .ptr 2 0/\E 8= .ptr 3 0/\E 12= .int .i64 (-1)) (n:=0)
  ⟨rfl,by exact e5,by exact e7,by exact e8,by rfl⟩ ?_
 clear e5 e6 e7 e8 e9 e10;rintro f E H ⟨rfl,e5,e7,e8,e12⟩;refine wM ?_;simp only[l61_1,r61_13,SS,fC,reduceCtorEq,reduceIte,qQ,e12,show decide ((0:Int)<= -1)=false from rfl];simp only[r61_16,SS,fC,reduceIte,qJ,qQ,qX,e5,e7,e8];refine⟨rfl,.inl trivial,.tup [.int .i64 0,.agg [.bool _,.vec _ _ _],.int .i64 0],?_,.drop _ _ rfl (by intro i cs h;omega)⟩;simp only[resA,xH,List.mapM_nil,zeh,hld,UU,qQ,reduceIte,e5,qan,qsv,need];rfl
end Go.Proofs.YtgfbaioffpcelaaGreatDoor
namespace Go.Proofs.YtgfbaioffpcelaaGreatDoor
open Go Go.AL Go.Proofs
inductive FL:Nat->List (Nat×Nat)->Prop
 |one:FL 1 []
 |cons {n p e m:Nat} {l:List (Nat×Nat)}:LF n p->2<=n->n=p^e*m->¬p∣m->1<=e->FL m l->FL n ((p,e)::l)
def pcL:List (Nat×Nat)->List AV
 | []=>[]
 |(p,e)::l=> .int .i64 (p:Int):: .int .i64 (e:Int)::pcL l
theorem zvz:∀a b,pcL (a++b)=pcL a++pcL b
 | [],b=>rfl
 |(p,e)::a,b=>by simp only[xA,pcL,zvz a b]
theorem zia:∀a,(pcL a).length=a.length*2
 | []=>rfl
 |(p,e)::a=>by simp only[pcL,qY,zia a];omega
theorem qob(n0 d:Nat)(H:Heap):∀a,(pcL a).mapM (frzI n0 H (d+1))=some (pcL a)
 | []=>rfl
 |(p,e)::a=>by
  simp only[pcL,xH,qob n0 d H a];rfl
theorem qxk{H:Heap}{id n:Nat}{l:List (Nat×Nat)}{x:Int}(hb:getB H id=some (pcL l))(hn:n=l.length):AL.Fin 0 (.tup [.sl id 0 n 2 none,.int .i64 x]) H (.tup [.vec (pcL l) n none,.int .i64 x]) []:=by
 refine .freeze 3 _ _ _ ?_ (by intro i cs h;omega);have e:=qob 0 0 H l
 have e2:frzI 0 H 2 (.sl id 0 n 2 none)=some (.vec (pcL l) n none):=by
  rw[frzI];simp only[Nat.not_lt_zero,if_false,hb,need,xI,hn,zia,qV,if_true,yA];rw[xZ (by rw[zia];omega),e];rfl
 show(([.sl id 0 n 2 none,.int .i64 x]:List AV).mapM (frzI 0 H 2)).map AV.tup=_
 rw[xH,e2,xH];rfl
def LstH(H:Heap)(v:AV)(cs:List AV)(n:Nat):Prop:=(v= .vec [] 0 (some 0)/\cs=[]/\n=0)\/∃id,v= .sl id 0 n 2 none/\getB H id=some cs/\0<n
theorem LstH.app{H:Heap}{v:AV}{cs:List AV}{n:Nat}(h:LstH H v cs n)(L:Heap):LstH (H++L) v cs n:=by
 rcases h with h | ⟨id,rfl,h,hn⟩
 ·exact .inl h
 ·exact .inr ⟨id,rfl,by rw[zbm (zam h)];exact h,hn⟩
theorem qbn{H:Heap}{n:Nat}{v:AV}{cs xs:List AV}(h:LstH H v cs n)(hl:cs.length=n*2)(hn:n<1100)(hx:xs.length=2)(hs:AV.scalL xs=true):
  ∃e rd,(∀n0,zby n0 (H.length+1) (H++[some xs]) 2 16 v (.sl H.length 0 1 2 (some 1))=some (.sl (H.length+1) 0 (n+1) 2 none,e,rd))/\LstH (zac e (H++[some xs]++[none])) (.sl (H.length+1) 0 (n+1) 2 none) (cs++xs) (n+1):=by
 have hg:getB (H++[some xs]) H.length=some xs:=zba
 have b1:4*(n+1)*16<=2^48:=by
  have:(2:Nat)^48=281474976710656:=rfl;omega
 have b2:n+1<2^62:=by
  have:(2:Nat)^62=4611686018427387904:=rfl;omega
 have hel:zea (H++[some xs]) 2 1 (.sl H.length 0 1 2 (some 1))=some (xs,[H.length]):=by
  simp only[zea,hg,need,qV,xI,xQ,hx,and_self,if_true];rw[yA,xZ (by omega)]
 have ht:cs.take (n*2)=cs:=xZ (by omega);rcases h with⟨rfl,rfl,rfl⟩ | ⟨id,rfl,hid,h0⟩
 ·refine⟨[(H.length+1,some ([]++xs))],[H.length],λn0=>?_,.inr ⟨_,rfl,?_,by omega⟩⟩
  ·simp only[zby,lenA,yL,hel,need,yO,if_false,true_and,Nat.zero_mul,qV,b1,b2,and_self,if_true,List.take_nil,xI,xK]
  ·simp only[zac];rw[zaw (by simp)]
 ·have hlt:=zam hid;have hc2:getB (H++[some xs]) id=some cs:=by rw[zbm hlt];exact hid
  refine⟨[(id,none),(H.length+1,some (cs++xs))],[id,H.length],λn0=>?_,.inr ⟨_,rfl,?_,by omega⟩⟩
  ·have e1:¬((none:Option Nat)=some n):=by simp
   have e2:id≠H.length+1:=by omega
   simp only[zby,lenA,yL,hel,hc2,need,yO,if_false,true_and,hl,qV,b1,b2,and_self,if_true,e1,Nat.zero_le,hs,e2,ne_eq,not_false_eq_true,ht]
  ·simp only[zac];rw[zaw (by simp)]
theorem LF.div{n p:Nat}(h:LF n p)(hn:2<=n):p∣n/\2<=p:=by
 rcases h with⟨rfl,_⟩ | ⟨h1,_,h3,_⟩
 ·exact⟨Nat.dvd_refl _,hn⟩
 ·exact⟨qN h3,h1⟩
theorem zrb{p:Nat}(hp:2<=p):∀f n,1<=n->n<=f->∃e m,n=p^e*m/\¬p∣m
 |0,n,h1,h2=>by omega
 |f+1,n,h1,h2=>by
  by_cases h:p∣n
  ·obtain⟨q,rfl⟩:=h
   have hq:1<=q:=by
    rcases qD q with e | e
    ·subst e;omega
    ·exact e
   have:=qE q hp;obtain⟨e,m,h3,h4⟩:=zrb hp f q hq (by omega);exact⟨e+1,m,by rw[qG,qC (p^e),qM,<-h3],h4⟩
  ·exact⟨0,n,by simp,h⟩
theorem FL.ex:∀f n,1<=n->n<=f->∃l,FL n l
 |0,n,h1,h2=>by omega
 |f+1,n,h1,h2=>by
  rcases(by omega:n=1\/2<=n)with rfl | hn
  ·exact⟨[],.one⟩
  ·obtain⟨p,hp⟩:=LF.ex n;obtain⟨hd,hp2⟩:=hp.div hn;obtain⟨e,m,h3,h4⟩:=zrb hp2 n n h1 (qV n)
   have he:1<=e:=by
    rcases qD e with h | h
    ·subst h;rw[qO,xQ]at h3;exact absurd (h3 ▸ hd) h4
    ·exact h
   have hm:1<=m:=by
    rcases qD m with h | h
    ·subst h;exact absurd (yH p) h4
    ·exact h
   have:p^1<=p^e:=qW (by omega) he;rw[xM]at this;have:=qP this (qV m);have:=qE m hp2;obtain⟨l,hl⟩:=FL.ex f m hm (by omega);exact⟨_,.cons hp hn h3 h4 he hl⟩
theorem FL.len{n:Nat}{l:List (Nat×Nat)}(h:FL n l):2^l.length<=n:=by
 induction h with
 |one=>simp
 | @cons n p e m l h1 h2 h3 h4 h5 h6 ih=>
  have hp:=(h1.div h2).2;have:p^1<=p^e:=qW (by omega) h5;rw[xM]at this;rw[h3,qY,qG,qC];exact qP (by omega) ih
def capL:List (Nat×Nat)->Option Nat
 | []=>some 0
 |_=>none
theorem qel{n:Nat}{l:List (Nat×Nat)}(hl:FL n l)(hn:1<=n)(hn2:n<=2147483647):Rt 34 [.int .i64 (n:Int)] [] (.tup [.vec (pcL l) l.length (capL l),.int .i64 0]) []:=by
 have d1:decide ((n:Int)<1)=false:=dF;have d2:decide (2147483647<(n:Int))=false:=dF;have hlen:=hl.len;refine oF o34 ?_;simp only[c34,r34_0,r34_1,↓zcq,SS,fC,reduceCtorEq,reduceIte,qQ,d1,d2];simp only[r34_3,SS]
 refine zaj (λk E H=>∃dn rs:List (Nat×Nat),rs.length=k/\l=dn++rs/\∃m v,1<=m/\m<=n/\FL m rs/\E 0= .int .i64 ((m:Nat):Int)/\E 4=v/\LstH H v (pcL dn) dn.length) (n:=l.length)
  ⟨[],l,rfl,rfl,n,_,hn,qV n,hl,?_,?_,.inl ⟨rfl,rfl,rfl⟩⟩ ?_
 ·rfl
 ·rfl
 rintro k E H ⟨dn,rs,rfl,rfl,m,v,hm,hmn,hF,e0,e4,hL⟩;refine wM ?_;cases hF with
 |one=>
  have d3:decide ((1:Int)<((1:Nat):Int))=false:=by decide
  simp only[l34_0,r34_4,SS,fC,reduceCtorEq,reduceIte,qQ,e0,d3];simp only[r34_10,SS,reduceIte,qQ,e4];rw[qK];rcases hL with⟨rfl,h2,h3⟩ | ⟨id,rfl,h2,h3⟩
  ·obtain rfl:=List.length_eq_zero_iff.1 h3;exact dR
  ·have hc:capL dn=none:=by
    cases dn with
    |nil=>simp at h3
    |cons a b=>rfl
   rw[hc];exact⟨.inl trivial,_,rfl,qxk h2 rfl⟩
 | @cons _ p e q rs h1 h2 h3 h4 h5 h6=>
  have d3:decide ((1:Int)<(m:Int))=true:=dT;have tl:=qnj h2 (by omega) h1;simp only[l34_0,r34_4,SS,fC,reduceCtorEq,reduceIte,qQ,e0,d3];simp only[r34_5,SS,reduceCtorEq,reduceIte,qQ,e0];refine zaa tl ?_;simp only[zaf,zac,qZ,qK,SS,reduceIte,qJ,qQ,qX];have g0:getB (H++[some [AV.int IntKind.i64 0,AV.int IntKind.i64 0]]) (List.length H)=some [AV.int IntKind.i64 0,AV.int IntKind.i64 0]:=zba
  have s0:∀x:List AV,List.set (H++[some [AV.int IntKind.i64 0,AV.int IntKind.i64 0]]) (List.length H) (some x)=H++[some x]:=λx=>by
   rw[xW _ _ (qV _),yV];rfl
  rw[g0];simp only[zar,xD,xC,s0];refine⟨by simp,?_⟩;have hp2:=(h1.div h2).2
  have hq1:1<=q:=by
   rcases qD q with h | h
   ·subst h;exact absurd (yH p) h4
   ·exact h
  have hpy:∀y,y<=e->p^y*q<=m:=λy hy=>by rw[h3];exact qE q (qW (by omega) hy)
  have he31:e<32:=by
   rcases qH e 32 with h | h
   ·exact h
   ·have a1:2^32<=2^e:=qW (by decide) h;have a2:2^e<=p^e:=xP hp2 e;have a3:=qP a2 hq1;have a4:p^e*q<=m:=hpy e (qV e);omega
  refine zaj (λy E H'=>∃x,x+y=e/\E 0= .int .i64 ((p^y*q:Nat):Int)/\E 4=v/\E 5= .ptr H.length 0/\H'=H++[some [.int .i64 (p:Int),.int .i64 (x:Int)]]) (n:=e)
   ⟨0,by omega,?_,?_,?_,rfl⟩ ?_
  ·simp only[UU,qQ,e0,h3]
  ·exact e4
  ·rfl
  clear e0 e4 E;rintro y E H' ⟨x,hx,e0,e4,e5,rfl⟩;refine wM ?_;have g1:getB (H++[some [AV.int IntKind.i64 (p:Int),AV.int IntKind.i64 (x:Int)]]) (List.length H)=some [.int .i64 (p:Int),.int .i64 (x:Int)]:=zba;cases y with
  |zero=>
   have et:Int.tmod ((p^0*q:Nat):Int) (p:Int)=((q%p:Nat):Int):=by rw[qO,xQ];rfl
   have d4:decide (((q%p:Nat):Int)=0)=false:=decide_eq_false λh=>h4 (qN (by omega))
   simp only[l34_1,r34_6,SS,fC,reduceCtorEq,reduceIte,qJ,qQ,qX,e0,e5,g1,et,d4];refine⟨by omega,?_⟩;obtain rfl:x=e:=by omega
   have hap:=qbn (xs:=[.int .i64 (p:Int),.int .i64 (x:Int)]) (hL.app [some [AV.int IntKind.i64 (p:Int),AV.int IntKind.i64 (x:Int)]]) (zia dn) (by
    have h7:=hl.len;rw[qU,qY]at h7;have h8:2^dn.length<=2^(dn.length+(rs.length+1)):=qW (by decide) (by omega);rcases qH dn.length 1100 with h | h
    ·exact h
    ·have h9:2^31<=2^dn.length:=qW (by decide) (by omega);omega) rfl rfl
   obtain⟨ef,rd,ha,hL2⟩:=hap;rw[zcy]at ha hL2;simp only[r34_9,SS,reduceIte,qJ,qQ,qX,e4,e5,g1,zcy,ha];refine⟨rs.length,_,_,by omega,⟨dn++[(p,x)],rs,rfl,by simp,q,_,hq1,?_,h6,?_,rfl,?_⟩,.refl⟩
   ·have:=hpy 0 (by omega);rw[qO,xQ]at this;omega
   ·simp only[UU,qQ,e0,qO,xQ]
   ·simp only[UU,qQ,reduceIte];rw[zvz,qU];exact hL2
  |succ y=>
   have hy:p^(y+1)*q=p*(p^y*q):=by rw[qG,qC (p^y),qM]
   have et:Int.tmod ((p^(y+1)*q:Nat):Int) (p:Int)=((p^(y+1)*q%p:Nat):Int):=rfl;have d4:decide (((p^(y+1)*q%p:Nat):Int)=0)=true:=decide_eq_true (by rw[hy,yI];rfl)
   have eq1:Int.tdiv ((p^(y+1)*q:Nat):Int) (p:Int)=((p^y*q:Nat):Int):=by
    show((p^(y+1)*q/p:Nat):Int)=_
    rw[hy,yW _ (by omega)]
   simp only[l34_1,r34_6,SS,fC,reduceCtorEq,reduceIte,qJ,qQ,qX,e0,e5,g1,et,d4];refine⟨by omega,?_⟩;have wx:=wS1 x (by omega);have wq:IntKind.i64.wrap ((p^y*q:Nat):Int)=((p^y*q:Nat):Int):=w64 (by omega) (by have:=hpy y (by omega);omega)
   have s1:List.set (H++[some [AV.int IntKind.i64 (p:Int),AV.int IntKind.i64 (x:Int)]]) (List.length H) (some [AV.int IntKind.i64 (p:Int),AV.int IntKind.i64 ((x+1:Nat):Int)])=H++[some [AV.int IntKind.i64 (p:Int),AV.int IntKind.i64 ((x+1:Nat):Int)]]:=by
    rw[xW _ _ (qV _),yV];rfl
   simp only[r34_7,r34_8,SS,fC,reduceCtorEq,reduceIte,qJ,qQ,qX,e0,e5,g1,eq1,wx,wq,s1];refine⟨by omega,y,_,_,by omega,⟨x+1,by omega,?_,?_,?_,rfl⟩,.refl⟩<;>simp only[UU,qQ,reduceIte, *]
theorem LF.min{n p:Nat}(h:LF n p)(hn:2<=n):∀d,2<=d->d<p->¬d∣n:=by
 intro d hd hlt hdd;rcases h with⟨rfl,h⟩ | ⟨_,_,_,h⟩
 ·obtain⟨c,hc⟩:=hdd;rcases qH p (d*d)with h1 | h1
  ·have hc2:2<=c:=by
    rcases(by omega:c=0\/c=1\/2<=c)with rfl | rfl | h2
    ·omega
    ·omega
    ·exact h2
   have hcd:c<d:=by
    rcases qH c d with h2 | h2
    ·exact h2
    ·have:=xS d h2;omega
   have hcc:c*c<=p:=by rw[hc];exact qE c (by omega)
   exact h c hc2 hcc (xJ ⟨d,by rw[qC];exact hc⟩)
  ·exact h d hd h1 (xJ ⟨c,hc⟩)
 ·exact h d hd hlt (xJ hdd)
theorem LF.mk{n p:Nat}(hp:2<=p)(hn:1<=n)(hd:p∣n)(h:∀d,2<=d->d<p->¬d∣n):LF n p:=by
 obtain⟨c,hc⟩:=hd;rcases qH n (p*p)with h1 | h1
 ·refine .inl ?_
  have hcp:c<p:=by
   rcases qH c p with h2 | h2
   ·exact h2
   ·have:=xS p h2;omega
  have hc1:c=1:=by
   rcases(by omega:c=0\/c=1\/2<=c)with rfl | rfl | h2
   ·omega
   ·rfl
   ·exact absurd ⟨p,by rw[qC];exact hc⟩ (h c h2 hcp)
  subst hc1;rw[yX]at hc;subst hc;refine⟨rfl,λd hd hdd hm=>h d hd ?_ (qN hm)⟩;rcases qH d n with h2 | h2
  ·exact h2
  ·have:=qP h2 h2;have:=qE n hp;omega
 ·exact .inr ⟨hp,h1,xJ ⟨c,hc⟩,λd hd hlt hm=>h d hd hlt (qN hm)⟩
theorem LF.prime{n p:Nat}(h:LF n p)(hn:2<=n):Prm p:=by
 obtain⟨hd,hp⟩:=h.div hn;refine⟨hp,λd h2 hdd hm=>?_⟩
 have hlt:d<p:=by
  rcases qH d p with h3 | h3
  ·exact h3
  ·have:=qP h3 h3;have:=qE p hp;omega
 exact h.min hn d h2 hlt (xX (qN hm) hd)
theorem FL.last{m d:Nat}{rs:List (Nat×Nat)}(h:FL m rs)(hm:2<=m)(hd:m<d*d)(hmin:∀c,2<=c->c<d->¬c∣m):rs=[(m,1)]:=by
 cases h with
 |one=>omega
 | @cons _ p e q rs h1 h2 h3 h4 h5 h6=>
  obtain⟨hdv,hp⟩:=h1.div hm
  have hpm:p=m:=by
   rcases h1 with⟨h,_⟩ | ⟨_,h,_,_⟩
   ·exact h
   ·exfalso;rcases qH p d with h7 | h7
    ·exact hmin p hp h7 hdv
    ·have:=qP h7 h7;omega
  subst hpm;obtain⟨e,rfl⟩:∃e',e=e'+1:=⟨e-1,by omega⟩
  rw[qG,qC (p^e),qM]at h3;have h8:p^e*q=1:=xT (show 0<p by omega) (by omega);have h10:q=1:=Nat.dvd_one.1 ⟨p^e,by rw[qC];exact h8.symm⟩;have h9:p^e=1:=Nat.dvd_one.1 ⟨q,h8.symm⟩;subst h10
  have he:e=0:=by
   rcases qD e with h | h
   ·exact h
   ·have:p^1<=p^e:=qW (by omega) h;rw[xM]at this;omega
  subst he;cases h6 with
  |one=>rfl
  |cons a b c d e f=>omega
theorem qem{d:Nat}(hd:2<=d):∀{a b q r:Nat},d^a*q=d^b*r->¬d∣q->¬d∣r->a=b/\q=r
 |0,0,q,r,h,_,_=>⟨rfl,by simpa using h⟩
 |0,b+1,q,r,h,h1,_=>by
  exfalso;rw[qO,xQ,qG,qC (d^b),qM]at h;exact h1 ⟨_,h⟩
 |a+1,0,q,r,h,_,h2=>by
  exfalso;rw[qO,xQ,qG,qC (d^a),qM]at h;exact h2 ⟨_,h.symm⟩
 |a+1,b+1,q,r,h,h1,h2=>by
  rw[qG,qC (d^a),qM,qG,qC (d^b),qM]at h;obtain⟨e1,e2⟩:=qem hd (xT (show 0<d by omega) h) h1 h2;exact⟨by rw[e1],e2⟩
theorem qoc{H:Heap}{v:AV}{l:List (Nat×Nat)}(h:LstH H v (pcL l) l.length){x:Int}:AL.Fin 0 (.tup [v,.int .i64 x]) H (.tup [.vec (pcL l) l.length (capL l),.int .i64 x]) []:=by
 rcases h with⟨rfl,h2,h3⟩ | ⟨id,rfl,h2,h3⟩
 ·obtain rfl:=List.length_eq_zero_iff.1 h3;exact .drop _ _ rfl (by intro i cs h;omega)
 ·have hc:capL l=none:=by
   cases l with
   |nil=>simp at h3
   |cons a b=>rfl
  rw[hc];exact qxk h2 rfl
theorem qod{n:Nat}{l:List (Nat×Nat)}(hl:FL n l)(hn:1<=n)(hn2:n<=2147483647):Rt 29 [.int .i64 (n:Int)] [] (.tup [.vec (pcL l) l.length (capL l),.int .i64 0]) []:=by
 have d1:decide ((n:Int)<1)=false:=dF;have d2:decide (2147483647<(n:Int))=false:=dF;have hlen:=hl.len
 have hll:∀a b:List (Nat×Nat),l=a++b->a.length<1100:=λa b h=>by
  have h8:2^a.length<=2^l.length:=qW (by decide) (by rw[h,qU];omega);rcases qH a.length 1100 with h | h
  ·exact h
  ·have h9:2^31<=2^a.length:=qW (by decide) (by omega);omega
 refine oF o29 ?_;simp only[c29,r29_0,r29_1,↓zcq,SS,fC,reduceCtorEq,reduceIte,qQ,d1,d2];simp only[r29_3,SS];simp only[r29_4,SS]
 refine zaj (λk E H=>∃dn rs:List (Nat×Nat),l=dn++rs/\∃m d v,d+k=n+2/\2<=d/\1<=m/\m<=n/\(∀c,2<=c->c<d->¬c∣m)/\FL m rs/\E 0= .int .i64 ((m:Nat):Int)/\E 5= .int .i64 ((d:Nat):Int)/\E 4=v/\LstH H v (pcL dn) dn.length) (n:=n)
  ⟨[],l,rfl,n,2,_,by omega,by omega,hn,qV n,λc h1 h2=>absurd h2 (by omega),hl,?_,?_,?_,.inl ⟨rfl,rfl,rfl⟩⟩ ?_
 ·rfl
 ·rfl
 ·rfl
 clear hl hlen;rintro k E H ⟨dn,rs,el,m,d,v,hdk,hd2,hm,hmn,hmin,hF,e0,e5,e4,hL⟩;refine wM ?_;have hdn:d<=2147483649:=by omega
 have hdd:d*d<9223372036854775808:=by
  have:=qP hdn hdn;omega
 have w1:IntKind.i64.wrap ((d:Int)*(d:Int))=((d*d:Nat):Int):=by rw[<-xB];exact w64 (by omega) (by omega)
 by_cases hx:d*d<=m
 ·have d3:decide (((d*d:Nat):Int)<=(m:Int))=true:=dT;simp only[l29_0,r29_5,SS,fC,reduceCtorEq,reduceIte,qQ,e0,e5,w1,d3];simp only[r29_6,SS]
  have hdm1:d<=m:=by
   have:=qE d hd2;omega
  obtain⟨e,q,hmq,hnd⟩:=zrb hd2 m m hm (qV m)
  have hq1:1<=q:=by
   rcases qD q with h | h
   ·subst h;exact absurd (yH d) hnd
   ·exact h
  have hpy:∀y,y<=e->d^y*q<=m:=λy hy=>by
   have:=qE q (qW (show 0<d by omega) hy);omega
  have he31:e<32:=by
   rcases qH e 32 with h | h
   ·exact h
   ·have a1:2^32<=2^e:=qW (by decide) h;have a2:2^e<=d^e:=xP hd2 e;have a3:=qP a2 hq1;have a4:d^e*q<=m:=hpy e (qV e);omega
  refine zaj (λy E H'=>∃x,x+y=e/\E 0= .int .i64 ((d^y*q:Nat):Int)/\E 4=v/\E 5= .int .i64 ((d:Nat):Int)/\E 6= .int .i64 ((x:Nat):Int)/\H'=H) (n:=e)
   ⟨0,by omega,?_,?_,?_,?_,rfl⟩ ?_
  ·simp only[UU,qQ,e0,<-hmq]
  ·exact e4
  ·exact e5
  ·rfl
  clear e0 e4 e5 E;rintro y E H' ⟨x,hxy,e0,e4,e5,e6,rfl⟩;refine wM ?_;cases y with
  |zero=>
   obtain rfl:x=e:=by omega
   have et:Int.tmod ((d^0*q:Nat):Int) (d:Int)=((q%d:Nat):Int):=by rw[qO,xQ];rfl
   have d4:decide (((q%d:Nat):Int)=0)=false:=decide_eq_false λh=>hnd (qN (by omega))
   have wd:=wS1 d (by omega);rw[qO,xQ]at e0 et;simp only[l29_1,r29_7,SS,fC,reduceCtorEq,reduceIte,qQ,e0,e5,et,d4];refine⟨by omega,?_⟩
   have hqm:q<=m:=by
    have:=hpy 0 (by omega)
    rwa[qO,xQ]at this
   rcases qD x with hx0 | hx0
   ·subst hx0;have d5:decide (0<((0:Nat):Int))=false:=by decide
    rw[qO,xQ]at hmq;subst hmq;simp only[r29_10,SS,fC,reduceIte,qQ,e6,d5];simp only[r29_12,SS,reduceIte,qQ,e5,wd];refine⟨k-1,_,_,by omega,⟨dn,rs,el,m,d+1,v,by omega,by omega,hm,hmn,λc h1 h2=>?_,hF,?_,?_,?_,hL⟩,.refl⟩
    ·rcases(by omega:c<d\/c=d)with h | rfl
     ·exact hmin c h1 h
     ·exact hnd
    all_goals simp only[UU,qQ,reduceIte, *]
   ·have d5:decide (0<(x:Int))=true:=dT
    have hdm:d∣m:=by
     rw[hmq]
     have:d^x=d*d^(x-1):=by
      rw[<-Nat.pow_succ'];congr 1;omega
     exact xX ⟨_,this⟩ (yZ _ _)
    have hm2:2<=m:=by
     have:=qP hd2 hd2;omega
    cases hF with
    |one=>omega
    | @cons _ p e q' rs h1 h2 h3 h4 h5 h6=>
     obtain rfl:=LF.uniq h1 (LF.mk hd2 hm hdm hmin);obtain⟨rfl,rfl⟩:=qem hd2 (h3.symm.trans hmq) h4 hnd;obtain⟨ef,rd,ha,hL2⟩:=qbn (xs:=[.int .i64 (p:Int),.int .i64 (e:Int)]) hL (zia dn) (hll _ _ el) rfl rfl;simp only[r29_10,SS,fC,reduceIte,qQ,e6,d5];simp only[r29_11,SS,reduceIte,qJ,qQ,qX,e4,e5,e6,zcy,ha];simp only[r29_12,SS,reduceIte,qQ,e5,wd];refine⟨k-1,_,_,by omega,⟨dn++[(p,e)],rs,by simp[el],q',p+1,_,by omega,by omega,hq1,by omega,λc h1 h2 hc=>?_,h6,?_,?_,rfl,?_⟩,.refl⟩
     ·rcases(by omega:c<p\/c=p)with h | rfl
      ·exact hmin c h1 h (by rw[hmq];exact xX hc (yM _ _))
      ·exact h4 hc
     ·exact e0
     ·rfl
     ·simp only[UU,qQ,reduceIte];rw[zvz,qU];exact hL2
  |succ y=>
   have hy:d^(y+1)*q=d*(d^y*q):=by rw[qG,qC (d^y),qM]
   have et:Int.tmod ((d^(y+1)*q:Nat):Int) (d:Int)=((d^(y+1)*q%d:Nat):Int):=rfl;have d4:decide (((d^(y+1)*q%d:Nat):Int)=0)=true:=decide_eq_true (by rw[hy,yI];rfl)
   have eq1:Int.tdiv ((d^(y+1)*q:Nat):Int) (d:Int)=((d^y*q:Nat):Int):=by
    show((d^(y+1)*q/d:Nat):Int)=_
    rw[hy,yW _ (by omega)]
   have wx:=wS1 x (by omega);have wq:IntKind.i64.wrap ((d^y*q:Nat):Int)=((d^y*q:Nat):Int):=w64 (by omega) (by have:=hpy y (by omega);omega);simp only[l29_1,r29_7,SS,fC,reduceCtorEq,reduceIte,qQ,e0,e5,et,d4];refine⟨by omega,?_⟩;simp only[r29_8,r29_9,SS,reduceCtorEq,reduceIte,qQ,e0,e5,e6,eq1,wx,wq];refine⟨by omega,y,_,_,by omega,⟨x+1,by omega,?_,?_,?_,?_,rfl⟩,.refl⟩<;>simp only[UU,qQ,reduceIte, *]
 ·have d3:decide (((d*d:Nat):Int)<=(m:Int))=false:=dF;simp only[l29_0,r29_5,SS,fC,reduceCtorEq,reduceIte,qQ,e0,e5,w1,d3];rcases(by omega:m=1\/2<=m)with rfl | hm2
  ·have d4:decide ((1:Int)<((1:Nat):Int))=false:=by decide
   cases hF with
   |cons a b=>omega
   |one=>
    rw[qK]at el;subst el;simp only[r29_13,SS,fC,reduceCtorEq,reduceIte,qQ,e0,d4];simp only[r29_15,SS,reduceIte,qQ,e4];exact⟨.inl trivial,_,rfl,qoc hL⟩
  ·have d4:decide ((1:Int)<(m:Int))=true:=dT;obtain rfl:=hF.last hm2 (by omega) hmin;obtain⟨ef,rd,ha,hL2⟩:=qbn (xs:=[.int .i64 (m:Int),.int .i64 1]) hL (zia dn) (hll _ _ el) rfl rfl;simp only[r29_13,SS,fC,reduceCtorEq,reduceIte,qQ,e0,d4];simp only[r29_14,SS,reduceCtorEq,reduceIte,qJ,qQ,qX,e0,e4,zcy,ha]
   have hL3:LstH (zac ef (H++[some [AV.int .i64 (m:Int),AV.int .i64 1]]++[none])) (.sl (H.length+1) 0 (dn.length+1) 2 none) (pcL l) l.length:=by
    rw[el,zvz,qU];exact hL2
   simp only[r29_15,SS,reduceIte,qQ];exact⟨.inl trivial,_,rfl,qoc hL3⟩
def sqS:List (Nat×Nat)->Nat
 | []=>1
 |(p,e)::l=>if e%2=1 then p*sqS l else sqS l
def sqR:List (Nat×Nat)->Nat
 | []=>1
 |(p,e)::l=>p^(e/2)*sqR l
def prL:List (Nat×Nat)->Nat
 | []=>1
 |(p,e)::l=>p^e*prL l
theorem FL.prod{n:Nat}{l:List (Nat×Nat)}(h:FL n l):prL l=n:=by
 induction h with
 |one=>rfl
 |cons h1 h2 h3 h4 h5 h6 ih=>rw[prL,ih,<-h3]
theorem qoe:∀l,prL l=sqS l*(sqR l*sqR l)
 | []=>rfl
 |(p,e)::l=>by
  simp only[prL,sqS,sqR,qoe l];split
  ·have:p^e=p*(p^(e/2)*p^(e/2)):=by
    rw[<-Nat.pow_add,<-Nat.pow_succ'];congr 1;omega
   rw[this];grind
  ·have:p^e=p^(e/2)*p^(e/2):=by
    rw[<-Nat.pow_add];congr 1;omega
   rw[this];grind
theorem qbo:∀a b,sqS (a++b)=sqS a*sqS b
 | [],b=>by simp[sqS]
 |(p,e)::a,b=>by simp only[xA,sqS,qbo a b];split<;>grind
theorem qbp:∀a b,sqR (a++b)=sqR a*sqR b
 | [],b=>by simp[sqR]
 |(p,e)::a,b=>by simp only[xA,sqR,qbp a b];grind
theorem FL.pos{n:Nat}{l:List (Nat×Nat)}(h:FL n l):1<=n/\∀x∈l,2<=x.1:=by
 induction h with
 |one=>exact⟨by omega,by simp⟩
 |cons h1 h2 h3 h4 h5 h6 ih=>
  refine⟨by omega,λx hx=>?_⟩;rcases List.mem_cons.1 hx with rfl | hx
  ·exact(h1.div h2).2
  ·exact ih.2 x hx
theorem qbq:∀{l:List (Nat×Nat)},(∀x∈l,2<=x.1)->1<=sqS l/\1<=sqR l
 | [],_=>⟨by simp[sqS],by simp[sqR]⟩
 |(p,e)::l,h=>by
  obtain⟨a,b⟩:=qbq (l:=l) λx hx=>h x (xV _ hx)
  have hp:2<=p:=h (p,e) (xE ..);simp only[sqS,sqR];refine⟨?_,xN (Nat.pow_pos (by omega)) b⟩;split
  ·exact xN (by omega) a
  ·exact a
theorem qen{n:Nat}{a b:List (Nat×Nat)}(h:FL n (a++b)):sqS a<=n/\sqR a<=n:=by
 have h1:=h.prod;rw[qoe,qbo,qbp]at h1;obtain⟨s1,r1⟩:=qbq (l:=a) λx hx=>h.pos.2 x (yB _ hx)
 obtain⟨s2,r2⟩:=qbq (l:=b) λx hx=>h.pos.2 x (List.mem_append_right _ hx)
 have p1:1<=sqS a*sqS b:=xN s1 s2;have p2:1<=sqR a*sqR b:=xN r1 r2;have p3:1<=(sqR a*sqR b)*(sqR a*sqR b):=xN p2 p2;constructor
 ·have:=qT (sqS a) s2;have:=qT (sqS a*sqS b) p3;omega
 ·have:=qT (sqR a) r2;have:=qT (sqR a*sqR b) p2;have:=Nat.le_mul_of_pos_left ((sqR a*sqR b)*(sqR a*sqR b)) p1;omega
theorem zwa:∀(a:List (Nat×Nat)) (p e:Nat) (b:List (Nat×Nat)),((pcL (a++(p,e)::b)).drop (a.length*2)).take 2=[.int .i64 (p:Int),.int .i64 (e:Int)]
 | [],p,e,b=>by simp[pcL]
 |(q,f)::a,p,e,b=>by
  have:=zwa a p e b;simp only[xA,pcL,qY,Nat.succ_mul,List.drop_succ_cons];exact this
theorem qxl{n:Nat}{l:List (Nat×Nat)}{c:Option Nat}(hl:FL n l)(hn2:n<=2147483647){sg:Int}(hsg:sg=1\/sg= -1){E:Env}{H:Heap}{Q:Post}(e5:E 5= .int .i64 sg)(e6:E 6= .int .i64 1)(e30:E 30= .vec (pcL l) l.length c)(e31:E 31= .int .i64 (l.length:Nat))(e32:E 32= .int .i64 0)
  (hQ:∀E' H',E' 5= .int .i64 (sg*(sqS l:Nat))->E' 6= .int .i64 (sqR l:Nat)->Q (.exit 0) E' H'):Wg 0 57 (.loop l184_0) E H Q:=by
 have hlen:=hl.len
 have hll:l.length<1100:=by
  rcases qH l.length 1100 with h | h
  ·exact h
  ·have h9:2^31<=2^l.length:=qW (by decide) (by omega);omega
 refine zaj (λk E H=>∃dn rs:List (Nat×Nat),l=dn++rs/\rs.length=k/\E 5= .int .i64 (sg*(sqS dn:Nat))/\E 6= .int .i64 (sqR dn:Nat)/\E 30= .vec (pcL l) l.length c/\E 31= .int .i64 (l.length:Nat)/\E 32= .int .i64 (dn.length:Nat)) (n:=l.length)
  ⟨[],l,rfl,rfl,by rw[e5];simp[sqS],by rw[e6];rfl,e30,e31,e32⟩ ?_
 clear e5 e6 e30 e31 e32 E H;rintro k E H ⟨dn,rs,el,hk,e5,e6,e30,e31,e32⟩;refine wM ?_;cases rs with
 |nil=>
  rw[qK]at el;subst el;have d1:decide ((l.length:Int)<(l.length:Nat))=false:=dF;simp only[l184_0,r184_8,SS,fC,reduceIte,e31,e32,d1];exact hQ _ _ (by exact e5) (by exact e6)
 |cons x rs=>
  obtain⟨p,e⟩:=x;rw[qY]at hk;have hle:dn.length+(rs.length+1)=l.length:=by rw[el,qU,qY]
  have d1:decide ((dn.length:Int)<(l.length:Nat))=true:=dT;have hg:=zwa dn p e rs;rw[<-el]at hg;have hcl:=zia l;obtain⟨hp2,he⟩:2<=p/\True:=⟨hl.pos.2 (p,e) (by rw[el];simp),trivial⟩
  simp only[l184_0,r184_8,SS,fC,reduceIte,e31,e32,d1];simp only[r184_9,SS,reduceIte,qJ,qQ,e30,e32,yQ,hg,hcl];have g0:getB (H++[some [AV.int IntKind.i64 0,AV.int IntKind.i64 0]]) (List.length H)=some [AV.int IntKind.i64 0,AV.int IntKind.i64 0]:=zba
  have s0:∀x:List AV,List.set (H++[some [AV.int IntKind.i64 0,AV.int IntKind.i64 0]]) (List.length H) (some x)=H++[some x]:=λx=>by
   rw[xW _ _ (qV _),yV];rfl
  have g1:getB (H++[some [AV.int IntKind.i64 (p:Int),AV.int IntKind.i64 (e:Int)]]) (List.length H)=some [.int .i64 (p:Int),.int .i64 (e:Int)]:=zba
  have he31:e<32:=by
   have h1:=hl.prod;rw[el]at h1
   have h2:p^e∣n:=by
    rw[<-h1]
    have:∀a:List (Nat×Nat),p^e∣prL (a++(p,e)::rs):=λa=>by
     induction a with
     |nil=>exact yZ _ _
     |cons x a ih=>exact xX ih (yM _ _)
    exact this dn
   have h3:=Nat.le_of_dvd (by have:=hl.pos.1;omega) h2;rcases qH e 32 with h | h
   ·exact h
   ·have a1:2^32<=2^e:=qW (by decide) h;have a2:2^e<=p^e:=xP hp2 e;omega
  obtain⟨b1,b2⟩:=qen (a:=dn++[(p,e)]) (b:=rs) (n:=n) (by rw[xL];rw[el]at hl;exact hl);have er:sqR (dn++[(p,e)])=sqR dn*p^(e/2):=by rw[qbp];simp[sqR]
  have hrn:∀j,j<=e/2->sqR dn*p^j<=n:=λj hj=>by
   rw[er]at b2;exact Nat.le_trans (xS _ (qW (by omega) hj)) b2
  have et:Int.tmod (e:Int) 2=((e%2:Nat):Int):=rfl;have ed:Int.tdiv (e:Int) 2=((e/2:Nat):Int):=rfl;have we:IntKind.i64.wrap ((e/2:Nat):Int)=((e/2:Nat):Int):=w64 (by omega) (by omega);have wi:=wS1 dn.length (by omega);refine⟨⟨by omega,by omega⟩,by omega,?_⟩;rw[g0];simp only[zar,xD,xC,s0];refine⟨by simp,?_⟩
  have alt:(decide (((e%2:Nat):Int)=1)=true/\sqS (dn++[(p,e)])=sqS dn*p)\/(decide (((e%2:Nat):Int)=1)=false/\sqS (dn++[(p,e)])=sqS dn):=by
   rw[qbo];simp only[sqS,yX];by_cases h:e%2=1
   ·exact .inl ⟨dT,by rw[if_pos h]⟩
   ·exact .inr ⟨dF,by rw[if_neg h,yX]⟩
  have e5':∀E':Env,E' 5= .int .i64 (sg*(sqS (dn++[(p,e)]):Nat))->E' 5= .int .i64 (sg*(sqS (dn++[(p,e)]):Nat)):=λ_ h=>h
  rcases alt with⟨d2,es⟩ | ⟨d2,es⟩
  ·have wm:IntKind.i64.wrap (sg*(sqS dn:Nat)*(p:Int))=sg*(sqS (dn++[(p,e)]):Nat):=by
    rw[Int.mul_assoc,<-xB,<-es];rcases hsg with rfl | rfl<;>exact w64 (by omega) (by omega)
   simp only[r184_10,SS,fC,reduceIte,qJ,qQ,qX,g1,et,d2];simp only[r184_11,SS,fC,reduceIte,qJ,qQ,qX,g1,e5,wm];simp only[r184_12,SS,fC,reduceIte,qJ,qQ,qX,g1,ed,we];refine⟨by decide,by decide,?_⟩
   refine zaj (λy E' H'=>∃j,j+y=e/2/\E' 5= .int .i64 (sg*(sqS (dn++[(p,e)]):Nat))/\E' 6= .int .i64 ((sqR dn*p^j:Nat):Int)/\E' 10= .ptr H.length 0/\E' 30= .vec (pcL l) l.length c/\E' 31= .int .i64 (l.length:Nat)/\E' 32= .int .i64 (dn.length:Nat)/\E' 46= .int .i64 ((e/2:Nat):Int)/\E' 47= .int .i64 (j:Nat)/\H'=H++[some [.int .i64 (p:Int),.int .i64 (e:Int)]]) (n:=e/2)
    ⟨0,by omega,?_,?_,?_,?_,?_,?_,?_,?_,rfl⟩ ?_
   ·simp only[UU,qQ,reduceIte,e5,es]
   ·simp only[UU,qQ,e6,qO,yX]
   ·rfl
   ·exact e30
   ·exact e31
   ·exact e32
   ·rfl
   ·rfl
   clear e5 e6 e30 e31 e32 E;rintro y E H' ⟨j,hj,e5,e6,e10,e30,e31,e32,e46,e47,rfl⟩;refine wM ?_;cases y with
   |zero=>
    obtain rfl:j=e/2:=by omega
    have d4:decide (((e/2:Nat):Int)<((e/2:Nat):Int))=false:=dF;simp only[l184_1,r184_13,SS,fC,reduceIte,qQ,e46,e47,d4];simp only[r184_16,SS,reduceIte,qQ,e32,wi];refine⟨rs.length,_,_,by omega,⟨dn++[(p,e)],rs,by rw[xL];exact el,rfl,?_,?_,?_,?_,?_⟩,.refl⟩
    ·exact e5
    ·simp only[UU,qQ,e6,er]
    ·exact e30
    ·exact e31
    ·simp only[UU,qQ,reduceIte,qU,qY,xK,xI]
   |succ y=>
    have d4:decide ((j:Int)<((e/2:Nat):Int))=true:=dT
    have wp:IntKind.i64.wrap (((sqR dn*p^j:Nat):Int)*(p:Int))=((sqR dn*p^(j+1):Nat):Int):=by
     have hb:=hrn (j+1) (by omega);rw[<-xB,qM,<-qG];generalize sqR dn*p^(j+1)=X at hb ⊢;exact w64 (by omega) (by omega)
    have wj:=wS1 j (by omega);simp only[l184_1,r184_13,SS,fC,reduceIte,qQ,e46,e47,d4];simp only[r184_14,r184_15,SS,fC,reduceIte,qJ,qQ,qX,e6,e10,e47,g1,wp,wj];refine⟨y,_,_,by omega,⟨j+1,by omega,?_,?_,?_,?_,?_,?_,?_,?_,rfl⟩,.refl⟩<;>simp only[UU,qQ,reduceIte, *]
  ·simp only[r184_10,SS,fC,reduceIte,qJ,qQ,qX,g1,et,d2];simp only[r184_12,SS,fC,reduceIte,qJ,qQ,qX,g1,ed,we];refine⟨by decide,by decide,?_⟩
   refine zaj (λy E' H'=>∃j,j+y=e/2/\E' 5= .int .i64 (sg*(sqS (dn++[(p,e)]):Nat))/\E' 6= .int .i64 ((sqR dn*p^j:Nat):Int)/\E' 10= .ptr H.length 0/\E' 30= .vec (pcL l) l.length c/\E' 31= .int .i64 (l.length:Nat)/\E' 32= .int .i64 (dn.length:Nat)/\E' 46= .int .i64 ((e/2:Nat):Int)/\E' 47= .int .i64 (j:Nat)/\H'=H++[some [.int .i64 (p:Int),.int .i64 (e:Int)]]) (n:=e/2)
    ⟨0,by omega,?_,?_,?_,?_,?_,?_,?_,?_,rfl⟩ ?_
   ·simp only[UU,qQ,e5,es]
   ·simp only[UU,qQ,e6,qO,yX]
   ·rfl
   ·exact e30
   ·exact e31
   ·exact e32
   ·rfl
   ·rfl
   clear e5 e6 e30 e31 e32 E;rintro y E H' ⟨j,hj,e5,e6,e10,e30,e31,e32,e46,e47,rfl⟩;refine wM ?_;cases y with
   |zero=>
    obtain rfl:j=e/2:=by omega
    have d4:decide (((e/2:Nat):Int)<((e/2:Nat):Int))=false:=dF;simp only[l184_1,r184_13,SS,fC,reduceIte,qQ,e46,e47,d4];simp only[r184_16,SS,reduceIte,qQ,e32,wi];refine⟨rs.length,_,_,by omega,⟨dn++[(p,e)],rs,by rw[xL];exact el,rfl,?_,?_,?_,?_,?_⟩,.refl⟩
    ·exact e5
    ·simp only[UU,qQ,e6,er]
    ·exact e30
    ·exact e31
    ·simp only[UU,qQ,reduceIte,qU,qY,xK,xI]
   |succ y=>
    have d4:decide ((j:Int)<((e/2:Nat):Int))=true:=dT
    have wp:IntKind.i64.wrap (((sqR dn*p^j:Nat):Int)*(p:Int))=((sqR dn*p^(j+1):Nat):Int):=by
     have hb:=hrn (j+1) (by omega);rw[<-xB,qM,<-qG];generalize sqR dn*p^(j+1)=X at hb ⊢;exact w64 (by omega) (by omega)
    have wj:=wS1 j (by omega);simp only[l184_1,r184_13,SS,fC,reduceIte,qQ,e46,e47,d4];simp only[r184_14,r184_15,SS,fC,reduceIte,qJ,qQ,qX,e6,e10,e47,g1,wp,wj];refine⟨y,_,_,by omega,⟨j+1,by omega,?_,?_,?_,?_,?_,?_,?_,?_,rfl⟩,.refl⟩<;>simp only[UU,qQ,reduceIte, *]
theorem znq{z:Int}{n:Nat}{l:List (Nat×Nat)}(hz:z≠0)(hn:z.natAbs=n)(hl:FL n l)(hn2:n<=2147483647):
  Rt 184 [.int .i64 z] [] (.tup [.int .i64 (z.sign*(sqS l:Nat)),.int .i64 (sqR l:Nat),.int .i64 0]) []:=by
 have d1:decide (z=0)=false:=decide_eq_false hz;have d2:decide (z< -2147483647)=false:=dF;have d3:decide (2147483647<z)=false:=dF;have t:=qel hl hl.pos.1 hn2;have hc:AV.closed (.tup [.vec (pcL l) l.length (capL l),.int .i64 0])=true:=by simp only[AV.closed,qA,yK]
 refine oF o184 ?_;simp only[c184,r184_0,r184_1,↓zcq,SS,fC,reduceCtorEq,reduceIte,qQ,d1,d2,d3];simp only[r184_3,SS];rcases(by omega:z<0\/0<z)with h | h
 ·have d4:decide (z<0)=true:=decide_eq_true h;have wn:IntKind.i64.wrap (0-z)=(n:Int):=by rw[show 0-z=(n:Int) by omega];exact w64 (by omega) (by omega)
  rw[qS h];simp only[r184_4,SS,fC,reduceCtorEq,reduceIte,qQ,d4];simp only[r184_5,SS,reduceCtorEq,reduceIte,qQ,wn];simp only[r184_6,SS,reduceCtorEq,reduceIte,qQ];refine zaa t ?_ rfl hc;simp only[zaf,zac,qZ,qK,SS,reduceIte,qQ,qI,qL];simp only[r184_7,SS,reduceIte,qQ];refine qxl (c:=capL l) hl hn2 (.inr rfl) (by rfl) (by rfl) (by rfl) (by rfl) (by rfl) (λE' H' e5 e6=>?_);simp only[r184_17,SS,reduceCtorEq,reduceIte,qQ,e5,e6];exact dR
 ·have d4:decide (z<0)=false:=dF;obtain rfl:z=(n:Int):=by omega
  rw[qB h];simp only[r184_4,SS,fC,reduceCtorEq,reduceIte,qQ,d4];simp only[r184_6,SS,reduceCtorEq,reduceIte,qQ];refine zaa t ?_ rfl hc;simp only[zaf,zac,qZ,qK,SS,reduceIte,qQ,qI,qL];simp only[r184_7,SS,reduceIte,qQ];refine qxl (c:=capL l) hl hn2 (.inl rfl) (by rfl) (by rfl) (by rfl) (by rfl) (by rfl) (λE' H' e5 e6=>?_);simp only[r184_17,SS,reduceCtorEq,reduceIte,qQ,e5,e6];exact dR
theorem qof(a:Int){m:Nat}(hm:0<m):Int.tmod a m=a%m\/Int.tmod a m<0/\Int.tmod a m+m=a%m:=by
 rcases Int.le_total 0 a with h | h
 ·exact .inl (xY h)
 ·have e:=yN (a:=a) (b:=(m:Int));rw[e];split
  ·exact .inl (by omega)
  ·refine .inr ?_;have h1:=xG a (show(0:Int)<m by omega);have:((m:Int).natAbs:Int)=m:=by omega
   omega
theorem zrc{a:Int}{n:Nat}(hn:1<=n)(hn2:n<=1099511627776):Rt 102 [.int .i64 a,.int .i64 (n:Int)] [] (.int .i64 (a%(n:Int))) []:=by
 have hn0:(n:Int)≠0:=by omega
 have h1:=xO a hn0;have h2:=xG a (show(0:Int)<n by omega);have w1:IntKind.i64.wrap (Int.tmod a n+n)=Int.tmod a n+n:=by rcases qof a (m:=n) (by omega)with h | h<;>exact w64 (by omega) (by omega)
 have e:Int.tmod (Int.tmod a n+n) n=a%n:=by
  rcases qof a (m:=n) (by omega)with h | ⟨h,h'⟩
  ·rw[h,xY (by omega),Int.add_emod_right,yC _ (Int.dvd_refl _)]
  ·rw[h',xY h1,yC _ (Int.dvd_refl _)]
 refine oF o102 ?_;simp only[c102,r102_0,r102_1,SS,reduceCtorEq,reduceIte,qQ,w1,e];refine⟨hn0,hn0,?_⟩;exact kR
theorem wneg{s:Int}(h:s=1\/s= -1):IntKind.i64.wrap (0-s)= -s:=by rcases h with rfl | rfl<;>rfl
inductive JR:Int->Nat->Nat->Int->Prop
 |done {s n}:JR s 0 n (if n=1 then s else 0)
 |half {s a n g}:a≠0->a%2=0->JR (if n%8=3\/n%8=5 then -s else s) (a/2) n g->JR s a n g
 |flip {s a n g}:a%2=1->JR (if a%4=3/\n%4=3 then -s else s) (n%a) a g->JR s a n g
theorem JR.zero{s n g}(h:JR s 0 n g):g=if n=1 then s else 0:=by
 cases h with
 |done=>rfl
 |half h1 h2 h3=>exact absurd rfl h1
 |flip h1 h2=>simp at h1
theorem JR.evn{s a n g}(h:JR s a n g)(h0:a≠0)(h1:a%2=0):JR (if n%8=3\/n%8=5 then -s else s) (a/2) n g:=by
 cases h with
 |done=>exact absurd rfl h0
 |half h1 h2 h3=>exact h3
 |flip h2 h3=>omega
theorem JR.odd{s a n g}(h:JR s a n g)(h1:a%2=1):JR (if a%4=3/\n%4=3 then -s else s) (n%a) a g:=by
 cases h with
 |done=>simp at h1
 |half h1 h2 h3=>omega
 |flip h2 h3=>exact h3
theorem JR.or{s a n g}(h:JR s a n g):(s=1\/s= -1)->g=0\/g=1\/g= -1:=by
 induction h with
 |done=>intro hs;split<;>omega
 |half h1 h2 h3 ih=>intro hs;exact ih (by split<;>omega)
 |flip h1 h2 ih=>intro hs;exact ih (by split<;>omega)
theorem JR.ex:∀f a,a<=f->∀s n,(s=1\/s= -1)->∃g:Int,JR s a n g/\(g=0\/g=1\/g= -1)
 |f,0,_,s,n,hs=>⟨_,.done,by split<;>omega⟩
 |0,a+1,h,s,n,hs=>by omega
 |f+1,a+1,h,s,n,hs=>by
  rcases xU (a+1)with h2 | h2
  ·obtain⟨g,h3,h4⟩:=JR.ex f ((a+1)/2) (by omega) (if n%8=3\/n%8=5 then -s else s) n (by split<;>omega);exact⟨g,.half (by omega) h2 h3,h4⟩
  ·have:=Nat.mod_lt n (show 0<a+1 by omega);obtain⟨g,h3,h4⟩:=JR.ex f (n%(a+1)) (by omega) (if(a+1)%4=3/\n%4=3 then -s else s) (a+1) (by split<;>omega);exact⟨g,.flip h2 h3,h4⟩
theorem jcq{g:Int}{n a0:Nat}{s0:Int}{E:Env}{Q:Post}(hn:n%2=1)(hn2:n<1099511627776)(ha2:a0<1099511627776)(h0:a0≠0)(hg:JR s0 a0 n g)(hs:s0=1\/s0= -1)(e0:E 0= .int .i64 (a0:Int))(e1:E 1= .int .i64 (n:Int))(e5:E 5= .int .i64 s0)
  (hQ:∀(E:Env) (a:Nat) (s:Int),a%2=1->a<=a0->JR s a n g->(s=1\/s= -1)->E 0= .int .i64 (a:Int)->E 1= .int .i64 (n:Int)->E 5= .int .i64 s->Q (.exit 2) E []):
  Wg 0 40 (.loop l103_1) E [] Q:=by
 refine zaj (λk E H=>∃s:Int,H=[]/\k≠0/\k<=a0/\JR s k n g/\(s=1\/s= -1)/\E 0= .int .i64 (k:Int)/\E 1= .int .i64 (n:Int)/\E 5= .int .i64 s) (n:=a0) ⟨s0,rfl,h0,qV _,hg,hs,e0,e1,e5⟩ ?_;clear h0 hg hs e0 e1 e5 E;rintro k E H ⟨s,rfl,hk0,hka,hg,hs,e0,e1,e5⟩;refine wM ?_;have et:Int.tmod (k:Int) 2=((k%2:Nat):Int):=rfl;have eq:IntKind.i64.wrap (Int.tdiv (k:Int) 2)=((k/2:Nat):Int):=by rw[show Int.tdiv (k:Int) 2=((k/2:Nat):Int)from rfl];exact w64 (by omega) (by omega)
 have e8:Int.tmod (n:Int) 8=((n%8:Nat):Int):=rfl;have hw:=wneg hs;rcases xU k with hk | hk
 ·have d1:decide (((k%2:Nat):Int)=0)=true:=dT;have h1:=hg.evn hk0 hk;simp only[l103_1,r103_3,SS,fC,reduceIte,qQ,e0,et,d1];refine⟨by decide,?_⟩;by_cases h3:n%8=3\/n%8=5
  ·rw[if_pos h3]at h1;have hs2: -s=1\/ -s= -1:=by omega
   rcases h3 with h3 | h3
   ·have d3:decide (((n%8:Nat):Int)=3)=true:=dT;simp only[r103_4,r103_5,r103_6,↓zkk,SS,fC,reduceCtorEq,reduceIte,qQ,e0,e1,e5,eq,e8,d3,hw];refine⟨by decide,by decide,k/2,_,_,by omega,⟨-s,rfl,by omega,by omega,h1,hs2,?_,?_,?_⟩,.refl⟩<;>simp only[UU,qQ,reduceIte, *]
   ·have d3:decide (((n%8:Nat):Int)=3)=false:=dF;have d5:decide (((n%8:Nat):Int)=5)=true:=dT;simp only[r103_4,r103_5,r103_6,↓zcq,SS,fC,reduceCtorEq,reduceIte,qQ,e0,e1,e5,eq,e8,d3,d5,hw];refine⟨by decide,by decide,by decide,k/2,_,_,by omega,⟨-s,rfl,by omega,by omega,h1,hs2,?_,?_,?_⟩,.refl⟩<;>simp only[UU,qQ,reduceIte, *]
  ·rw[if_neg h3]at h1;have d3:decide (((n%8:Nat):Int)=3)=false:=dF;have d5:decide (((n%8:Nat):Int)=5)=false:=dF;simp only[r103_4,r103_5,↓zcq,SS,fC,reduceCtorEq,reduceIte,qQ,e0,e1,eq,e8,d3,d5];refine⟨by decide,by decide,by decide,k/2,_,_,by omega,⟨s,rfl,by omega,by omega,h1,hs,?_,?_,?_⟩,.refl⟩<;>simp only[UU,qQ,reduceIte, *]
 ·have d1:decide (((k%2:Nat):Int)=0)=false:=dF;simp only[l103_1,r103_3,SS,fC,reduceIte,qQ,e0,et,d1];refine⟨by decide,hQ _ k s hk hka hg hs ?_ ?_ ?_⟩<;>simp only[UU,qQ, *]
theorem qus{a n:Nat}(hn:n%2=1)(hn2:n<1099511627776)(ha:a<n){g:Int}(hj:JR 1 a n g):Rt 103 [.int .i64 (a:Int),.int .i64 (n:Int)] [] (.int .i64 g) []:=by
 refine oF o103 ?_;simp only[c103,r103_0,r103_1,SS,reduceCtorEq]
 refine zaj (λk E H=>∃(m:Nat) (s:Int),H=[]/\m%2=1/\m<1099511627776/\k<1099511627776/\JR s k m g/\(s=1\/s= -1)/\E 0= .int .i64 (k:Int)/\E 1= .int .i64 (m:Int)/\E 5= .int .i64 s) (n:=a)
  ⟨n,1,rfl,hn,hn2,by omega,hj,.inl rfl,by rfl,by rfl,by rfl⟩ ?_
 clear hn hn2 ha hj;rintro k E H ⟨n1,s,rfl,hn,hn2,hk2,hg,hs,e0,e1,e5⟩;refine wM ?_;rcases qD k with rfl | hk
 ·have d1:decide (((0:Nat):Int)≠0)=false:=by decide
  have hv:=hg.zero;simp only[l103_0,r103_2,SS,fC,reduceCtorEq,reduceIte,qQ,e0,d1];by_cases h1:n1=1
  ·have d2:decide ((n1:Int)≠1)=false:=by simp[h1]
   rw[if_pos h1]at hv;subst hv;simp only[r103_10,SS,fC,reduceIte,qQ,e1,d2];simp only[r103_12,SS,reduceIte,qQ,e5];exact kR
  ·have d2:decide ((n1:Int)≠1)=true:=by simp;omega
   rw[if_neg h1]at hv;subst hv;simp only[r103_10,SS,fC,reduceIte,qQ,e1,d2];simp only[r103_11,SS];exact kR
 ·have d1:decide ((k:Int)≠0)=true:=dT;simp only[l103_0,r103_2,SS,fC,reduceCtorEq,reduceIte,qQ,e0,d1];refine jcq hn hn2 hk2 (by omega) hg hs (by exact e0) (by exact e1) (by exact e5) ?_;clear hg hs e0 e1 e5 E;intro E b t hb hbk hg hs e0 e1 e5;have h4a:Int.tmod (b:Int) 4=((b%4:Nat):Int):=rfl;have h4n:Int.tmod (n1:Int) 4=((n1%4:Nat):Int):=rfl;have hr:Int.tmod (n1:Int) (b:Int)=((n1%b:Nat):Int):=rfl;have hlt:=Nat.mod_lt n1 (show 0<b by omega);have h1:=hg.odd hb;have hw:=wneg hs;by_cases hf:b%4=3/\n1%4=3
  ·have da:decide (((b%4:Nat):Int)=3)=true:=dT;have dn:decide (((n1%4:Nat):Int)=3)=true:=dT;rw[if_pos hf]at h1;simp only[r103_7,r103_8,r103_9,↓zcq,SS,fC,reduceCtorEq,reduceIte,qQ,e0,e1,e5,h4a,h4n,hr,da,dn,hw];refine⟨by decide,by decide,by omega,n1%b,_,_,by omega,⟨b,-t,rfl,hb,by omega,by omega,h1,by omega,?_,?_,?_⟩,.refl⟩<;>simp only[UU,qQ,reduceIte, *]
  ·rw[if_neg hf]at h1;by_cases h3:b%4=3
   ·have da:decide (((b%4:Nat):Int)=3)=true:=dT;have dn:decide (((n1%4:Nat):Int)=3)=false:=dF;simp only[r103_7,r103_9,↓zcq,SS,fC,reduceCtorEq,reduceIte,qQ,e0,e1,h4a,h4n,hr,da,dn];refine⟨by decide,by decide,by omega,n1%b,_,_,by omega,⟨b,t,rfl,hb,by omega,by omega,h1,hs,?_,?_,?_⟩,.refl⟩<;>simp only[UU,qQ,reduceIte, *]
   ·have da:decide (((b%4:Nat):Int)=3)=false:=dF;simp only[r103_7,r103_9,↓zkk,SS,fC,reduceCtorEq,reduceIte,qQ,e0,e1,h4a,hr,da];refine⟨by decide,by omega,n1%b,_,_,by omega,⟨b,t,rfl,hb,by omega,by omega,h1,hs,?_,?_,?_⟩,.refl⟩<;>simp only[UU,qQ,reduceIte, *]
inductive KR(a:Int):Int->Nat->Int->Prop
 |zero {s:Int} {n:Nat}:n%2=0->a%2=0->KR a s n 0
 |half {s:Int} {n:Nat} {g:Int}:n%2=0->a%2≠0->KR a (if a%8=3\/a%8=5 then -s else s) (n/2) g->KR a s n g
 |done {s:Int} {n:Nat} {j:Int}:n%2=1->JR 1 (a%(n:Int)).toNat n j->KR a s n (s*j)
theorem KR.ex(a:Int):∀f n,n<=f->1<=n->∀s:Int,(s=1\/s= -1)->∃g:Int,KR a s n g/\(g=0\/g=1\/g= -1)
 |0,n,h,h1,s,hs=>by omega
 |f+1,n,h,h1,s,hs=>by
  rcases xU n with h2 | h2
  ·by_cases h3:a%2=0
   ·exact⟨0,.zero h2 h3,.inl rfl⟩
   ·obtain⟨g,h4,h5⟩:=KR.ex a f (n/2) (by omega) (by omega) (if a%8=3\/a%8=5 then -s else s) (by split<;>omega);exact⟨g,.half h2 h3 h4,h5⟩
  ·obtain⟨j,h3,h4⟩:=JR.ex _ (a%(n:Int)).toNat (qV _) 1 n (.inl rfl);refine⟨s*j,.done h2 h3,?_⟩;rcases hs with rfl | rfl<;>omega
theorem qxm{a:Int}{n:Nat}{g:Int}(h1: -2147483647<=a)(h2:a<=2147483647)(hn:1<=n)(hn2:n<=2147483647)(hg:KR a 1 n g):Rt 35 [.int .i64 a,.int .i64 (n:Int)] [] (.tup [.int .i64 g,.int .i64 0]) []:=by
 have d1:decide (a< -2147483647)=false:=dF;have d2:decide (2147483647<a)=false:=dF;have d3:decide ((n:Int)< -2147483647)=false:=dF;have d4:decide (2147483647<(n:Int))=false:=dF;have d5:decide ((n:Int)=0)=false:=dF;have d6:decide ((n:Int)<0)=false:=dF;refine oF o35 ?_;simp only[c35,r35_0,r35_1,↓zcq,SS,fC,reduceCtorEq,reduceIte,qQ,d1,d2,d3,d4];simp only[r35_3,SS,fC,reduceIte,qQ,d5];simp only[r35_7,r35_8,SS,fC,reduceIte,qQ,d6]
 refine zaj (λk E H=>∃s:Int,H=[]/\1<=k/\k<=n/\(s=1\/s= -1)/\KR a s k g/\E 0= .int .i64 a/\E 1= .int .i64 (k:Int)/\E 6= .int .i64 s) (n:=n)
  ⟨1,rfl,hn,qV n,.inl rfl,hg,?_,?_,?_⟩ ?_
 ·rfl
 ·rfl
 ·rfl
 rintro k E H ⟨s,rfl,hk1,hkn,hs,hK,e0,e1,e6⟩;refine wM ?_;have et:Int.tmod (k:Int) 2=((k%2:Nat):Int):=rfl;have eq:IntKind.i64.wrap (Int.tdiv (k:Int) 2)=((k/2:Nat):Int):=by rw[show Int.tdiv (k:Int) 2=((k/2:Nat):Int)from rfl];exact w64 (by omega) (by omega)
 have t8:=zrc (a:=a) (n:=8) (by decide) (by decide);have hw:=wneg hs;have at2:Int.tmod a 2=0↔a%2=0:=by rw[yN];split<;>omega
 cases hK with
 |zero h3 h4=>
  have d7:decide (((k%2:Nat):Int)=0)=true:=dT;have d8:decide (Int.tmod a 2=0)=true:=decide_eq_true (at2.2 h4);simp only[l35_0,r35_12,SS,fC,reduceCtorEq,reduceIte,qQ,e1,et,d7];refine⟨by decide,?_⟩;simp only[r35_13,SS,fC,reduceCtorEq,reduceIte,qQ,e0,d8];refine⟨by decide,?_⟩;simp only[r35_14,SS];exact kR
 |half h3 h4 h5=>
  have d7:decide (((k%2:Nat):Int)=0)=true:=dT;have d8:decide (Int.tmod a 2=0)=false:=decide_eq_false λh=>h4 (at2.1 h)
  simp only[l35_0,r35_12,SS,fC,reduceCtorEq,reduceIte,qQ,e1,et,d7];refine⟨by decide,?_⟩;simp only[r35_13,SS,fC,reduceCtorEq,reduceIte,qQ,e0,d8];refine⟨by decide,?_⟩;simp only[r35_15,SS,reduceCtorEq,reduceIte,qQ,e0];refine zaa t8 ?_;simp only[zaf,zac,qZ,qK,SS,reduceIte,qQ];have n8:((8:Nat):Int)=8:=rfl;rw[n8];by_cases h6:a%8=3\/a%8=5
  ·rw[if_pos h6]at h5;have hs2: -s=1\/ -s= -1:=by omega
   rcases h6 with h6 | h6
   ·have d9:decide (a%8=3)=true:=decide_eq_true h6;simp only[r35_16,r35_17,r35_18,↓zkk,SS,fC,reduceIte,qQ,e1,e6,eq,d9,hw];refine⟨by decide,k/2,_,_,by omega,⟨-s,rfl,by omega,by omega,hs2,h5,?_,?_,?_⟩,.refl⟩<;>simp only[UU,qQ,reduceIte, *]
   ·have d9:decide (a%8=3)=false:=dF;have d10:decide (a%8=5)=true:=decide_eq_true h6;simp only[r35_16,r35_17,r35_18,↓zcq,SS,fC,reduceIte,qQ,e1,e6,eq,d9,d10,hw];refine⟨by decide,k/2,_,_,by omega,⟨-s,rfl,by omega,by omega,hs2,h5,?_,?_,?_⟩,.refl⟩<;>simp only[UU,qQ,reduceIte, *]
  ·rw[if_neg h6]at h5;have d9:decide (a%8=3)=false:=dF;have d10:decide (a%8=5)=false:=dF;simp only[r35_16,r35_18,↓zcq,SS,fC,reduceIte,qQ,e1,eq,d9,d10];refine⟨by decide,k/2,_,_,by omega,⟨s,rfl,by omega,by omega,hs,h5,?_,?_,?_⟩,.refl⟩<;>simp only[UU,qQ,reduceIte, *]
 | @done s k j h3 h4=>
  have d7:decide (((k%2:Nat):Int)=0)=false:=dF;have t1:=zrc (a:=a) (n:=k) (by omega) (by omega);have b1:=xO a (show(k:Int)≠0 by omega);have b2:=xG a (show(0:Int)<k by omega);have t2:=qus h3 (by omega) (by omega) h4;rw[yD b1]at t2;simp only[l35_0,r35_12,SS,fC,reduceCtorEq,reduceIte,qQ,e1,et,d7];refine⟨by decide,?_⟩;simp only[r35_19,SS,reduceCtorEq,reduceIte,qQ,e0,e1,e6];refine zaa t1 ?_;simp only[zaf,zac,qZ,qK,SS,reduceIte,qQ,e1];refine zaa t2 ?_;simp only[zaf,zac,qZ,qK,SS,reduceIte,qQ]
  have wj:IntKind.i64.wrap (s*j)=s*j:=by
   rcases h4.or (.inl rfl)with h | h | h<;>rcases hs with e | e<;>rw[h,e]<;>rfl
  simp only[wj];exact kR
def zru(z:Int)(l:List (Nat×Nat)):Int:=if z.sign*(sqS l:Nat)%4=1 then z.sign*(sqS l:Nat)else 4*(z.sign*(sqS l:Nat))
theorem zrv{z:Int}{n:Nat}{l:List (Nat×Nat)}(hz:z≠0)(hn:z.natAbs=n)(hl:FL n l)(hn2:n<=2147483647):Rt 99 [.int .i64 z] [] (.tup [.int .i64 (zru z l),.int .i64 0]) []:=by
 have t1:=znq hz hn hl hn2;have hb:=(qen (a:=l) (b:=[]) (n:=n) (by rw[qK];exact hl)).1
 have hs: -2147483647<=z.sign*(sqS l:Nat)/\z.sign*(sqS l:Nat)<=2147483647:=by
  rcases(by omega:z<0\/0<z)with h | h
  ·rw[qS h];omega
  ·rw[qB h];omega
 unfold zru;generalize z.sign*(sqS l:Nat)=s at*;have t2:=zrc (a:=s) (n:=4) (by decide) (by decide);have n4:((4:Nat):Int)=4:=rfl;rw[n4]at t2;have w4:IntKind.i64.wrap (4*s)=4*s:=w64 (by omega) (by omega);refine oF o99 ?_;simp only[c99,r99_0,r99_1,SS,reduceCtorEq,reduceIte];refine zaa t1 ?_;have d1:decide ((0:Int)≠0)=false:=by decide
 simp only[zaf,zac,qZ,qK,SS,reduceIte,qQ,qI,qL];simp only[r99_2,SS,fC,reduceIte,qQ,d1];by_cases h:s%4=1
 ·have d2:decide (s%4=1)=true:=decide_eq_true h;rw[if_pos h];simp only[r99_4,SS,reduceIte,qQ];refine zaa t2 ?_;simp only[zaf,zac,qZ,qK,SS,fC,reduceIte,qQ,d2];simp only[r99_5,SS,reduceIte,qQ];exact kR
 ·have d2:decide (s%4=1)=false:=decide_eq_false h;rw[if_neg h];simp only[r99_4,SS,reduceIte,qQ];refine zaa t2 ?_;simp only[zaf,zac,qZ,qK,SS,fC,reduceIte,qQ,d2];simp only[r99_6,SS,reduceIte,qQ,w4];exact kR
def odd1:List (Nat×Nat)->List (Nat×Nat)
 | []=>[]
 |(p,e)::l=>if e%2=1 then(p,1)::odd1 l else odd1 l
theorem zwb:∀l,sqR (odd1 l)=1
 | []=>rfl
 |(p,e)::l=>by
  simp only[odd1];split
  ·simp only[sqR,zwb l];rfl
  ·exact zwb l
theorem FL.sq{n:Nat}{l:List (Nat×Nat)}(h:FL n l):FL (sqS l) (odd1 l)/\sqS l∣n:=by
 induction h with
 |one=>exact⟨.one,Nat.dvd_refl _⟩
 | @cons n p e m l h1 h2 h3 h4 h5 h6 ih=>
  obtain⟨i1,i2⟩:=ih;have hp:=(h1.div h2).2;simp only[odd1,sqS];split
  ·have hdv:p*sqS l∣n:=by
    rw[h3];refine Nat.mul_dvd_mul ?_ i2;obtain⟨e,rfl⟩:∃e',e=e'+1:=⟨e-1,by omega⟩
    exact⟨p^e,by rw[qG,qC]⟩
   have hpos:1<=sqS l:=i1.pos.1;have h7:=qP hp hpos;exact⟨.cons (LF.mk hp (by omega) (yZ _ _) λd h8 h9 h10=>h1.min h2 d h8 h9 (xX h10 hdv)) (by omega) (by rw[xM]) (λh=>h4 (xX h i2)) (qV 1) i1,hdv⟩
  ·exact⟨i1,xX i2 ⟨p^e,by rw[h3,qC]⟩⟩
theorem and3(z:Int):IntKind.i64.wrap ((BitVec.ofInt IntKind.i64.bits z &&& BitVec.ofInt IntKind.i64.bits 3).toNat:Int)=z%4:=by
 have e:(BitVec.ofInt IntKind.i64.bits z &&& BitVec.ofInt IntKind.i64.bits 3).toNat=(z%4).toNat:=by
  show(BitVec.ofInt 64 z &&& 3#64).toNat=_
  rw[BitVec.toNat_and,BitVec.toNat_ofInt];show(z%18446744073709551616).toNat &&& (2^2-1)=_
  rw[Nat.and_two_pow_sub_one_eq_mod];omega
 rw[e];have:=xO z (show(4:Int)≠0 by decide);have:=xG z (show(0:Int)<4 by decide);rw[yD (by omega)];exact w64 (by omega) (by omega)
theorem qut{s:Int}{l:List (Nat×Nat)}(hs:s≠0)(hn:s.natAbs<=2147483647)(hl:FL s.natAbs l)(hr:sqR l=1):Rt 186 [.int .i64 s] [] (.bool true) []:=by
 have t1:=znq hs rfl hl hn;rw[hr]at t1;have d1:decide ((0:Int)=0)=true:=by decide
 have d2:decide (((1:Nat):Int)=1)=true:=by decide
 refine oF o186 ?_;simp only[c186,r186_0,r186_1,SS,reduceCtorEq,reduceIte];refine zaa t1 ?_;simp only[zaf,zac,qZ,qK,SS,reduceIte,qQ,qI,qL];have dT:decide True=true:=rfl;simp only[r186_2,↓zcq,SS,reduceIte,qQ,d2,dT];exact kR
theorem zwc{z:Int}{n:Nat}{l:List (Nat×Nat)}(hz:z≠0)(hn:z.natAbs=n)(hl:FL n l)(hn2:n<=10000):Rt 108 [.int .i64 (zru z l)] [] (.bool true) []:=by
 have hb:=(qen (a:=l) (b:=[]) (n:=n) (by rw[qK];exact hl)).1;obtain⟨hF,hd⟩:=hl.sq;have hp:1<=sqS l:=hF.pos.1
 have hs:z.sign*(sqS l:Nat)≠0/\(z.sign*(sqS l:Nat)).natAbs=sqS l:=by
  rcases(by omega:z<0\/0<z)with h | h
  ·rw[qS h];omega
  ·rw[qB h];omega
 have h4:¬4∣sqS l:=by
  intro h;have h2:=(qoe (odd1 l)).symm.trans hF.prod
  have key:∀{k:Nat} {r:List (Nat×Nat)},FL k r->sqR r=1->¬4∣k:=by
   intro k r hk
   induction hk with
   |one=>intro _ h;exact absurd (Nat.le_of_dvd (by decide) h) (by decide)
   | @cons n p e m l h1 h2 h3 h4 h5 h6 ih=>
    intro hr h;have hp:=(h1.div h2).2;simp only[sqR]at hr
    have he:e=1:=by
     have h7:p^(e/2)=1:=Nat.dvd_one.1 ⟨_,hr.symm⟩;rcases(by omega:e/2=0\/1<=e/2)with h8 | h8
     ·omega
     ·have:p^1<=p^(e/2):=qW (by omega) h8;rw[xM]at this;omega
    have hrl:sqR l=1:=Nat.dvd_one.1 ⟨_,by rw[qC];exact hr.symm⟩;subst he;rw[xM]at h3;have hm:=h1.min h2;rcases(by omega:p=2\/2<p)with rfl | hp3
    ·obtain⟨c,hc⟩:=h;exact h4 ⟨c,by omega⟩
    ·exact hm 2 (by decide) hp3 (xX (by decide) h)
  exact key hF (zwb l) h
 unfold zru;generalize z.sign*(sqS l:Nat)=s at*;obtain⟨hs0,hsn⟩:=hs;have t1:=qut hs0 (by omega) (by rw[hsn];exact hF) (zwb l);have hs4:s%4≠0:=λh=>h4 (by omega)
 by_cases h:s%4=1
 ·rw[if_pos h];have d1:decide (s< -40000)=false:=dF;have d2:decide (40000<s)=false:=dF;have d3:decide (s%4=0)=false:=dF;have d4:decide (s%4=1)=true:=decide_eq_true h;refine oF o108 ?_;simp only[c108,r108_0,r108_1,↓zcq,SS,fC,reduceCtorEq,reduceIte,qQ,d1,d2];simp only[r108_3,SS,reduceCtorEq,reduceIte,qQ,and3];simp only[r108_4,SS,fC,reduceIte,qQ,d3];simp only[r108_7,SS,fC,reduceIte,qQ,d4];simp only[r108_8,SS,reduceCtorEq,reduceIte,qQ];refine zaa t1 ?_;simp only[zaf,zac,qZ,qK,SS,reduceIte,qQ];exact kR
 ·rw[if_neg h];have d1:decide (4*s< -40000)=false:=dF;have d2:decide (40000<4*s)=false:=dF;have d3:decide (4*s%4=0)=true:=dT;have d4:decide (2<=s%4)=true:=dT;have eq4:Int.tdiv (4*s) 4=s:=Int.mul_tdiv_cancel_left s (by decide);have wq:IntKind.i64.wrap s=s:=w64 (by omega) (by omega);refine oF o108 ?_;simp only[c108,r108_0,r108_1,↓zcq,SS,fC,reduceCtorEq,reduceIte,qQ,d1,d2];simp only[r108_3,SS,reduceCtorEq,reduceIte,qQ,and3];simp only[r108_4,SS,fC,reduceIte,qQ,d3];simp only[r108_5,SS,reduceCtorEq,reduceIte,qQ,eq4,wq];refine⟨by decide,?_⟩;simp only[r108_6,↓zcq,SS,reduceIte,qQ,and3,d4];refine zaa t1 ?_;simp only[zaf,zac,qZ,qK,SS,reduceIte,qQ];exact kR
open Go.Limb
theorem qxn{q:Int×Int}{v:AV}(h:RV q v):Rt 18 [v] [] (.int .i64 q.1.sign) []:=by
 obtain⟨h,lo⟩:=h;obtain⟨l1,c1,l2,c2,rfl,i1,i2⟩:=h.shape;have t1:=zpx i1;have t2:=zpx i2;rw[qB lo.pos]at t2
 have w:IntKind.i64.wrap (q.1.sign*1)=q.1.sign:=by
  rw[Int.mul_one];rcases Int.lt_trichotomy q.1 0 with h | h | h
  ·rw[qS h];rfl
  ·rw[h];rfl
  ·rw[qB h];rfl
 refine oF o18 ?_;simp only[c18,r18_0,SS,reduceCtorEq];simp only[r18_1,SS,reduceIte,qJ,qQ,qX];refine zaa t1 ?_;simp only[zaf,zac,keys,qZ,qK,SS,reduceIte,qJ,qQ,qX];refine zaa t2 ?_;simp only[zaf,zac,keys,qZ,qK,SS,reduceIte,qQ,w];refine⟨by decide,?_⟩;exact⟨.inl trivial,_,rfl,.freeze 1 _ _ _ rfl (by intro i cs h;omega)⟩
def absQ(q:Int×Int):Int×Int:=if q.1<0 then(-q.1,q.2)else q
theorem zte{q:Int×Int}{v:AV}(h:RV q v):∃r,RV (absQ q) r/\Rt 40 [v] [] r []:=by
 have t1:=qxn h;by_cases hn:q.1<0
 ·obtain⟨r,ir,t2⟩:=rNeg h;rw[qS hn]at t1;refine⟨r,by unfold absQ;rw[if_pos hn];exact ir,?_⟩;obtain⟨l1,c1,l2,c2,rfl,_,_⟩:=h.1.shape;obtain⟨l3,c3,l4,c4,rfl,_,_⟩:=ir.1.shape;refine oF o40 ?_;simp only[c40,r40_0,SS,reduceCtorEq];simp only[r40_1,SS,reduceIte,qJ,qQ,qX];refine zaa t1 ?_;simp only[zaf,zac,qZ,qK,SS,fC,reduceIte,qQ,decide_true,Int.reduceLT,yE];simp only[r40_2,SS,reduceIte,qJ,qQ,qX,yE];refine zaa t2 ?_;simp only[zaf,zac,qZ,qK,SS,reduceIte,qJ,qQ,qX,yE];exact dR
 ·have d1:decide (q.1.sign<0)=false:=decide_eq_false (by
   rcases(by omega:q.1=0\/0<q.1)with h | h
   ·rw[h];decide
   ·rw[qB h];decide)
  refine⟨v,by unfold absQ;rw[if_neg hn];exact h,?_⟩;obtain⟨l1,c1,l2,c2,rfl,_,_⟩:=h.1.shape;refine oF o40 ?_;simp only[c40,r40_0,SS,reduceCtorEq];simp only[r40_1,SS,reduceIte,qJ,qQ,qX];refine zaa t1 ?_;simp only[zaf,zac,qZ,qK,SS,fC,reduceIte,qQ,d1];simp only[r40_3,SS,reduceIte,qJ,qQ,qX];exact dR
theorem zrd{d m:Nat}{l:List (Nat×Nat)}(hd:1<=d)(hm:1<=m)(hdm:d*m<=10000)(hl:FL (d*m) l):Rt 32 [.int .i64 3,.int .i64 (d:Int),.int .i64 (m:Int)] [] (.int .i64 (zru (-((d*m:Nat):Int)) l)) []:=by
 have hp:1<=d*m:=xN hd hm;have t:=zrv (z:= -((d*m:Nat):Int)) (n:=d*m) (by omega) (by omega) hl (by omega);have w1:IntKind.i64.wrap ((d:Int)*(m:Int))=((d*m:Nat):Int):=by rw[<-xB];exact w64 (by omega) (by omega)
 have w2:IntKind.i64.wrap (0-((d*m:Nat):Int))= -((d*m:Nat):Int):=by rw[Int.zero_sub];exact w64 (by omega) (by omega)
 have e1:Int.tmod 3 2=1:=by decide
 have e2:IntKind.i64.wrap (Int.tdiv 3 2)=1:=by decide
 have e3:Int.tmod 1 2=1:=by decide
 have dT:decide True=true:=rfl;refine oF o32 ?_;simp only[c32,r32_0,SS,reduceCtorEq];simp only[r32_1,SS,fC,reduceCtorEq,reduceIte,qQ,e1,dT];refine⟨by decide,?_⟩;simp only[r32_2,SS,reduceIte,qQ,w1];simp only[r32_3,SS,fC,reduceCtorEq,reduceIte,qQ,e2,e3,dT];refine⟨by decide,by decide,?_⟩;simp only[r32_4,SS,reduceIte,qQ,w2];simp only[r32_5,SS,reduceIte,qQ];refine zaa t ?_;simp only[zaf,zac,qZ,qK,SS,reduceIte,qQ,qI,qL];simp only[r32_6,SS,reduceIte,qQ];exact kR
def flat:List (List AV)->List AV
 | []=>[]
 |a::l=>a++flat l
theorem flat_len:∀(l:List (List AV)),(∀a∈l,a.length=4)->(flat l).length=l.length*4
 | [],_=>rfl
 |a::l,h=>by
  simp only[flat,qU,qY,flat_len l λb hb=>h b (xV _ hb),h a (xE ..)];omega
theorem flat_get:∀(d:List (List AV)) (x:List AV) (r:List (List AV)),(∀a∈d,a.length=4)->x.length=4->((flat (d++x::r)).drop (d.length*4)).take 4=x
 | [],x,r,_,hx=>by
  simp only[List.nil_append,flat,xK,Nat.zero_mul,yA];rw[List.take_append_of_le_length (by omega),xZ (by omega)]
 |a::d,x,r,h,hx=>by
  have:=flat_get d x r (λb hb=>h b (xV _ hb)) hx;have ha:=h a (xE ..);simp only[xA,flat,qY];rw[show(d.length+1)*4=a.length+d.length*4 by omega,<-List.drop_drop,List.drop_left];exact this
inductive Chain:Int×Int->List AV->List ((Int×Int)×List AV)->Int×Int->List AV->Prop
 |done {q v}:Chain q v [] q v
 |step {q v p w r u l q' v'}:RV q (.agg v)->Rt 37 [.agg v,.agg w] [] (.agg u) []->RV (mulQ q p) (.agg u)->r=mulQ q p->v.length=4->w.length=4->u.length=4->qA v=true->qA w=true->qA u=true->AV.scalL u=true->AV.scalL w=true->Chain r u l q' v'->Chain q v ((p,w)::l) q' v'
theorem RV.cells{q:Int×Int}{v:AV}(h:RV q v):∃cs,v= .agg cs/\cs.length=4/\qA cs=true/\AV.scalL cs=true:=by
 obtain⟨l1,c1,l2,c2,rfl,_,_⟩:=h.1.shape;exact⟨_,rfl,rfl,by simp only[AV.closed,qA,yK],rfl⟩
theorem Chain.ex{A:Nat}:∀(l:List ((Int×Int)×List AV)) (B:Nat) (q:Int×Int) (v:List AV),RV q (.agg v)->Bd q B->(∀x∈l,RV x.1 (.agg x.2)/\Bd x.1 A)->B*A^l.length<BIG->1<=A->∃v',Chain q v l (l.foldl (λa x=>mulQ a x.1) q) v'/\RV (l.foldl (λa x=>mulQ a x.1) q) (.agg v')/\Bd (l.foldl (λa x=>mulQ a x.1) q) (B*A^l.length)
 | [],B,q,v,hv,hb,_,_,_=>⟨v,.done,hv,by simpa using hb⟩
 |(p,w)::l,B,q,v,hv,hb,h,hB,hA=>by
  obtain⟨hw,bw⟩:=h (p,w) (xE ..);have e:B*A^(l.length+1)=B*A*A^l.length:=by rw[qG,qC (A^l.length),qM]
  have h1:B*A<BIG:=by
   have:1<=A^l.length:=Nat.one_le_pow _ _ hA;have:=qT (B*A) this;rw[qY,e]at hB;omega
  obtain⟨r,ir,br,t⟩:=rMul hv hw hb bw h1;obtain⟨u,rfl,u1,u2,u3⟩:=ir.cells;obtain⟨v0,e1,v1,v2,_⟩:=hv.cells;obtain⟨w0,e2,w1,w2,w3⟩:=hw.cells;simp only[AV.agg.injEq]at e1 e2;subst e1 e2;rw[qY,e]at hB ⊢;obtain⟨v',c,hv',hb'⟩:=Chain.ex l (B*A) _ u ir br (λx hx=>h x (xV _ hx)) hB hA;exact⟨v',.step hv t ir rfl v1 w1 u1 v2 w2 u2 u3 w3 c,hv',hb'⟩
theorem qog{l:List ((Int×Int)×List AV)}{c:Option Nat}{A:Nat}(hA:1<=A)(hl:∀x∈l,RV x.1 (.agg x.2)/\Bd x.1 A)(hlen:l.length<=100)(hB:1*A^l.length<BIG):
  ∃r,RV (l.foldl (λa x=>mulQ a x.1) (1,1)) r/\Bd (l.foldl (λa x=>mulQ a x.1) (1,1)) (1*A^l.length)/\Rt 115 [.vec (flat (l.map (·.2))) l.length c] [] r []:=by
 obtain⟨w,iw,t1⟩:=zjf 1 (by decide) (by decide);have iw:RV (1,1) w:=⟨iw,zds⟩
 obtain⟨w,rfl,w1,w2,w3⟩:=iw.cells;obtain⟨r,hC,hr,br⟩:=Chain.ex l 1 (1,1) w iw ⟨qV 1,qV 1⟩ hl hB hA;refine⟨_,hr,br,?_⟩;generalize l.foldl (λa x=>mulQ a x.1) (1,1)=Q at*
 have h4:∀a∈l.map (·.2),a.length=4:=λa ha=>by
  obtain⟨x,hx,rfl⟩:=List.mem_map.1 ha;obtain⟨cs,e,h1,_⟩:=(hl x hx).1.cells;simp only[AV.agg.injEq]at e;rw[e];exact h1
 refine oF o115 ?_;simp only[c115,r115_0,SS,reduceCtorEq];simp only[r115_1,SS];refine zaa t1 ?_ rfl w2;simp only[zaf,zac,qZ,qK,SS,reduceIte,qJ,qQ,qX]
 have four:∀w:List AV,w.length=4->∃a b c d,w=[a,b,c,d]:=λw h=>by
  match w,h with
  | [a,b,c,d],_=>exact⟨a,b,c,d,rfl⟩
 obtain⟨x0,x1,x2,x3,rfl⟩:=four w w1;refine⟨⟨rfl,w3⟩,?_⟩;have hfl:=flat_len _ h4;rw[yY]at hfl;simp only[r115_2,SS,reduceCtorEq,reduceIte,qJ,qQ]
 refine zaj (λk E H=>∃dn rs q v,l=dn++rs/\rs.length=k/\Chain q v rs Q r/\RV q (.agg v)/\getB H 1=some v/\(∃z,getB H 0=some z/\z.length=4)/\E 2= .ptr 0 0/\E 3= .ptr 1 0/\E 7= .vec (flat (l.map (·.2))) l.length c/\E 8= .int .i64 (l.length:Nat)/\E 9= .int .i64 (dn.length:Nat)) (n:=l.length)
  ⟨[],l,(1,1),_,rfl,rfl,hC,iw,rfl,⟨_,rfl,rfl⟩,?_,?_,?_,?_,?_⟩ ?_
 ·rfl
 ·rfl
 ·rfl
 ·rfl
 ·rfl
 rintro k E H ⟨dn,rs,q,v,el,hk,hc,hv,hb1,⟨z,hb0,hz⟩,e2,e3,e7,e8,e9⟩;refine wM ?_;cases hc with
 |done=>
  rw[qK]at el;subst el;have d1:decide ((l.length:Int)<(l.length:Nat))=false:=dF;obtain⟨v0,e0,v1,v2,v3⟩:=hv.cells;simp only[AV.agg.injEq]at e0;subst e0;obtain⟨x0,x1,x2,x3,rfl⟩:=four _ v1;obtain⟨z0,z1,z2,z3,rfl⟩:=four _ hz;simp only[l115_0,r115_3,SS,fC,reduceCtorEq,reduceIte,e8,e9,d1];simp only[r115_7,SS,reduceIte,qJ,qQ,qX,e2,e3,hb1,hb0];have hld:ldSz Tryz.prog 34=some (true,4):=by kernel_rfl
  refine⟨by simpa only[AV.scalL,yG]using v3,.inl trivial,.agg [x0,x1,x2,x3],?_,.drop _ _ (zbd _ [x0,x1,x2,x3] v2) (by intro i cs h;omega)⟩;have hs:getB (H.set 0 (some [x0,x1,x2,x3])) 0=some [x0,x1,x2,x3]:=zaw (zam hb0);simp only[resA,xH,List.mapM_nil,zeh,hld,UU,qQ,e2,hs,need];rfl
 | @step _ _ p w r' u rs _ _ g1 g2 g3 g4 g5 g6 g7 g8 g9 g10 g11 g12 g13=>
  subst g4;rw[qY]at hk;have hle:dn.length+(rs.length+1)=l.length:=by rw[el,qU,qY]
  have d1:decide ((dn.length:Int)<(l.length:Nat))=true:=dT;have w9:=wS1 dn.length (by omega);have hg:=flat_get (dn.map (·.2)) w (rs.map (·.2)) (λa ha=>h4 a (by rw[el,yP];exact yB _ ha)) g6;rw[yY]at hg;have hm:dn.map (·.2)++w::rs.map (·.2)=l.map (·.2):=by rw[el,yP];rfl
  rw[hm]at hg;obtain⟨y0,y1,y2,y3,rfl⟩:=four _ g5;obtain⟨w0,w1',w2',w3',rfl⟩:=four _ g6;obtain⟨u0,u1,u2,u3,rfl⟩:=four _ g7;simp only[l115_0,r115_3,SS,fC,reduceCtorEq,reduceIte,e8,e9,d1];simp only[r115_4,SS,reduceIte,qJ,qQ,e7,e9,yQ,hg,hfl];have g0:getB (H++[some [AV.bool false,AV.vec [] 0 (some 0),AV.bool false,AV.vec [] 0 (some 0)]]) (List.length H)=some [AV.bool false,AV.vec [] 0 (some 0),AV.bool false,AV.vec [] 0 (some 0)]:=zba
  have s0:∀x:List AV,List.set (H++[some [AV.bool false,AV.vec [] 0 (some 0),AV.bool false,AV.vec [] 0 (some 0)]]) (List.length H) (some x)=H++[some x]:=λx=>by
   rw[xW _ _ (qV _),yV];rfl
  have l1:=zam hb1;have l0:=zam hb0;refine⟨⟨by omega,by omega⟩,by omega,?_⟩;rw[g0];simp only[zar,xD,xC,s0];refine⟨⟨by simpa only[AV.scalL,yG]using g12,by decide⟩,?_⟩;have c1:getB (H++[some [w0,w1',w2',w3']]) 1=some [y0,y1,y2,y3]:=by rw[zbm l1];exact hb1
  have c2:getB (H++[some [w0,w1',w2',w3']]) H.length=some [w0,w1',w2',w3']:=zba;simp only[r115_5,SS,reduceIte,qJ,qQ,qX,e3,c1,c2];refine zaa g2 ?_ (by show(qA [y0,y1,y2,y3] && (qA [w0,w1',w2',w3'] && true))=true;rw[g8,g9];rfl) g10;have c3:getB ((H++[some [w0,w1',w2',w3']]).set 1 (some [u0,u1,u2,u3])) 1=some [u0,u1,u2,u3]:=zaw (zam c1);have c4:getB ((H++[some [w0,w1',w2',w3']]).set 1 (some [u0,u1,u2,u3])) 0=some z:=by rw[zai (by decide),zbm l0];exact hb0
  simp only[zaf,zac,qZ,qK,SS,reduceIte,qJ,qQ,qX,e3,c1];refine⟨by simpa only[AV.scalL,yG]using g11,?_⟩;simp only[r115_6,SS,reduceIte,qQ,e9,w9];refine⟨rs.length,_,_,by omega,⟨dn++[(p,[w0,w1',w2',w3'])],rs,_,_,by rw[xL];exact el,rfl,g13,g3,c3,⟨z,c4,hz⟩,?_,?_,?_,?_,?_⟩,.refl⟩
  ·exact e2
  ·exact e3
  ·exact e7
  ·exact e8
  ·simp only[UU,qQ,reduceIte,qU,qY,xK,xI]
