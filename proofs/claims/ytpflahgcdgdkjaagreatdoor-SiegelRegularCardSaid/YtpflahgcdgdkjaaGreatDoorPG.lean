/- A part of the proof. -/
import Derived.Test.YtpflahgcdgdkjaaGreatDoorPF
import Derived.Test.YtpflahgcdgdkjaaGreatDoorPB
import Derived.Test.YtpflahgcdgdkjaaGreatDoorPC
import Derived.Test.YtpflahgcdgdkjaaGreatDoorPD
import Derived.Test.YtpflahgcdgdkjaaGreatDoorPA
import Derived.Test.YtpflahgcdgdkjaaGreatDoorPE
set_option linter.all false
set_option maxRecDepth 100000
namespace Go.Proofs.YtpflahgcdgdkjaaGreatDoor
open Nat renaming reduceEqDiff -> qQ, reduceLeDiff -> qX, reduceAdd -> qZ, mod_eq_zero_of_dvd -> qU, dvd_of_mod_eq_zero -> qB, pow_le_pow_right -> qG, mod_lt -> xC, le_trans -> xI, lt_of_le_of_lt -> yK, pow_one -> yD
open Go.AL.AV.closed renaming closedL -> qJ
open List renaming getElem?_cons_succ -> qK, getElem?_cons_zero -> qW, replicate_zero -> qV, append_nil -> qA
open Int renaming toNat_natCast -> qY, one_mul -> qM, emod_nonneg -> xW, mul_one -> xP, toNat_of_nonneg -> xT
open Bool renaming and_self -> qE
open Go Go.AL Go.Proofs Go.Limb Go.Det
theorem jed{n p t:Nat}{M:List (List Int)}(hp:0<p)(ht:t<p)(hsy:∀i j,i<n->j<n->rowF M i j=rowF M j i):(((Count.allV p n).countP λy=>decide (Count.nrm (gN n M p) n y%p=t):Nat):Int)=QR.NS p (rowF M) n t:=by
 refine QR.count_NS ht λi j hi hj=>?_
 rw[qmh];unfold modM;rw[zco hi hj,xT (xW _ (by omega)),hsy j i hj hi];have:=QR.emod_dvd (ent M i j) p;have h2:(p:Int)∣ -(ent M i j-ent M i j%(p:Int)):=Int.dvd_neg.2 this
 rwa[show -(ent M i j-ent M i j%(p:Int))=ent M i j%(p:Int)-rowF M i j by show _=_-ent M i j;omega]at h2
set_option maxHeartbeats 1000000 in
theorem jag{rows:List AV}{ch:Option Nat}{n p k:Nat}{M:List (List Int)}(hV:ImV M (.vec rows n ch))(hS:Shp n M)(hR:Red n (rowF M))(hchk:Rt 26 [.vec rows n ch,.int .i64 (p:Int)] [] (.int .i64 0) [])(hp:PrmZ (p:Int))(ho:p%2=1)(hpow:p^n<=3000)
  (hk:1<=k/\k<=1000) (hnd:¬(p:Int)∣k) (hdd:¬(p:Int)∣lead (rowF M) n):
  ∃r,zbb (numR ((p^(n/2):Nat)-regC p n (lead (rowF M) n) k) ((p^(n/2):Nat):Int)) (denR ((p^(n/2):Nat)-regC p n (lead (rowF M) n) k) ((p^(n/2):Nat):Int)) r/\Rt 15 [.vec rows n ch,.int .i64 (p:Int),.int .i64 (k:Int)] [] (.tup [r,.int .i64 0]) []:=by
 have n1:=hR.n1;have n8:=hR.n8;have hp':2<=p:=by have:=hp.1;omega
 have hp3:p<=3000:=xI (by have:=qG (n:=p) (by omega) n1;rwa[yD]at this) hpow;have P:=jec hp' hp.2.2.2 ho;have hkd:k%p≠0:=λe=>hnd (Int.natCast_dvd_natCast.2 (qB e))
 have h2k:(2*k)%p≠0:=λe=>by
  have h1:=P.cop 2 (by omega) (by omega);exact hkd (qU (h1.dvd_of_dvd_mul_left (qB e)))
 have hAle:p^(n-1)<=3000:=xI (qG (by omega) (by omega)) hpow;have hA0:1<=p^(n-1):=Nat.one_le_pow _ _ (by omega);obtain⟨fin,f1,f2,f3⟩:=qst hV hS (λi j hi hj=>hR.sym i j hi hj) ⟨n1,n8⟩ (m:=p) hp' (by omega) (yK hpow (by decide));have hcl:=hV.closed;have hcf:(AV.vec (ints fin) p (some p)).closed=true:=by simp only[AV.closed]
 have tC:=qso (e:=1) hcl hchk (by omega) (by omega) (by omega) n1 (by omega) (by rw[yD];omega) (by rw[yD];exact f3) hcf;have hNS:((fin.getD (k%p) 0:Nat):Int)=QR.NS p (rowF M) n ((k%p:Nat):Int):=by rw[f2];exact jed (by omega) (xC _ (by omega)) (λi j hi hj=>hR.sym i j hi hj)
 have hNle:fin.getD (k%p) 0<=3000:=by
  rw[f2];refine xI List.countP_le_length ?_;rw[Count.allV_len];exact hpow
 obtain⟨v1,e1⟩:=qta P hp3 n1 (a:=rowF M) (λi j hi hj=>hR.sym i j hi hj) hdd (t:=((k%p:Nat):Int)) (m:=k) (by
  rw[Int.natCast_emod];exact QR.emod_dvd _ _) hnd
 rw[<-hNS]at v1 e1;rw[<-v1,<-e1];generalize hCe:fin.getD (k%p) 0=C at*;obtain⟨x,ix,t1⟩:=zrf ((2*k:Nat):Int) (by omega) (by omega);obtain⟨r0,ir0,tv⟩:=jdt hp (by omega) (by omega) (by omega) h2k ix;obtain⟨w,iw,t2⟩:=zpr (p:Int) (by omega) (by omega);obtain⟨y,iy,t3⟩:=jdo iw (s:=n-1) (by omega) (by omega) (by omega) (by omega) false (by simp);simp only[Bool.false_eq_true,if_false]at iy t3;obtain⟨z,iz,t4⟩:=zpr (C:Int) (by omega) (by omega);obtain⟨r,ir,t5⟩:=qfz iz iy (zjs (by omega)) (zjs (by omega)) (by omega) (by rw[xP];omega) (by rw[qM];omega);rw[xP,qM]at ir;obtain⟨_,_,rfl⟩:=ix.shape;obtain⟨_,_,rfl⟩:=ir0.shape;obtain⟨_,_,_,_,rfl,_,_⟩:=iw.shape;obtain⟨_,_,_,_,rfl,_,_⟩:=iy.shape;obtain⟨_,_,_,_,rfl,_,_⟩:=iz.shape;obtain⟨_,_,_,_,rfl,_,_⟩:=ir.shape;refine⟨_,ir,?_⟩;have c0:qJ [.vec rows n ch,.int .i64 (p:Int)]=true:=by simp only[qJ,hcl];rfl
 have cA:∀y:Int,qJ [.vec rows n ch,.int .i64 (p:Int),.int .i64 y]=true:=λy=>by simp only[qJ,hcl];rfl
 have cV:AV.closed (.tup [.vec (ints fin) p (some p),.int .i64 0])=true:=by simp only[AV.closed,qJ,qE]
 have d1:decide ((k:Int)<1)=false:=dF;have d2:decide (1000<(k:Int))=false:=dF;have w1:IntKind.i64.wrap (2*(k:Int))=((2*k:Nat):Int):=wQ (by omega);have w2:IntKind.i64.wrap (2*0)=0:=by decide
 have w3:IntKind.i64.wrap (0+1)=((1:Nat):Int):=by decide
 have w4:IntKind.i64.wrap ((n:Int)-1)=((n-1:Nat):Int):=wQ (by omega);have et:Int.tmod (k:Int) (p:Int)=((k%p:Nat):Int):=rfl;have hkM:=xC k (show 0<p by omega);have ga:=zfa fin (k%p) (by omega) AV.junk;rw[hCe]at ga;refine oF o15 ?_;simp only[c15,r15_0,SS,reduceCtorEq];simp only[r15_1,SS,reduceCtorEq,reduceIte,qQ];refine zaa hchk ?_ c0;simp only[zay,zad,qV,qA,SS,reduceIte,qQ];simp only[r15_2,SS,reduceIte,qQ];refine⟨λh=>absurd rfl h,λ_=>?_⟩;simp only[r15_4,↓zcn,SS,fC,reduceIte,qQ,d1,d2];simp only[r15_6,SS,reduceIte,qQ,w1];refine zaa t1 ?_;simp only[zay,zad,qV,qA,SS,reduceIte,qQ];refine zaa tv ?_;simp only[zay,zad,qV,qA,SS,reduceIte,qZ,qQ,qX,qW,qK];simp only[r15_7,SS,reduceCtorEq,reduceIte,qQ,w2,w3];refine zaa tC ?_ (cA _) cV;simp only[zay,zad,qV,qA,SS,reduceIte,qQ,qW,qK];simp only[r15_8,SS,reduceIte,qQ];refine⟨λh=>absurd rfl h,λ_=>?_⟩;simp only[r15_10,SS,reduceIte,qQ];simp only[r15_11,SS,reduceIte,qQ];refine zaa t2 ?_;simp only[zay,zad,qV,qA,SS,reduceCtorEq,reduceIte,qQ,w4];refine zaa t3 ?_;simp only[zay,zad,qV,qA,SS,reduceIte,qZ,qQ,qX,qW,qK];simp only[r15_12,SS,fC,reduceIte,qQ,et,qY,ga,zhf,f1];refine⟨by omega,⟨Int.natCast_nonneg _,Int.ofNat_lt.2 hkM⟩,hkM,?_⟩;refine zaa t4 ?_;simp only[zay,zad,keys,qV,qA,SS,reduceIte,qZ,qQ,qX];refine zaa t5 ?_;simp only[zay,zad,keys,qV,qA,SS,reduceIte,qZ,qQ,qX];refine⟨rfl,?_⟩;exact dR
end Go.Proofs.YtpflahgcdgdkjaaGreatDoor
namespace Go.Proofs.YtpflahgcdgdkjaaGreatDoor
open Nat renaming reduceEqDiff -> qQ, reduceLeDiff -> qX, reduceAdd -> qZ, dvd_of_mod_eq_zero -> qB, le_refl -> qD, mod_two_eq_zero_or_one -> qL, lt_or_ge -> qO, mul_le_mul -> qR, eq_zero_or_pos -> xV, mul_assoc -> xU, mul_le_mul_right -> xA, mod_lt -> xC, pow_zero -> xL, mul_mod -> xS, gcd_comm -> yV, mod_eq_of_lt -> yA, mul_one -> yE
open List renaming getElem?_cons_succ -> qK, getElem?_cons_zero -> qW
open Int renaming natCast_mul -> qH, tmod_eq_emod_of_nonneg -> qI, one_mul -> qM, emod_lt_of_pos -> xQ, emod_nonneg -> xW, mul_one -> xP, emod_emod_of_dvd -> xR, toNat_of_nonneg -> xT
open Go Go.AL Go.Proofs Go.QR
theorem qnc(a:Int){m:Nat}(hm:0<m):Int.tmod a m=a%m\/Int.tmod a m<0/\Int.tmod a m+m=a%m:=by
 rcases Int.le_total 0 a with h | h
 ·exact .inl (qI h)
 ·have e:=Int.tmod_eq_emod (a:=a) (b:=(m:Int));rw[e];split
  ·exact .inl (by omega)
  ·refine .inr ?_;have h1:=xQ a (show(0:Int)<m by omega);have:((m:Int).natAbs:Int)=m:=by omega
   omega
theorem qnd{a:Int}{n:Nat}(hn:1<=n)(hn2:n<=1099511627776):Rt 92 [.int .i64 a,.int .i64 (n:Int)] [] (.int .i64 (a%(n:Int))) []:=by
 have hn0:(n:Int)≠0:=by omega
 have h1:=xW a hn0;have h2:=xQ a (show(0:Int)<n by omega);have w1:IntKind.i64.wrap (Int.tmod a n+n)=Int.tmod a n+n:=by rcases qnc a (m:=n) (by omega)with h | h<;>exact w64 (by omega) (by omega)
 have e:Int.tmod (Int.tmod a n+n) n=a%n:=by
  rcases qnc a (m:=n) (by omega)with h | ⟨h,h'⟩
  ·rw[h,qI (by omega),Int.add_emod_right,xR _ (Int.dvd_refl _)]
  ·rw[h',qI h1,xR _ (Int.dvd_refl _)]
 refine oF o92 ?_;simp only[c92,r92_0,r92_1,SS,reduceCtorEq,reduceIte,qQ,w1,e];refine⟨hn0,hn0,?_⟩;exact kR
theorem jah{a n:Nat}(hn:n%2=1)(hc:Nat.Coprime n a)(ha:a%2=0):GS a n=(if n%8=3\/n%8=5 then -1 else 1)*GS (a/2) n/\Nat.Coprime n (a/2):=by
 have hc2:Nat.Coprime n (a/2):=hc.coprime_dvd_right (Nat.div_dvd_of_dvd (qB ha))
 have h2:Nat.Coprime n 2:=by
  unfold Nat.Coprime;rw[yV,Nat.gcd_rec,hn];rfl
 refine⟨?_,hc2⟩;have:=qvl hn h2 hc2;rw[show 2*(a/2)=a by omega,qvm hn]at this;exact this
theorem jai{a n:Nat}(ha:a%2=1)(hn:n%2=1)(hc:Nat.Coprime n a):GS a n=(if a%4=3/\n%4=3 then -1 else 1)*GS (n%a) a/\Nat.Coprime a (n%a):=by
 refine⟨by rw[qdi];exact qdl ha hn hc,?_⟩;unfold Nat.Coprime at hc ⊢;rw[yV,<-Nat.gcd_rec];rw[yV];exact hc
theorem wneg{s:Int}(h:s=1\/s= -1):IntKind.i64.wrap (0-s)= -s:=by rcases h with rfl | rfl<;>rfl
theorem jaj{g:Int}{n a0:Nat}{s0:Int}{E:Env}{Q:Post}(hn:n%2=1)(hn2:n<1099511627776)(ha2:a0<1099511627776)(h0:a0≠0)(hc:Nat.Coprime n a0)(hg:s0*GS a0 n=g)(hs:s0=1\/s0= -1)(e0:E 0= .int .i64 (a0:Int))(e1:E 1= .int .i64 (n:Int))(e5:E 5= .int .i64 s0)
  (hQ:∀(E:Env) (a:Nat) (s:Int),a%2=1->a<=a0->Nat.Coprime n a->s*GS a n=g->(s=1\/s= -1)->E 0= .int .i64 (a:Int)->E 1= .int .i64 (n:Int)->E 5= .int .i64 s->Q (.exit 2) E []):
  Wg 0 40 (.loop l93_1) E [] Q:=by
 refine zaf (λk E H=>∃s:Int,H=[]/\k≠0/\k<=a0/\Nat.Coprime n k/\s*GS k n=g/\(s=1\/s= -1)/\E 0= .int .i64 (k:Int)/\E 1= .int .i64 (n:Int)/\E 5= .int .i64 s) (n:=a0) ⟨s0,rfl,h0,qD _,hc,hg,hs,e0,e1,e5⟩ ?_;clear h0 hc hg hs e0 e1 e5 E;rintro k E H ⟨s,rfl,hk0,hka,hc,hg,hs,e0,e1,e5⟩;refine wM ?_;have et:Int.tmod (k:Int) 2=((k%2:Nat):Int):=rfl;have eq:IntKind.i64.wrap (Int.tdiv (k:Int) 2)=((k/2:Nat):Int):=by rw[show Int.tdiv (k:Int) 2=((k/2:Nat):Int)from rfl];exact w64 (by omega) (by omega)
 have e8:Int.tmod (n:Int) 8=((n%8:Nat):Int):=rfl;have hw:=wneg hs;rcases qL k with hk | hk
 ·have d1:decide (((k%2:Nat):Int)=0)=true:=dT;obtain⟨h1,h2⟩:=jah hn hc hk;simp only[l93_1,r93_3,SS,fC,reduceIte,qQ,e0,et,d1];refine⟨by decide,?_⟩;by_cases h3:n%8=3\/n%8=5
  ·rw[if_pos h3]at h1;have hres:(-s)*GS (k/2) n=g:=by rw[<-hg,h1];grind
   have hs2: -s=1\/ -s= -1:=by omega
   rcases h3 with h3 | h3
   ·have d3:decide (((n%8:Nat):Int)=3)=true:=dT;simp only[r93_4,r93_5,r93_6,↓zki,SS,fC,reduceCtorEq,reduceIte,qQ,e0,e1,e5,eq,e8,d3,hw];refine⟨by decide,by decide,k/2,_,_,by omega,⟨-s,rfl,by omega,by omega,h2,hres,hs2,?_,?_,?_⟩,.refl⟩<;>simp only[UU,qQ,reduceIte, *]
   ·have d3:decide (((n%8:Nat):Int)=3)=false:=dF;have d5:decide (((n%8:Nat):Int)=5)=true:=dT;simp only[r93_4,r93_5,r93_6,↓zcn,SS,fC,reduceCtorEq,reduceIte,qQ,e0,e1,e5,eq,e8,d3,d5,hw];refine⟨by decide,by decide,by decide,k/2,_,_,by omega,⟨-s,rfl,by omega,by omega,h2,hres,hs2,?_,?_,?_⟩,.refl⟩<;>simp only[UU,qQ,reduceIte, *]
  ·rw[if_neg h3,qM]at h1;have d3:decide (((n%8:Nat):Int)=3)=false:=dF;have d5:decide (((n%8:Nat):Int)=5)=false:=dF;simp only[r93_4,r93_5,↓zcn,SS,fC,reduceCtorEq,reduceIte,qQ,e0,e1,eq,e8,d3,d5];refine⟨by decide,by decide,by decide,k/2,_,_,by omega,⟨s,rfl,by omega,by omega,h2,by rw[<-h1];exact hg,hs,?_,?_,?_⟩,.refl⟩<;>simp only[UU,qQ,reduceIte, *]
 ·have d1:decide (((k%2:Nat):Int)=0)=false:=dF;simp only[l93_1,r93_3,SS,fC,reduceIte,qQ,e0,et,d1];refine⟨by decide,hQ _ k s hk hka hc hg hs ?_ ?_ ?_⟩<;>simp only[UU,qQ, *]
theorem qtb{a n:Nat}(hn:n%2=1)(hn2:n<1099511627776)(ha:a<n)(hc:Nat.Coprime n a):Rt 93 [.int .i64 (a:Int),.int .i64 (n:Int)] [] (.int .i64 (GS a n)) []:=by
 refine oF o93 ?_;simp only[c93,r93_0,r93_1,SS,reduceCtorEq]
 refine zaf (λk E H=>∃(m:Nat) (s:Int),H=[]/\m%2=1/\m<1099511627776/\k<1099511627776/\Nat.Coprime m k/\s*GS k m=GS a n/\(s=1\/s= -1)/\E 0= .int .i64 (k:Int)/\E 1= .int .i64 (m:Int)/\E 5= .int .i64 s) (n:=a)
  ⟨n,1,rfl,hn,hn2,by omega,hc,qM _,.inl rfl,by simp only[UU,qQ],by simp only[UU,qQ],by simp only[UU,qQ,reduceIte]⟩ ?_
 clear hn hn2 ha hc;rintro k E H ⟨n1,s,rfl,hn,hn2,hk2,hc,hg,hs,e0,e1,e5⟩;refine wM ?_;rcases xV k with rfl | hk
 ·have d1:decide (((0:Nat):Int)≠0)=false:=by decide
  obtain rfl:n1=1:=by simpa using hc
  have d2:decide (((1:Nat):Int)≠1)=false:=by decide
  rw[show GS 0 1=1 from rfl,xP]at hg;simp only[l93_0,r93_2,SS,fC,reduceCtorEq,reduceIte,qQ,e0,d1];simp only[r93_10,SS,fC,reduceIte,qQ,e1,d2];simp only[r93_12,SS,reduceIte,qQ,e5,hg];exact kR
 ·have d1:decide ((k:Int)≠0)=true:=dT;simp only[l93_0,r93_2,SS,fC,reduceCtorEq,reduceIte,qQ,e0,d1];refine jaj hn hn2 hk2 (by omega) hc hg hs (by simp only[UU,qQ,e0]) (by simp only[UU,qQ,e1]) (by simp only[UU,qQ,e5]) ?_;clear hc hg hs e0 e1 e5 E;intro E b t hb hbk hc hg hs e0 e1 e5;have h4a:Int.tmod (b:Int) 4=((b%4:Nat):Int):=rfl;have h4n:Int.tmod (n1:Int) 4=((n1%4:Nat):Int):=rfl;have hr:Int.tmod (n1:Int) (b:Int)=((n1%b:Nat):Int):=rfl;have hlt:=xC n1 (show 0<b by omega);obtain⟨h1,h2⟩:=jai hb hn hc;have hw:=wneg hs;by_cases hf:b%4=3/\n1%4=3
  ·have da:decide (((b%4:Nat):Int)=3)=true:=dT;have dn:decide (((n1%4:Nat):Int)=3)=true:=dT;rw[if_pos hf]at h1;simp only[r93_7,r93_8,r93_9,↓zcn,SS,fC,reduceCtorEq,reduceIte,qQ,e0,e1,e5,h4a,h4n,hr,da,dn,hw];refine⟨by decide,by decide,by omega,n1%b,_,_,by omega,⟨b,-t,rfl,hb,by omega,by omega,h2,by rw[<-hg,h1];grind,by omega,?_,?_,?_⟩,.refl⟩<;>simp only[UU,qQ,reduceIte, *]
  ·rw[if_neg hf,qM]at h1;by_cases h3:b%4=3
   ·have da:decide (((b%4:Nat):Int)=3)=true:=dT;have dn:decide (((n1%4:Nat):Int)=3)=false:=dF;simp only[r93_7,r93_9,↓zcn,SS,fC,reduceCtorEq,reduceIte,qQ,e0,e1,h4a,h4n,hr,da,dn];refine⟨by decide,by decide,by omega,n1%b,_,_,by omega,⟨b,t,rfl,hb,by omega,by omega,h2,by rw[<-h1];exact hg,hs,?_,?_,?_⟩,.refl⟩<;>simp only[UU,qQ,reduceIte, *]
   ·have da:decide (((b%4:Nat):Int)=3)=false:=dF;simp only[r93_7,r93_9,↓zki,SS,fC,reduceCtorEq,reduceIte,qQ,e0,e1,h4a,hr,da];refine⟨by decide,by omega,n1%b,_,_,by omega,⟨b,t,rfl,hb,by omega,by omega,h2,by rw[<-h1];exact hg,hs,?_,?_,?_⟩,.refl⟩<;>simp only[UU,qQ,reduceIte, *]
theorem zxn{p:Nat}(P:Pr p){a:Int}(ha:¬(p:Int)∣a):∃b:Nat,a%(p:Int)=(b:Int)/\b<p/\Nat.Coprime p b/\chi p a=GS b p:=by
 have h0:=P.one;have h1:=xW a (show(p:Int)≠0 by omega);have h2:=xQ a (show(0:Int)<p by omega);refine⟨(a%(p:Int)).toNat,by omega,by omega,P.coprime λhd=>ha ?_,by unfold chi;rw[if_neg ha]⟩;have h3:(p:Int)∣((a%(p:Int)).toNat:Int):=Int.natCast_dvd_natCast.2 hd;rw[xT h1]at h3;have:=Int.dvd_add (emod_dvd a p) h3
 rwa[show a-a%(p:Int)+a%(p:Int)=a by omega]at this
theorem zqf{p:Nat}{a:Int}(P:Pr p)(hp:p<=9973)(h1: -2147483647<=a)(h2:a<=2147483647)(ha:¬(p:Int)∣a):Rt 43 [.int .i64 a,.int .i64 (p:Int)] [] (.tup [.int .i64 (chi p a),.int .i64 0]) []:=by
 have h0:=P.one;obtain⟨b,eb,hb,hc,ec⟩:=zxn P ha;have t1:=qnd (a:=a) (n:=p) (by omega) (by omega);rw[eb]at t1;have t2:=qtb P.odd (by omega) hb hc;have d1:decide (a< -2147483647)=false:=dF;have d2:decide (2147483647<a)=false:=dF;have d3:decide ((p:Int)< -2147483647)=false:=dF;have d4:decide (2147483647<(p:Int))=false:=dF;have d5:decide ((p:Int)=0)=false:=dF;have d6:decide ((p:Int)<0)=false:=dF;have et:Int.tmod (p:Int) 2=((p%2:Nat):Int):=rfl;have d7:decide (((p%2:Nat):Int)=0)=false:=decide_eq_false (by have:=P.odd;omega);have wg:IntKind.i64.wrap (1*GS b p)=GS b p:=by rcases jac b p with e | e<;>rw[e]<;>rfl
 rw[ec];refine oF o43 ?_;simp only[c43,r43_0,r43_1,↓zcn,SS,fC,reduceCtorEq,reduceIte,qQ,d1,d2,d3,d4];simp only[r43_3,SS,fC,reduceIte,qQ,d5];simp only[r43_7,r43_8,SS,fC,reduceIte,qQ,d6];refine W_un zoq 1 (zlu ?_);simp only[l43_0,r43_12,SS,fC,reduceCtorEq,reduceIte,qQ,et,d7];refine⟨by decide,?_⟩;simp only[r43_19,SS,reduceCtorEq,reduceIte,qQ];refine zaa t1 ?_;simp only[SS,reduceIte,qQ];refine zaa t2 ?_;simp only[SS,reduceIte,qQ,wg];exact kR
theorem qne{a:Int}{e m b:Nat}(ha:In64 a)(hb:a%(m:Int)=(b:Int))(hm:2<=m)(hm2:m<=9973)(he:e<=9973):Rt 170 [.int .i64 a,.int .i64 (e:Int),.int .i64 (m:Int)] [] (.int .i64 ((b^e%m:Nat):Int)) []:=by
 have t1:=jds ha (show 0<m by omega) (by omega);rw[hb]at t1;have hbm:b<m:=by have:=xQ a (show(0:Int)<m by omega);omega
 have e1:Int.tmod 1 (m:Int)=((1:Nat):Int):=by rw[show Int.tmod 1 (m:Int)=((1%m:Nat):Int)from rfl,yA (by omega)]
 refine oF o170 ?_;simp only[c170,r170_0,r170_1,SS,reduceCtorEq,reduceIte,qQ,e1];refine⟨by omega,?_⟩;simp only[r170_2,SS,reduceCtorEq,reduceIte,qQ];refine zaa t1 ?_;simp only[SS,reduceIte,qQ]
 refine zaf (λk E H=>∃(o x:Nat),H=[]/\k<=9973/\o<m/\x<m/\o*x^k%m=b^e%m/\E 0= .int .i64 (x:Int)/\E 1= .int .i64 (k:Int)/\E 2= .int .i64 (m:Int)/\E 7= .int .i64 (o:Int)) (n:=e)
  ⟨1,b,rfl,he,by omega,hbm,by rw[Nat.one_mul],by simp only[UU,qQ,reduceIte],by simp only[UU,qQ],by simp only[UU,qQ],by simp only[UU,qQ,reduceIte]⟩ ?_
 clear t1 ha hb e1;rintro k E H ⟨o,x,rfl,hk9,ho,hx,hg,e0,e1,e2,e7⟩;refine wM ?_;have hox:=qR (show o<=9973 by omega) (show x<=9973 by omega);have hxx:=qR (show x<=9973 by omega) (show x<=9973 by omega);have wox:IntKind.i64.wrap ((o:Int)*(x:Int))=((o*x:Nat):Int):=by rw[<-qH];exact w64 (by omega) (by omega)
 have wxx:IntKind.i64.wrap ((x:Int)*(x:Int))=((x*x:Nat):Int):=by rw[<-qH];exact w64 (by omega) (by omega)
 have tox:Int.tmod ((o*x:Nat):Int) (m:Int)=((o*x%m:Nat):Int):=rfl;have txx:Int.tmod ((x*x:Nat):Int) (m:Int)=((x*x%m:Nat):Int):=rfl;have wk:IntKind.i64.wrap (Int.tdiv (k:Int) 2)=((k/2:Nat):Int):=by rw[show Int.tdiv (k:Int) 2=((k/2:Nat):Int)from rfl];exact w64 (by omega) (by omega)
 have tk:Int.tmod (k:Int) 2=((k%2:Nat):Int):=rfl;rcases xV k with rfl | hk
 ·have d1:decide ((0:Int)<((0:Nat):Int))=false:=by decide
  rw[xL,yE,yA ho]at hg;simp only[l170_0,r170_3,SS,fC,reduceCtorEq,reduceIte,qQ,e1,d1];simp only[r170_8,SS,reduceIte,qQ,e7,hg];exact kR
 ·have d1:decide ((0:Int)<(k:Int))=true:=dT;have sq:(x*x%m)^(k/2)%m=x^(2*(k/2))%m:=by rw[<-Nat.pow_mod,Nat.pow_mul];congr 2;exact(Nat.pow_two x).symm
  simp only[l170_0,r170_3,SS,fC,reduceCtorEq,reduceIte,qQ,e1,d1];rcases qL k with h2 | h2
  ·have d2:decide (((k%2:Nat):Int)=1)=false:=dF;simp only[r170_4,r170_6,r170_7,SS,fC,reduceCtorEq,reduceIte,qQ,e0,e1,e2,tk,d2,wxx,txx,wk];refine⟨by decide,by omega,by decide,k/2,_,_,by omega,⟨o,x*x%m,rfl,by omega,ho,xC _ (by omega),?_,?_,?_,?_,?_⟩,.refl⟩
   ·rw[<-hg,xS,sq,<-xS,show 2*(k/2)=k by omega]
   all_goals simp only[UU,qQ,reduceIte, *]
  ·have d2:decide (((k%2:Nat):Int)=1)=true:=dT;simp only[r170_4,r170_5,r170_6,r170_7,SS,fC,reduceCtorEq,reduceIte,qQ,e0,e1,e2,e7,tk,d2,wox,tox,wxx,txx,wk];refine⟨by decide,by omega,by omega,by decide,k/2,_,_,by omega,⟨o*x%m,x*x%m,rfl,by omega,xC _ (by omega),xC _ (by omega),?_,?_,?_,?_,?_⟩,.refl⟩
   ·rw[<-hg,xS,sq,Nat.mod_mod,<-xS,xU,<-Nat.pow_succ',show(2*(k/2)).succ=k by omega]
   all_goals simp only[UU,qQ,reduceIte, *]
theorem qap{p:Nat}{a:Int}(P:Pr p)(hp:p<=9973)(hin:In64 a)(ha:¬(p:Int)∣a):Rt 105 [.int .i64 a,.int .i64 (p:Int)] [] (.int .i64 (chi p a)) []:=by
 have h0:=P.one;have h1:=P.odd;obtain⟨b,eb,hb,hc,ec⟩:=zxn P ha;have wp:IntKind.i64.wrap ((p:Int)-1)=((p-1:Nat):Int):=wQ (by omega);have wq:IntKind.i64.wrap (Int.tdiv ((p-1:Nat):Int) 2)=((p/2:Nat):Int):=by rw[show Int.tdiv ((p-1:Nat):Int) 2=(((p-1)/2:Nat):Int)from rfl];exact wQ (by omega)
 have t1:=qne (e:=p/2) (m:=p) hin eb (by omega) hp (by omega);have he:=qmw P.cop h1 h0 hc
 have hne:b^(p/2)%p≠0:=λh=>by
  have h2:=qB h;have h3:Nat.Coprime p (b^(p/2)):=hc.pow_right _;have:=Nat.Coprime.eq_one_of_dvd h3 h2;omega
 rw[ec];have d0:decide (((b^(p/2)%p:Nat):Int)=0)=false:=dF;refine oF o105 ?_;simp only[c105,r105_0,r105_1,SS,reduceCtorEq,reduceIte,qQ,wp,wq];refine⟨by decide,?_⟩;refine zaa t1 ?_;simp only[SS];simp only[r105_2,SS,fC,reduceIte,qQ,d0];by_cases h:b^(p/2)%p=1
 ·rw[if_pos h]at he;have d1:decide (((b^(p/2)%p:Nat):Int)=1)=true:=dT;simp only[r105_4,r105_5,SS,fC,reduceIte,qQ,d1,he];exact kR
 ·rw[if_neg h]at he;have d1:decide (((b^(p/2)%p:Nat):Int)=1)=false:=dF;simp only[r105_4,r105_6,SS,fC,reduceIte,qQ,d1,he];exact kR
theorem qnf{p:Nat}(P:Pr p)(hp:p<=9973):∃c,Rt 103 [.int .i64 (p:Int)] [] (.tup [.vec [.int .i64 (p:Int),.int .i64 1] 1 c,.int .i64 0]) []:=by
 have h0:=P.one;have d1:decide ((p:Int)<1)=false:=dF;have d2:decide (2147483647<(p:Int))=false:=dF;refine⟨none,?_⟩;refine oF o103 ?_;simp only[c103,r103_0,r103_1,↓zcn,SS,fC,reduceCtorEq,reduceIte,qQ,d1,d2];simp only[r103_3,r103_4,SS]
 refine zaf (λm E H=>∃d:Nat,d+m=101/\2<=d/\H=[]/\E 0= .int .i64 (p:Int)/\E 4= .vec [] 0 (some 0)/\E 5= .int .i64 (d:Int)) (n:=99)
  ⟨2,rfl,by omega,rfl,by simp only[UU,qQ],by simp only[UU,qQ,reduceIte],by simp only[UU,qQ,reduceIte];rfl⟩ ?_
 rintro m E H ⟨d,hdm,hd2,rfl,e0,e4,e5⟩;refine wM ?_;have hdd:d*d<=101*101:=qR (by omega) (by omega);have wq:IntKind.i64.wrap ((d:Int)*(d:Int))=((d*d:Nat):Int):=by rw[<-qH];exact w64 (by omega) (by omega)
 simp only[l103_0,r103_5,SS,reduceCtorEq,reduceIte,qQ,e0,e5,wq];refine⟨λhle=>?_,λhgt=>?_⟩
 ·have hle':d*d<=p:=by omega
  have hlt:d<p:=by
   have:=xA d hd2;omega
  have hd9:d<100:=by
   rcases qO d 100 with h | h
   ·exact h
   ·have:=qR h h;omega
  have hnd:p%d≠0:=λh=>by
   have:=(P.cop d (by omega) hlt).symm.eq_one_of_dvd (qB h);omega
  obtain⟨m,rfl⟩:∃m',m=m'+1:=⟨m-1,by omega⟩
  have w5:=wS1 d (by omega);have et:Int.tmod (p:Int) (d:Int)=((p%d:Nat):Int):=rfl;have d3:decide (((p%d:Nat):Int)=0)=false:=dF;simp only[r103_6,SS];refine W_un zoq 1 (zlu ?_);simp only[l103_1,r103_7,SS,fC,reduceCtorEq,reduceIte,qQ,e0,e5,et,d3];refine⟨by omega,?_⟩;simp only[r103_10,SS,fC,reduceIte,qQ,show decide ((0:Int)<0)=false from rfl];simp only[r103_12,SS,reduceIte,qQ,e5,w5];refine⟨m,_,_,by omega,⟨d+1,by omega,by omega,rfl,?_,?_,?_⟩,.refl⟩<;>simp only[UU,qQ,reduceIte, *]
 ·have d3:decide (1<(p:Int))=true:=dT;simp only[r103_13,SS,fC,reduceCtorEq,reduceIte,qQ,e0,d3];simp only[r103_14,SS,reduceCtorEq,reduceIte,qZ,qQ,qX,e0,e4];have ap:zby 0 1 [some [AV.int .i64 (p:Int),AV.int .i64 1]] 2 16 (.vec [] 0 (some 0)) (.sl 0 0 1 2 (some 1))=some (.sl 1 0 1 2 none,[(1,some [AV.int .i64 (p:Int),AV.int .i64 1])],[0]):=rfl;rw[ap];simp only[r103_15,SS,reduceIte,qQ,zad];exact⟨.inl trivial,_,rfl,.freeze 4 _ _ _ rfl (by intro i cs h;omega)⟩
theorem zxo{p:Nat}{a:Int}(P:Pr p)(hp:p<=9973)(hin:In64 a)(ha:¬(p:Int)∣a):Rt 47 [.int .i64 a,.int .i64 (p:Int)] [] (.int .i64 (chi p a)) []:=by
 have h0:=P.one;have h1:=P.odd;obtain⟨c,t1⟩:=qnf P hp;have t2:=qap P hp hin ha;have d1:decide ((p:Int)=0)=false:=dF;have d2:decide ((p:Int)<0)=false:=dF;have d3:decide ((p:Int)=2)=false:=dF;have wg:IntKind.i64.wrap (1*chi p a)=chi p a:=by rcases chi_pm ha with e | e<;>rw[e]<;>rfl
 refine oF o47 ?_;simp only[c47,r47_0,r47_1,SS,fC,reduceCtorEq,reduceIte,qQ,d1];simp only[r47_5,r47_6,SS,fC,reduceIte,qQ,d2];simp only[r47_10,SS,reduceIte,qQ];refine zaa t1 ?_;simp only[SS,reduceIte,qQ,qW,qK];simp only[r47_11,SS,reduceIte,qQ];refine W_un zoq 2 (zlu ?_);simp only[l47_0,r47_12,r47_13,SS,fC,reduceCtorEq,reduceIte,qZ,qQ,qX,decide_true,Nat.reduceMul,n1,tn0,le0,lt01];simp only[r47_14,SS];refine W_un zoq 2 (zlu ?_);simp only[l47_1,r47_15,SS,fC,reduceCtorEq,reduceIte,qZ,qQ,qX,decide_true,lt01];simp only[r47_16,SS,fC,reduceIte,qZ,qQ,qX,d3];simp only[r47_18,SS,fC,reduceCtorEq,reduceIte,qZ,qQ,qX];refine zaa t2 ?_;simp only[SS,reduceIte,qQ,wg];simp only[r47_19,SS,reduceIte,qQ,Int.reduceAdd,wi1];refine zlu ?_;simp only[SS,fC,reduceCtorEq,reduceIte,qZ,qQ,qX,decide_false,Int.lt_irrefl,decide_false];simp only[r47_20,SS,reduceIte,qQ,Int.reduceAdd,wi1];refine zlu ?_;simp only[SS,fC,reduceCtorEq,reduceIte,qZ,qQ,qX,decide_false,Int.reduceLE,Nat.reduceMul,n1,tn1,Int.lt_irrefl,decide_false];simp only[r47_21,SS,reduceIte,qQ];exact dR
theorem zxp{d:Int}{s:Nat}(h1: -9223372036854775807<=d)(h2:d<9223372036854775808)(hs:s<=8):Rt 48 [.int .i64 d,.int .i64 (s:Int)] [] (.int .i64 ((-1)^s*d)) []:=by
 have et:Int.tmod (s:Int) 2=((s%2:Nat):Int):=rfl;have wn:IntKind.i64.wrap (0-d)= -d:=wQ (by omega);have ep:=QR.pow_two_mod s;refine oF o48 ?_;simp only[c48,r48_0,r48_1,SS,reduceCtorEq,reduceIte,qQ,et];refine⟨by decide,λh=>?_,λh=>?_⟩
 ·rw[if_neg (by omega)]at ep;rw[ep,show(-1:Int)*d= -d by omega];simp only[r48_2,SS,reduceCtorEq,reduceIte,qQ,wn];exact kR
 ·rw[if_pos (by omega)]at ep;rw[ep,qM];simp only[r48_3,SS,reduceCtorEq,reduceIte,qQ];exact kR
end Go.Proofs.YtpflahgcdgdkjaaGreatDoor
namespace Go.Proofs.YtpflahgcdgdkjaaGreatDoor
open Nat renaming reduceEqDiff -> qQ, reduceLeDiff -> qX, reduceAdd -> qZ, mod_eq_zero_of_dvd -> qU, pow_le_pow_right -> qG, mod_two_eq_zero_or_one -> qL, mul_le_mul -> qR, dvd_mul_left_of_dvd -> qT, mul_assoc -> xU, pow_le_pow_left -> yQ
open Go.AL.AV.closed renaming closedL -> qJ
open List renaming getElem?_cons_succ -> qK, getElem?_cons_zero -> qW
open Int renaming natCast_mul -> qH, one_mul -> qM, dvd_mul_of_dvd_right -> xG
open Bool renaming and_self -> qE
open Go Go.AL Go.Proofs Go.Limb Go.Det
abbrev nilR:AV:= .agg [.bool false,.vec [] 0 (some 0),.bool false,.vec [] 0 (some 0)]
theorem zxq:zag 0 (.agg [.bool false,.vec [] 0 (some 0)]):=⟨[],some 0,⟨Dig.nil,by simp[Top]⟩,by decide,rfl,rfl⟩
theorem zgr:zbb 0 0 nilR:=⟨_,_,_,_,rfl,zxq,zxq⟩
section
variable{hs:List AV}{ch:Option Nat}{n:Nat}{z:Int}
theorem qtc{m e:Int}(hcl:(AV.vec hs n ch).closed=true)(he:e≠0)(hchk:Rt 26 [.vec hs n ch,.int .i64 z] [] (.int .i64 e) []):Rt 18 [.vec hs n ch,.int .i64 z,.int .i64 m] [] (.tup [nilR,.int .i64 e]) []:=by
 have c0:qJ [.vec hs n ch,.int .i64 z]=true:=by simp only[qJ,hcl];rfl
 refine oF o18 ?_;simp only[c18,r18_0,SS,reduceCtorEq];simp only[r18_1,SS,reduceCtorEq,reduceIte,qQ];refine zaa hchk ?_ c0;simp only[SS,reduceIte,qQ];simp only[r18_2,SS,reduceIte,qQ];refine⟨λ_=>?_,λh=>absurd he h⟩;simp only[r18_3,SS,reduceIte,qZ,qQ,qX];exact dR
theorem qtd{m:Int}(hcl:(AV.vec hs n ch).closed=true)(hchk:Rt 26 [.vec hs n ch,.int .i64 z] [] (.int .i64 0) [])(hm:m<1\/1000<m):Rt 18 [.vec hs n ch,.int .i64 z,.int .i64 m] [] (.tup [nilR,.int .i64 1]) []:=by
 have c0:qJ [.vec hs n ch,.int .i64 z]=true:=by simp only[qJ,hcl];rfl
 refine oF o18 ?_;simp only[c18,r18_0,SS,reduceCtorEq];simp only[r18_1,SS,reduceCtorEq,reduceIte,qQ];refine zaa hchk ?_ c0;simp only[SS,reduceIte,qQ];simp only[r18_2,SS,reduceIte,qQ];refine⟨λh=>absurd rfl h,λ_=>?_⟩;by_cases h1:m<1
 ·have d1:decide (m<1)=true:=decide_eq_true h1;simp only[r18_4,↓zki,SS,fC,reduceIte,qQ,d1];simp only[r18_5,SS,reduceIte,qZ,qQ,qX];exact dR
 ·have d1:decide (m<1)=false:=decide_eq_false h1;have d2:decide (1000<m)=true:=dT;simp only[r18_4,↓zcn,SS,fC,reduceIte,qQ,d1,d2];simp only[r18_5,SS,reduceIte,qZ,qQ,qX];exact dR
variable{p k D:Nat}
theorem qte(hcl:(AV.vec hs n ch).closed=true)(hchk:Rt 26 [.vec hs n ch,.int .i64 (p:Int)] [] (.int .i64 0) [])(hk:1<=k/\k<=1000)(hp:1<=p)(hdet:Rt 42 [.vec hs n ch] [] (.int .i64 (D:Int)) [])(hD:D<=10000)(hdv:2*k*D%p=0):
  Rt 18 [.vec hs n ch,.int .i64 (p:Int),.int .i64 (k:Int)] [] (.tup [nilR,.int .i64 1]) []:=by
 have c0:qJ [.vec hs n ch,.int .i64 (p:Int)]=true:=by simp only[qJ,hcl];rfl
 have c1:qJ [.vec hs n ch]=true:=by simp only[qJ,hcl,qE]
 have d1:decide ((k:Int)<1)=false:=dF;have d2:decide (1000<(k:Int))=false:=dF;have hb:=qR (show 2*k<=2000 by omega) hD;have w1:IntKind.i64.wrap (2*(k:Int))=((2*k:Nat):Int):=wQ (by omega);have w2:IntKind.i64.wrap (((2*k:Nat):Int)*(D:Int))=((2*k*D:Nat):Int):=by rw[<-qH];exact w64 (by omega) (by omega)
 have et:Int.tmod ((2*k*D:Nat):Int) (p:Int)=((2*k*D%p:Nat):Int):=rfl;have d3:decide (((2*k*D%p:Nat):Int)=0)=true:=dT;refine oF o18 ?_;simp only[c18,r18_0,SS,reduceCtorEq];simp only[r18_1,SS,reduceCtorEq,reduceIte,qQ];refine zaa hchk ?_ c0;simp only[SS,reduceIte,qQ];simp only[r18_2,SS,reduceIte,qQ];refine⟨λh=>absurd rfl h,λ_=>?_⟩;simp only[r18_4,↓zcn,SS,fC,reduceIte,qQ,d1,d2];simp only[r18_6,SS,reduceCtorEq,reduceIte,qQ];refine zaa hdet ?_ c1;simp only[SS,reduceIte,qQ];simp only[r18_7,SS,fC,reduceIte,qQ,w1,w2,et,d3];refine⟨by omega,?_⟩;simp only[r18_8,SS,reduceIte,qZ,qQ,qX];exact dR
theorem jak(hn:n<=8)(hcl:(AV.vec hs n ch).closed=true)(hchk:Rt 26 [.vec hs n ch,.int .i64 (p:Int)] [] (.int .i64 0) [])(hk:1<=k/\k<=1000)(P:QR.Pr p)(hp:p<=9973)(hdet:Rt 42 [.vec hs n ch] [] (.int .i64 (D:Int)) [])(hD:D<=10000)(hdv:2*k*D%p≠0):
  ∃r,zbb (numR ((p^(n/2):Nat)-regC p n D k) ((p^(n/2):Nat):Int)) (denR ((p^(n/2):Nat)-regC p n D k) ((p^(n/2):Nat):Int)) r/\Rt 18 [.vec hs n ch,.int .i64 (p:Int),.int .i64 (k:Int)] [] (.tup [r,.int .i64 0]) []:=by
 have p1:=P.one;have c0:qJ [.vec hs n ch,.int .i64 (p:Int)]=true:=by simp only[qJ,hcl];rfl
 have c1:qJ [.vec hs n ch]=true:=by simp only[qJ,hcl,qE]
 have d1:decide ((k:Int)<1)=false:=dF;have d2:decide (1000<(k:Int))=false:=dF;have hb:=qR (show 2*k<=2000 by omega) hD;have hb2:=qR (show k<=1000 by omega) hD;have w1:IntKind.i64.wrap (2*(k:Int))=((2*k:Nat):Int):=wQ (by omega);have w2:IntKind.i64.wrap (((2*k:Nat):Int)*(D:Int))=((2*k*D:Nat):Int):=by rw[<-qH];exact w64 (by omega) (by omega)
 have et:Int.tmod ((2*k*D:Nat):Int) (p:Int)=((2*k*D%p:Nat):Int):=rfl;have d3:decide (((2*k*D%p:Nat):Int)=0)=false:=dF;have e2:Int.tdiv (n:Int) 2=((n/2:Nat):Int):=rfl;have w3:IntKind.i64.wrap ((n/2:Nat):Int)=((n/2:Nat):Int):=zpv (by omega);have e3:Int.tmod ((n/2:Nat):Int) 2=((n/2%2:Nat):Int):=rfl;have e4:Int.tmod (n:Int) 2=((n%2:Nat):Int):=rfl;have ep:=QR.pow_two_mod (n/2);obtain⟨d,hd⟩:∃d:Int,d=(-1)^(n/2)*D:=⟨_,rfl⟩
 have hdd:d=D\/d= -D:=by
  rw[hd,ep];split
  ·exact .inl (qM _)
  ·exact .inr (by omega)
 have hkD:¬(p:Int)∣(k:Int)*D:=λh=>hdv (qU (by
  have:p∣k*D:=Int.natCast_dvd_natCast.1 (by rw[qH];exact h);rw[xU];exact qT this 2))
 have hnd:¬(p:Int)∣d:=λh=>hkD (xG (by
  rcases hdd with e | e
  ·rwa[e]at h
  ·rw[e]at h;exact Int.dvd_neg.1 h))
 have hnkd:¬(p:Int)∣(k:Int)*d:=λh=>hkD (by
  rcases hdd with e | e
  ·rwa[e]at h
  ·rw[e,Int.mul_neg]at h;exact Int.dvd_neg.1 h)
 have hkd1:(k:Int)*d=(k*D:Nat)\/(k:Int)*d= -(k*D:Nat):=by
  rw[qH];rcases hdd with e | e
  ·exact .inl (by rw[e])
  ·exact .inr (by rw[e,Int.mul_neg])
 have wkd:IntKind.i64.wrap ((k:Int)*d)=(k:Int)*d:=w64 (by omega) (by omega)
 have hb3:p^(n/2)<9223372036854775808:=by
  have h1:=yQ hp (n/2);have h2:=qG (n:=9973) (by decide) (show n/2<=4 by omega);have h3:9973^4<9223372036854775808:=by decide
  omega
 have wneg:IntKind.i64.wrap (0-(D:Int))= -(D:Int):=wQ (by omega);have sO:((n/2%2:Nat):Int)=1->d= -D:=λh=>by rw[hd,ep,if_neg (by omega)];omega
 have sE:¬((n/2%2:Nat):Int)=1->d=D:=λh=>by rw[hd,ep,if_pos (by omega),qM]
 rcases qL n with hpar | hpar
 ·have hreg:regC p n D k=QR.chi p d:=by unfold regC;rw[if_pos hpar,hd]
  have t1:=zqf P hp (a:=d) (by omega) (by omega) hnd;have hc:QR.chi p d=0\/QR.chi p d=1\/QR.chi p d= -1:= .inr (QR.chi_pm hnd);rw[hreg];obtain⟨r,ir,t2⟩:=qdc (p:=p) (s:=n/2) (by omega) (by omega) hb3 (by omega) hc;generalize QR.chi p d=c at*;obtain⟨_,_,_,_,rfl,_,_⟩:=ir.shape;have d4:decide (((n%2:Nat):Int)=0)=true:=dT;refine⟨_,ir,?_⟩;refine oF o18 ?_;simp only[c18,r18_0,SS,reduceCtorEq];simp only[r18_1,SS,reduceCtorEq,reduceIte,qQ];refine zaa hchk ?_ c0;simp only[SS,reduceIte,qQ];simp only[r18_2,SS,reduceIte,qQ];refine⟨λh=>absurd rfl h,λ_=>?_⟩;simp only[r18_4,↓zcn,SS,fC,reduceIte,qQ,d1,d2];simp only[r18_6,SS,reduceCtorEq,reduceIte,qQ];refine zaa hdet ?_ c1;simp only[SS,reduceIte,qQ];simp only[r18_7,SS,fC,reduceIte,qQ,w1,w2,et,d3];refine⟨by omega,?_⟩;simp only[r18_9,SS,reduceCtorEq,reduceIte,qQ,e2,w3];refine⟨by decide,?_⟩;simp only[r18_10,SS,reduceIte,qQ,e3];refine⟨by decide,λh=>?_,λh=>?_⟩;obtain rfl:=sO h;simp only[r18_11,SS,reduceIte,qQ,wneg];rotate_left;obtain rfl:=sE h
  all_goals
   simp only[r18_12,SS,fC,reduceCtorEq,reduceIte,qQ,e4,d4];refine⟨by decide,?_⟩;simp only[r18_13,SS,reduceIte,qQ];refine zaa t1 ?_;simp only[SS,reduceIte,qQ,qW,qK];simp only[r18_14,SS,reduceIte,qQ];refine zaa t2 ?_;simp only[SS,reduceIte,qZ,qQ,qX];exact dR
 ·have hreg:regC p n D k= -QR.chi p (k*d):=by
   unfold regC;rw[if_neg (by omega),hd,show(-1)^(n/2)*((k:Int)*D)=k*((-1)^(n/2)*D) by grind]
  have t1:=zqf P hp (a:=k*d) (by omega) (by omega) hnkd
  have hc: -QR.chi p (k*d)=0\/ -QR.chi p (k*d)=1\/ -QR.chi p (k*d)= -1:=by
   have:=QR.chi_pm hnkd;omega
  have wc:IntKind.i64.wrap (0-QR.chi p (k*d))= -QR.chi p (k*d):=wQ (by omega);rw[hreg];obtain⟨r,ir,t2⟩:=qdc (p:=p) (s:=n/2) (by omega) (by omega) hb3 (by omega) hc;generalize QR.chi p (k*d)=c at*;obtain⟨_,_,_,_,rfl,_,_⟩:=ir.shape;have d4:decide (((n%2:Nat):Int)=0)=false:=dF;refine⟨_,ir,?_⟩;refine oF o18 ?_;simp only[c18,r18_0,SS,reduceCtorEq];simp only[r18_1,SS,reduceCtorEq,reduceIte,qQ];refine zaa hchk ?_ c0;simp only[SS,reduceIte,qQ];simp only[r18_2,SS,reduceIte,qQ];refine⟨λh=>absurd rfl h,λ_=>?_⟩;simp only[r18_4,↓zcn,SS,fC,reduceIte,qQ,d1,d2];simp only[r18_6,SS,reduceCtorEq,reduceIte,qQ];refine zaa hdet ?_ c1;simp only[SS,reduceIte,qQ];simp only[r18_7,SS,fC,reduceIte,qQ,w1,w2,et,d3];refine⟨by omega,?_⟩;simp only[r18_9,SS,reduceCtorEq,reduceIte,qQ,e2,w3];refine⟨by decide,?_⟩;simp only[r18_10,SS,reduceIte,qQ,e3];refine⟨by decide,λh=>?_,λh=>?_⟩;obtain rfl:=sO h;simp only[r18_11,SS,reduceIte,qQ,wneg];rotate_left;obtain rfl:=sE h
  all_goals
   simp only[r18_12,SS,fC,reduceCtorEq,reduceIte,qQ,e4,d4];refine⟨by decide,?_⟩;simp only[r18_15,SS,reduceIte,qQ,wkd];refine zaa t1 ?_;simp only[SS,reduceIte,qQ,qW,qK];simp only[r18_16,SS,reduceIte,qQ,wc];refine zaa t2 ?_;simp only[SS,reduceIte,qZ,qQ,qX];exact dR
end
end Go.Proofs.YtpflahgcdgdkjaaGreatDoor
namespace Go.Proofs.YtpflahgcdgdkjaaGreatDoor
open Nat renaming reduceEqDiff -> qQ, reduceLeDiff -> qX, reduceAdd -> qZ, mod_eq_zero_of_dvd -> qU, dvd_of_mod_eq_zero -> qB, pow_le_pow_right -> qG, mod_two_eq_zero_or_one -> qL, mul_le_mul -> qR, dvd_mul_left_of_dvd -> qT, eq_zero_or_pos -> xV, mul_assoc -> xU, dvd_mul_right_of_dvd -> xH, pow_zero -> xL, pow_le_pow_left -> yQ, lt_of_le_of_lt -> yK, pow_pos -> yG
open Go.AL.AV.closed renaming closedL -> qJ
open List renaming getElem?_cons_succ -> qK, getElem?_cons_zero -> qW, replicate_zero -> qV, append_nil -> qA, mapM_cons -> xD, mapM_nil -> yZ
open Int renaming natCast_mul -> qH, one_mul -> qM, reduceLT -> qP, dvd_mul_of_dvd_right -> xG, mul_one -> xP, natAbs_natCast -> yW
open Bool renaming and_self -> qE
open Go Go.AL Go.Proofs Go.Limb
theorem jee{x:Int}{a:AV}(i1:zag x a):∃v,zbb x 1 v/\Rt 167 [a] [] v []:=by
 obtain⟨v2,i2,t2⟩:=zlw i1;obtain⟨v3,i3,t3⟩:=zfb 1 (by decide) (by decide);obtain⟨_,_,rfl⟩:=i1.shape;obtain⟨_,_,rfl⟩:=i2.shape;obtain⟨_,_,rfl⟩:=i3.shape;refine⟨_,zfx i2 i3,?_⟩;refine oF o167 ?_;simp only[c167,r167_0,SS,reduceCtorEq];simp only[r167_1,SS,reduceIte,qZ,qQ,qX];refine zaa t2 ?_;simp only[SS];refine zaa t3 ?_;simp only[SS,reduceIte,qZ,qQ,qX];exact dR
theorem qdq(x:Int)(h1: -9223372036854775808<=x)(h2:x<9223372036854775808):∃v,zbb x 1 v/\Rt 100 [.int .i64 x] [] v []:=by
 obtain⟨v1,i1,t1⟩:=zfb x h1 h2;obtain⟨v,iv,t2⟩:=jee i1;obtain⟨_,_,rfl⟩:=i1.shape;obtain⟨_,_,_,_,rfl,_,_⟩:=iv.shape;refine⟨_,iv,?_⟩;refine oF o100 ?_;simp only[c100,r100_0,SS,reduceCtorEq];simp only[r100_1,SS,reduceCtorEq,reduceIte,qQ];refine zaa t1 ?_;simp only[SS,reduceIte,qQ];refine zaa t2 ?_;simp only[SS,reduceIte,qZ,qQ,qX];exact dR
theorem qNeg{n d:Int}{a:AV}(h:zbb n d a)(hd:0<d)(cop:Int.gcd n d=1):∃r,zbb (-n) d r/\Rt 166 [a] [] r []:=by
 obtain⟨w,iw,t1⟩:=zdh h hd;rw[zhd cop,zhe cop]at iw;obtain⟨_,_,_,_,rfl,_,_⟩:=h.shape;obtain⟨_,_,_,_,rfl,p1,p2⟩:=iw.shape;obtain⟨v,iv,t2⟩:=zNeg p1;obtain⟨_,_,rfl⟩:=iv.shape;refine⟨_,zfx iv p2,?_⟩;refine oF o166 ?_;simp only[c166,r166_0,SS,reduceCtorEq];simp only[r166_1,SS,reduceIte,qZ,qQ,qX];refine zaa t1 ?_;simp only[SS,reduceIte,qZ,qQ,qX];simp only[r166_2,SS,reduceIte,qZ,qQ,qX];refine zaa t2 ?_;simp only[SS,reduceIte,qZ,qQ,qX];refine⟨rfl,?_⟩;exact dR
theorem qSub{n d m e:Int}{a b:AV}(h1:zbb n d a)(h2:zbb m e b)(hd:0<d)(he:0<e)(c1:Int.gcd n d=1)(c2:Int.gcd m e=1)(f1:(n*e).natAbs<BIG)(f2:(-m*d).natAbs<BIG)(f3:(n*e+ -m*d).natAbs<BIG)(f4:(d*e).natAbs<BIG):
  ∃r,zbb (numR (n*e+ -m*d) (d*e)) (denR (n*e+ -m*d) (d*e)) r/\Rt 99 [a,b] [] r []:=by
 obtain⟨w,iw,t1⟩:=qNeg h2 he c2;obtain⟨r,ir,t2⟩:=qAdd h1 iw hd he c1 (by rw[Int.neg_gcd];exact c2) f1 f2 f3 f4;obtain⟨_,_,_,_,rfl,_,_⟩:=h1.shape;obtain⟨_,_,_,_,rfl,_,_⟩:=h2.shape;obtain⟨_,_,_,_,rfl,_,_⟩:=iw.shape;obtain⟨_,_,_,_,rfl,_,_⟩:=ir.shape;refine⟨_,ir,?_⟩;refine oF o99 ?_;simp only[c99,r99_0,SS,reduceCtorEq,reduceIte,qZ,qQ];simp only[r99_1,SS,reduceIte,qZ,qQ,qX];refine zaa t1 ?_;simp only[SS,reduceIte,qQ];refine zaa t2 ?_;simp only[SS,reduceIte,qZ,qQ,qX];refine⟨rfl,?_⟩;exact dR
theorem qMul{n d m e:Int}{a b:AV}(h1:zbb n d a)(h2:zbb m e b)(hd:0<d)(he:0<e)(c1:Int.gcd n d=1)(c2:Int.gcd m e=1)(f1:(n*m).natAbs<BIG)(f2:(d*e).natAbs<BIG):
  ∃r,zbb (numR (n*m) (d*e)) (denR (n*m) (d*e)) r/\Rt 101 [a,b] [] r []:=by
 obtain⟨w1,j1,t1⟩:=zdh h1 hd;obtain⟨w2,j2,t2⟩:=zdh h2 he;rw[zhd c1,zhe c1]at j1;rw[zhd c2,zhe c2]at j2;obtain⟨_,_,_,_,rfl,_,_⟩:=h1.shape;obtain⟨_,_,_,_,rfl,_,_⟩:=h2.shape;obtain⟨_,_,_,_,rfl,p1,p2⟩:=j1.shape;obtain⟨_,_,_,_,rfl,p3,p4⟩:=j2.shape;obtain⟨u1,q1,m1⟩:=zMul p1 p3 f1;obtain⟨u2,q2,m2⟩:=zMul p2 p4 f2;obtain⟨r,ir,t3⟩:=qNew q1 q2 (Int.mul_pos hd he);obtain⟨_,_,rfl⟩:=q1.shape;obtain⟨_,_,rfl⟩:=q2.shape;obtain⟨_,_,_,_,rfl,_,_⟩:=ir.shape;refine⟨_,ir,?_⟩;refine oF o101 ?_;simp only[c101,r101_0,SS,reduceCtorEq,reduceIte,qZ,qQ];simp only[r101_1,SS,reduceIte,qZ,qQ,qX];refine zaa t1 ?_;simp only[SS,reduceIte,qZ,qQ,qX];refine zaa t2 ?_;simp only[SS,reduceIte,qZ,qQ,qX];refine⟨rfl,?_⟩;simp only[r101_2,SS,reduceIte,qZ,qQ,qX];refine zaa m1 ?_;simp only[SS,reduceIte,qZ,qQ,qX];refine zaa m2 ?_;simp only[SS,reduceIte,qQ];refine zaa t3 ?_;simp only[SS,reduceIte,qZ,qQ,qX,qW,qK];refine⟨rfl,?_⟩;simp only[r101_3,SS,reduceIte,qZ,qQ,qX];exact dR
theorem zPow{a n:Nat}{va:AV}(ia:zag (a:Int) va)(ha:1<=a)(hn:n<8)(hb:a^n<18446744073709551616):∃v,zag ((a^n:Nat):Int) v/\Rt 202 [va,.int .i64 (n:Int)] [] (.tup [v,.bool true]) []:=by
 refine⟨intV ((a^n:Nat):Int),zbk (zea (by rw[yW];exact hb)),?_⟩;have d1:decide ((n:Int)<0)=false:=dF;have d2:decide (64<(n:Int))=false:=dF;have hle:∀i,i<=n->a^i<18446744073709551616:=λi hi=>yK (qG ha hi) hb
 obtain⟨o,io,t0⟩:=zfb 1 (by decide) (by decide);obtain⟨la,ca,rfl⟩:=ia.shape;obtain⟨lo,co,rfl⟩:=io.shape;refine oFw o202 ?_;simp only[c202,r202_0,r202_1,↓zcn,SS,fC,reduceCtorEq,reduceIte,qQ,d1,d2];simp only[r202_3,SS];refine zaa t0 ?_;simp only[zay,zad,qV,qA,SS,reduceIte,qZ,qQ,qX];simp only[r202_4,SS]
 refine zaf (λf E H=>∃(i:Nat) (u v:AV),i+f=n/\zag ((a^i:Nat):Int) (.agg [u,v])/\H=[some [.bool (decide ((a:Int)<0)),.vec (u32s la) la.length ca],some [.bool false,.vec [] 0 (some 0)],some [u,v]]/\E 1= .int .i64 (n:Int)/\E 2= .ptr 0 0/\E 4= .ptr 1 0/\E 6= .ptr 2 0/\E 7= .int .i64 (i:Int)) (n:=n)
  ⟨0,_,_,by omega,by rw[xL];exact io,by simp only,by simp only[UU,qQ],by simp only[UU,qQ,reduceIte],by simp only[UU,qQ,reduceIte],by simp only[UU,qQ,reduceIte],by simp only[UU,qQ,reduceIte];rfl⟩ ?_
 rintro f E H ⟨i,u,v,hif,iu,rfl,e1,e2,e4,e6,e7⟩;refine wM ?_;obtain⟨lu,cu,rfl,rfl⟩:=zam iu;cases f with
 |zero=>
  obtain rfl:i=n:=by omega
  have d0:decide ((i:Int)<i)=false:=dF;simp only[l202_0,r202_5,SS,fC,reduceCtorEq,reduceIte,qQ,e1,e7,d0];simp only[r202_8,SS,reduceIte,qZ,qQ,qX,e4,e6];have hw:=iu.wk;have hld:ldSz Tryz.prog 40=some (true,2):=by kernel_rfl
  refine⟨.inl trivial,.tup [.agg [.bool (decide (((a^i:Nat):Int)<0)),.vec (u32s lu) lu.length cu],.bool true],_,?_,.drop _ _ rfl (by intro i cs h;omega),?_⟩
  ·simp only[resA,xD,yZ,zdv,hld,UU,qQ,reduceIte,e4,zwc,zzn,need];rfl
  ·simp only[AV.wk,AV.wk.wkL]at hw ⊢;rw[hw]
 |succ f=>
  have d0:decide ((i:Int)<n)=true:=dT;have hm:((a^i:Nat):Int)*(a:Int)=((a^(i+1):Nat):Int):=by rw[<-qH,<-Nat.pow_succ]
  obtain⟨w,iw,tm⟩:=zMul iu ia (by rw[hm];exact zea (by rw[yW];exact hle _ (by omega)));rw[hm]at iw;obtain⟨lw,cw,rfl⟩:=iw.shape;have w5:=wS1 i (by omega);simp only[l202_0,r202_5,SS,fC,reduceCtorEq,reduceIte,qQ,e1,e7,d0];simp only[r202_6,SS,reduceIte,qZ,qQ,qX,e2,e6];refine zaa tm ?_;simp only[zay,zad,qV,qA,SS,reduceIte,qZ,qQ,qX,e6];simp only[r202_7,SS,reduceIte,qQ,e7,w5];refine⟨f,_,_,by omega,⟨i+1,_,_,by omega,iw,rfl,?_,?_,?_,?_,?_⟩,.refl⟩<;>simp only[UU,qQ,reduceIte, *]
theorem qInv{a:Nat}{u v:AV}(iu:zbb 1 1 u)(iv:zbb (a:Int) 1 v)(ha:1<=a)(ha':a<18446744073709551616):∃w,zbb 1 (a:Int) w/\Rt 201 [u,v] [] (.tup [w,.bool true]) []:=by
 obtain⟨w1,j1,t1⟩:=zdh iu (by decide);obtain⟨w2,j2,t2⟩:=zdh iv (by decide);rw[zhd (by decide),zhe (by decide)]at j1;rw[zhd (by simp),zhe (by simp)]at j2;obtain⟨_,_,_,_,rfl,_,_⟩:=iu.shape;obtain⟨_,_,_,_,rfl,_,_⟩:=iv.shape;obtain⟨_,_,_,_,rfl,p1,p2⟩:=j1.shape;obtain⟨_,_,_,_,rfl,p3,p4⟩:=j2.shape;obtain⟨u1,q1,m1⟩:=zMul p1 p4 (zea (by decide));obtain⟨u2,q2,m2⟩:=zMul p2 p3 (zea (by omega));rw[qM]at q1 q2;obtain⟨r,ir,t3⟩:=qNew q1 q2 (by omega);rw[zhd (by simp),zhe (by simp)]at ir;obtain⟨_,_,rfl⟩:=q1.shape;obtain⟨_,_,rfl⟩:=q2.shape;obtain⟨_,_,_,_,rfl,_,_⟩:=ir.shape;refine⟨_,ir,?_⟩;refine oF o201 ?_;simp only[c201,r201_0,SS,reduceCtorEq,reduceIte,qZ,qQ];simp only[r201_1,SS,reduceIte,qZ,qQ,qX,decide_false,qP];refine zaa t1 ?_;simp only[SS,reduceIte,qZ,qQ,qX,decide_false,qP];refine zaa t2 ?_;simp only[SS,reduceIte,qZ,qQ,qX,decide_false,qP];refine⟨rfl,?_⟩;simp only[r201_2,SS,reduceIte,qZ,qQ,qX];refine zaa m1 ?_;simp only[SS,reduceIte,qZ,qQ,qX,decide_false,qP];refine zaa m2 ?_;simp only[SS,reduceIte,qQ];refine zaa t3 ?_;simp only[SS,reduceIte,qZ,qQ,qX,decide_false,qP,qW,qK];refine⟨rfl,?_⟩;exact dR
theorem qPow{a s:Nat}{v:AV}(iv:zbb (a:Int) 1 v)(ha:1<=a)(hs:s<8)(hb:a^s<18446744073709551616)(ha':a<18446744073709551616):
  ∃w,zbb 1 ((a^s:Nat):Int) w/\Rt 169 [v,.int .i64 (-(s:Int))] [] (.tup [w,.bool true]) []:=by
 obtain⟨w,iw,tc⟩:=zdh iv (by decide);rw[zhd (by simp),zhe (by simp)]at iw;obtain⟨o,io,t0⟩:=qdq 1 (by decide) (by decide);obtain⟨x,ix,tq⟩:=qInv io iw ha ha';have hld:ldSz Tryz.prog 42=some (true,4):=by kernel_rfl
 have d1:decide (-(s:Int)< -64)=false:=dF;have d2:decide (64< -(s:Int))=false:=dF;have wn:IntKind.i64.wrap (0 - -(s:Int))=(s:Int):=wQ (by omega);have hp:0<a^s:=yG (by omega);obtain⟨_,_,_,_,rfl,_,_⟩:=iv.shape;obtain⟨_,_,_,_,rfl,p1,p2⟩:=iw.shape;obtain⟨_,_,_,_,rfl,_,_⟩:=io.shape;obtain⟨_,_,_,_,rfl,p3,p4⟩:=ix.shape;rcases xV s with h0 | h0
 ·subst h0;obtain⟨u1,q1,ta⟩:=zPow p1 ha (n:=0) (by decide) (by rw[xL];decide);obtain⟨u2,q2,tb⟩:=zPow (a:=1) p2 (by decide) (n:=0) (by decide) (by decide);rw[xL]at q1 q2;obtain⟨_,_,rfl⟩:=q1.shape;obtain⟨_,_,rfl⟩:=q2.shape;refine⟨_,zfx q1 q2,?_⟩;have d3:decide (-((0:Nat):Int)<0)=false:=by decide
  have e0: -((0:Nat):Int)=((0:Nat):Int):=rfl;rw[e0]at d1 d2 d3 ⊢;refine oF o169 ?_;simp only[c169,r169_0,r169_1,↓zcn,SS,fC,reduceCtorEq,reduceIte,qQ,d1,d2];simp only[r169_3,SS,reduceIte,qZ,qQ,qX];refine zaa tc ?_;simp only[SS,reduceIte,qZ,qQ,qX];simp only[r169_4,SS,fC,reduceIte,qQ,d3];simp only[r169_9,SS,reduceIte,qZ,qQ,qX];refine zaa ta ?_;simp only[SS,reduceIte,qZ,qQ,qX,qW,qK];simp only[r169_10,SS,reduceIte,qZ,qQ,qX];refine zaa tb ?_;simp only[SS,reduceIte,qZ,qQ,qX,qW,qK];simp only[r169_11,SS,reduceIte,qZ,qQ,qX];refine⟨.inl trivial,.tup [.agg [.bool (decide (((1:Nat):Int)<0)),.vec _ _ _,.bool (decide (((1:Nat):Int)<0)),.vec _ _ _],.bool true],?_,.drop _ _ rfl (by intro i cs h;omega)⟩;simp only[resA,xD,yZ,zdv,hld,UU,qQ,reduceIte,zwc,zzn,need];rfl
 ·obtain⟨u1,q1,ta⟩:=zPow (a:=1) p3 (by decide) hs (by rw[Nat.one_pow];decide);obtain⟨u2,q2,tb⟩:=zPow p4 ha hs hb;rw[Nat.one_pow]at q1;obtain⟨_,_,rfl⟩:=q1.shape;obtain⟨_,_,rfl⟩:=q2.shape;refine⟨_,zfx q1 q2,?_⟩;have d3:decide (-(s:Int)<0)=true:=dT;refine oF o169 ?_;simp only[c169,r169_0,r169_1,↓zcn,SS,fC,reduceCtorEq,reduceIte,qQ,d1,d2];simp only[r169_3,SS,reduceIte,qZ,qQ,qX];refine zaa tc ?_;simp only[SS,reduceIte,qZ,qQ,qX];simp only[r169_4,SS,fC,reduceIte,qQ,d3];simp only[r169_5,SS];refine zaa t0 ?_;simp only[SS,reduceIte,qZ,qQ,qX];refine zaa tq ?_;simp only[SS,reduceIte,qZ,qQ,qX,qW,qK];refine⟨rfl,?_⟩;simp only[r169_6,SS,fC,reduceIte,qQ];simp only[r169_8,SS,reduceIte,qZ,qQ,qX,wn];simp only[r169_9,SS,reduceIte,qZ,qQ,qX];refine zaa ta ?_;simp only[SS,reduceIte,qZ,qQ,qX,qW,qK];simp only[r169_10,SS,reduceIte,qZ,qQ,qX];refine zaa tb ?_;simp only[SS,reduceIte,qZ,qQ,qX,qW,qK];simp only[r169_11,SS,reduceIte,qZ,qQ,qX];refine⟨.inl trivial,.tup [.agg [.bool (decide (((1:Nat):Int)<0)),.vec _ _ _,.bool (decide (((a^s:Nat):Int)<0)),.vec _ _ _],.bool true],?_,.drop _ _ rfl (by intro i cs h;omega)⟩;simp only[resA,xD,yZ,zdv,hld,UU,qQ,reduceIte,zwc,zzn,need];rfl
theorem qtf{p s:Nat}(hp:1<=p)(hs:s<8)(hb:p^s<9223372036854775808)(hp':p<9223372036854775808):∃w,zbb 1 ((p^s:Nat):Int) w/\Rt 102 [.int .i64 (p:Int),.int .i64 (-(s:Int))] [] w []:=by
 obtain⟨v,iv,t1⟩:=qdq (p:Int) (by omega) (by omega);obtain⟨x,ix,t2⟩:=qPow iv hp hs (by omega) (by omega);obtain⟨_,_,_,_,rfl,_,_⟩:=iv.shape;obtain⟨_,_,_,_,rfl,_,_⟩:=ix.shape;refine⟨_,ix,?_⟩;refine oF o102 ?_;simp only[c102,r102_0,SS,reduceCtorEq];simp only[r102_1,SS,reduceCtorEq,reduceIte,qQ,decide_false,qP];refine zaa t1 ?_;simp only[SS,reduceIte,qQ,decide_false,qP];refine zaa t2 ?_;simp only[SS,reduceIte,qZ,qQ,qX,decide_false,qP,qW,qK];simp only[r102_2,SS,reduceIte,qZ,qQ,qX];exact dR
theorem qdr{p s:Nat}{c:Int}(hp:1<=p)(hs:s<8)(hb:p^s<9223372036854775808)(hp':p<9223372036854775808)(hc:c=0\/c=1\/c= -1):
  ∃r,zbb (numR ((p^s:Nat)-c) ((p^s:Nat):Int)) (denR ((p^s:Nat)-c) ((p^s:Nat):Int)) r/\Rt 46 [.int .i64 (p:Int),.int .i64 c,.int .i64 (s:Int)] [] r []:=by
 have hP:0<p^s:=yG (by omega);obtain⟨x,ix,tp⟩:=qtf hp hs hb hp';obtain⟨o,io,t3⟩:=qdq 1 (by decide) (by decide);obtain⟨w,iw,t4⟩:=qdq c (by omega) (by omega);generalize p^s=P at*;obtain⟨y,iy,t5⟩:=qMul iw ix (by decide) (by omega) (by simp) (by simp) (zea (by omega)) (zea (by omega));obtain⟨m,e,em,ee,lo,en,ed,b1,b2,b3⟩:=qmo hP hb hc;rw[em,ee]at iy;obtain⟨r,ir,t6⟩:=qSub io iy (by decide) lo.pos (by decide) lo.cop (zea (by rw[qM];exact b2)) (zea (by rw[xP,Int.natAbs_neg];exact b3)) (zea b1) (zea (by rw[qM];exact b2));rw[en,ed]at ir;have wn:IntKind.i64.wrap (0-(s:Int))= -(s:Int):=wQ (by omega);obtain⟨_,_,_,_,rfl,_,_⟩:=io.shape;obtain⟨_,_,_,_,rfl,_,_⟩:=iw.shape;obtain⟨_,_,_,_,rfl,_,_⟩:=ix.shape;obtain⟨_,_,_,_,rfl,_,_⟩:=iy.shape;obtain⟨_,_,_,_,rfl,_,_⟩:=ir.shape;refine⟨_,ir,?_⟩;refine oF o46 ?_;simp only[c46,r46_0,SS,reduceCtorEq];simp only[r46_1,SS];refine zaa t3 ?_;simp only[SS,reduceIte,qQ,decide_false,qP];refine zaa t4 ?_;simp only[SS,reduceCtorEq,reduceIte,qQ,decide_false,qP,wn];refine zaa tp ?_;simp only[SS,reduceIte,qQ,decide_false,qP];refine zaa t5 ?_;simp only[SS,reduceIte,qQ];refine zaa t6 ?_;simp only[SS,reduceIte,qZ,qQ,qX];exact dR
open Go.Det
section
variable{hs:List AV}{ch:Option Nat}{n:Nat}{z:Int}
theorem jal{m:Int}{bR bP:Bool}(hcl:(AV.vec hs n ch).closed=true)(h1:Rt 29 [.vec hs n ch] [] (.bool bR) [])(h2:Rt 30 [.int .i64 z] [] (.bool bP) [])(he:chkZ bR bP≠0):Rt 19 [.vec hs n ch,.int .i64 z,.int .i64 m] [] (.tup [nilR,.int .i64 (chkZ bR bP)]) []:=by
 have c0:qJ [.vec hs n ch]=true:=by simp only[qJ,hcl,qE]
 refine oF o19 ?_;simp only[c19,r19_0,SS,reduceCtorEq];simp only[r19_1,SS,reduceCtorEq,reduceIte,qQ];refine zaa h1 ?_ c0;simp only[SS,reduceIte,qQ];cases bR with
 |false=>
  simp only[r19_2,SS,fC,reduceIte,qZ,qQ,qX];exact dR
 |true=>
  simp only[r19_3,SS,fC,reduceIte,qQ];refine zaa h2 ?_;simp only[SS,reduceIte,qQ];cases bP with
  |true=>exact absurd rfl he
  |false=>
   simp only[r19_4,SS,fC,reduceIte,qZ,qQ,qX];exact dR
theorem jam{m:Int}(hcl:(AV.vec hs n ch).closed=true)(h1:Rt 29 [.vec hs n ch] [] (.bool true) [])(h2:Rt 30 [.int .i64 z] [] (.bool true) [])(hm:m<1\/1000<m):Rt 19 [.vec hs n ch,.int .i64 z,.int .i64 m] [] (.tup [nilR,.int .i64 1]) []:=by
 have c0:qJ [.vec hs n ch]=true:=by simp only[qJ,hcl,qE]
 have t:=zpz (m:=m) (b:=false) ⟨λe=>by simp at e,λe=>by omega⟩;refine oF o19 ?_;simp only[c19,r19_0,SS,reduceCtorEq];simp only[r19_1,SS,reduceCtorEq,reduceIte,qQ];refine zaa h1 ?_ c0;simp only[SS,fC,reduceIte,qQ];simp only[r19_3,SS,reduceIte,qQ];refine zaa h2 ?_;simp only[SS,fC,reduceIte,qQ];simp only[r19_5,SS,reduceIte,qQ];refine zaa t ?_;simp only[↓zki,SS,fC,reduceIte,qQ];simp only[r19_6,SS,reduceIte,qZ,qQ,qX];exact dR
variable{p k D:Nat}
theorem jan(hcl:(AV.vec hs n ch).closed=true)(h1:Rt 29 [.vec hs n ch] [] (.bool true) [])(h2:Rt 30 [.int .i64 (p:Int)] [] (.bool true) [])(hk:1<=k/\k<=1000)(hp:1<=p)(hdet:Rt 45 [.vec hs n ch] [] (.int .i64 (D:Int)) [])(hdv:2*k%p=0\/D%p=0):
  Rt 19 [.vec hs n ch,.int .i64 (p:Int),.int .i64 (k:Int)] [] (.tup [nilR,.int .i64 1]) []:=by
 have c0:qJ [.vec hs n ch]=true:=by simp only[qJ,hcl,qE]
 have t:=zpz (m:=(k:Int)) (b:=true) ⟨λ_=>by omega,λ_=>rfl⟩;have w1:IntKind.i64.wrap (2*(k:Int))=((2*k:Nat):Int):=wQ (by omega);have e1:Int.tmod ((2*k:Nat):Int) (p:Int)=((2*k%p:Nat):Int):=rfl;have e2:Int.tmod (D:Int) (p:Int)=((D%p:Nat):Int):=rfl;refine oF o19 ?_;simp only[c19,r19_0,SS,reduceCtorEq];simp only[r19_1,SS,reduceCtorEq,reduceIte,qQ];refine zaa h1 ?_ c0;simp only[SS,fC,reduceIte,qQ];simp only[r19_3,SS,reduceIte,qQ];refine zaa h2 ?_;simp only[SS,fC,reduceIte,qQ];simp only[r19_5,SS,reduceIte,qQ];refine zaa t ?_;by_cases hm:2*k%p=0
 ·have d1:decide (((2*k%p:Nat):Int)=0)=true:=dT;simp only[↓zcn,↓zki,SS,fC,reduceIte,qQ,w1,e1,d1];refine⟨by omega,?_⟩;simp only[r19_6,SS,reduceIte,qZ,qQ,qX];exact dR
 ·have d1:decide (((2*k%p:Nat):Int)=0)=false:=dF;have d2:decide (((D%p:Nat):Int)=0)=true:=dT;simp only[↓zcn,SS,reduceCtorEq,reduceIte,qQ,w1,e1,d1];refine⟨by omega,?_⟩;refine zaa hdet ?_ c0;simp only[↓zcn,SS,fC,reduceIte,qQ,e2,d2];refine⟨by omega,?_⟩;simp only[r19_6,SS,reduceIte,qZ,qQ,qX];exact dR
theorem jef(hn:n<=8)(hcl:(AV.vec hs n ch).closed=true)(h1:Rt 29 [.vec hs n ch] [] (.bool true) [])(h2:Rt 30 [.int .i64 (p:Int)] [] (.bool true) [])(hk:1<=k/\k<=1000)(P:QR.Pr p)(hp:p<=9973)(hdet:Rt 45 [.vec hs n ch] [] (.int .i64 (D:Int)) [])(hD:D<=10000)(hdv:2*k*D%p≠0):
  ∃r,zbb (numR ((p^(n/2):Nat)-regC p n D k) ((p^(n/2):Nat):Int)) (denR ((p^(n/2):Nat)-regC p n D k) ((p^(n/2):Nat):Int)) r/\Rt 19 [.vec hs n ch,.int .i64 (p:Int),.int .i64 (k:Int)] [] (.tup [r,.int .i64 0]) []:=by
 have p1:=P.one;have c0:qJ [.vec hs n ch]=true:=by simp only[qJ,hcl,qE]
 have t:=zpz (m:=(k:Int)) (b:=true) ⟨λ_=>by omega,λ_=>rfl⟩;have w1:IntKind.i64.wrap (2*(k:Int))=((2*k:Nat):Int):=wQ (by omega);have e1:Int.tmod ((2*k:Nat):Int) (p:Int)=((2*k%p:Nat):Int):=rfl;have e2:Int.tmod (D:Int) (p:Int)=((D%p:Nat):Int):=rfl;have hb2:=qR (show k<=1000 by omega) hD;have hm:2*k%p≠0:=λh=>hdv (qU (xH (qB h) D))
 have hD0:D%p≠0:=λh=>hdv (qU (qT (qB h) (2*k)))
 have d1:decide (((2*k%p:Nat):Int)=0)=false:=dF;have d2:decide (((D%p:Nat):Int)=0)=false:=dF;have e5:Int.tdiv (n:Int) 2=((n/2:Nat):Int):=rfl;have w3:IntKind.i64.wrap ((n/2:Nat):Int)=((n/2:Nat):Int):=zpv (by omega);have e4:Int.tmod (n:Int) 2=((n%2:Nat):Int):=rfl;have ep:=QR.pow_two_mod (n/2)
 have hkD:¬(p:Int)∣(k:Int)*D:=λh=>hdv (qU (by
  have:p∣k*D:=Int.natCast_dvd_natCast.1 (by rw[qH];exact h);rw[xU];exact qT this 2))
 have hsg:∀x:Int,(-1:Int)^(n/2)*x=x\/(-1:Int)^(n/2)*x= -x:=λx=>by
  rw[ep];split
  ·exact .inl (qM _)
  ·exact .inr (by omega)
 have hsd:∀x:Int,¬(p:Int)∣x->¬(p:Int)∣(-1:Int)^(n/2)*x:=λx hx h=>hx (by
  rcases hsg x with e | e
  ·rwa[e]at h
  ·rw[e]at h;exact Int.dvd_neg.1 h)
 have hnd:=hsd D (λh=>hkD (xG h));have hnk:=hsd (k*D) hkD;have ekD:(k:Int)*(D:Int)=((k*D:Nat):Int):=(qH _ _).symm;have wkd:IntKind.i64.wrap ((k:Int)*D)=(k:Int)*D:=w64 (by omega) (by omega)
 have hb3:p^(n/2)<9223372036854775808:=by
  have h1:=yQ hp (n/2);have h2:=qG (n:=9973) (by decide) (show n/2<=4 by omega);have h3:9973^4<9223372036854775808:=by decide
  omega
 rcases qL n with hpar | hpar
 ·have hreg:regC p n D k=QR.chi p ((-1)^(n/2)*D):=by unfold regC;rw[if_pos hpar]
  have t0:=zxp (d:=D) (s:=n/2) (by omega) (by omega) (by omega);have hg:=hsg D;have t1:=zxo P hp (a:=(-1)^(n/2)*D) (by unfold In64;omega) hnd;have hc:QR.chi p ((-1)^(n/2)*D)=0\/QR.chi p ((-1)^(n/2)*D)=1\/QR.chi p ((-1)^(n/2)*D)= -1:= .inr (QR.chi_pm hnd);rw[hreg];obtain⟨r,ir,t2⟩:=qdr (p:=p) (s:=n/2) (by omega) (by omega) hb3 (by omega) hc;generalize QR.chi p ((-1)^(n/2)*D)=c at*;generalize (-1:Int)^(n/2)*D=dd at*;obtain⟨_,_,_,_,rfl,_,_⟩:=ir.shape;have d4:decide (((n%2:Nat):Int)=0)=true:=dT;refine⟨_,ir,?_⟩;refine oF o19 ?_;simp only[c19,r19_0,SS,reduceCtorEq];simp only[r19_1,SS,reduceCtorEq,reduceIte,qQ];refine zaa h1 ?_ c0;simp only[SS,fC,reduceIte,qQ];simp only[r19_3,SS,reduceIte,qQ];refine zaa h2 ?_;simp only[SS,fC,reduceIte,qQ];simp only[r19_5,SS,reduceIte,qQ];refine zaa t ?_;simp only[↓zcn,SS,reduceCtorEq,reduceIte,qQ,w1,e1,d1];refine⟨by omega,?_⟩;refine zaa hdet ?_ c0;simp only[↓zcn,SS,fC,reduceIte,qQ,e2,d2];refine⟨by omega,?_⟩;simp only[r19_7,SS,reduceCtorEq,reduceIte,qQ];refine zaa hdet ?_ c0;simp only[SS,reduceCtorEq,reduceIte,qQ,e5,w3];refine⟨by decide,?_⟩;simp only[r19_8,SS,fC,reduceCtorEq,reduceIte,qQ,e4,d4];refine⟨by decide,?_⟩;simp only[r19_9,SS,reduceIte,qQ];refine zaa t0 ?_;simp only[SS,reduceIte,qQ];refine zaa t1 ?_;simp only[SS,reduceIte,qQ];refine zaa t2 ?_;simp only[SS,reduceIte,qZ,qQ,qX];exact dR
 ·have hreg:regC p n D k= -QR.chi p ((-1)^(n/2)*(k*D)):=by unfold regC;rw[if_neg (by omega)]
  have t0:=zxp (d:=k*D) (s:=n/2) (by omega) (by omega) (by omega);have hg:=hsg (k*D);have t1:=zxo P hp (a:=(-1)^(n/2)*(k*D)) (by unfold In64;omega) hnk;have hc: -QR.chi p ((-1)^(n/2)*(k*D))=0\/ -QR.chi p ((-1)^(n/2)*(k*D))=1\/ -QR.chi p ((-1)^(n/2)*(k*D))= -1:=by have:=QR.chi_pm hnk;omega
  have wc:IntKind.i64.wrap (0-QR.chi p ((-1)^(n/2)*(k*D)))= -QR.chi p ((-1)^(n/2)*(k*D)):=wQ (by omega);rw[hreg];obtain⟨r,ir,t2⟩:=qdr (p:=p) (s:=n/2) (by omega) (by omega) hb3 (by omega) hc;generalize QR.chi p ((-1)^(n/2)*(k*D))=c at*;generalize (-1:Int)^(n/2)*(k*D)=dd at*;obtain⟨_,_,_,_,rfl,_,_⟩:=ir.shape;have d4:decide (((n%2:Nat):Int)=0)=false:=dF;refine⟨_,ir,?_⟩;refine oF o19 ?_;simp only[c19,r19_0,SS,reduceCtorEq];simp only[r19_1,SS,reduceCtorEq,reduceIte,qQ];refine zaa h1 ?_ c0;simp only[SS,fC,reduceIte,qQ];simp only[r19_3,SS,reduceIte,qQ];refine zaa h2 ?_;simp only[SS,fC,reduceIte,qQ];simp only[r19_5,SS,reduceIte,qQ];refine zaa t ?_;simp only[↓zcn,SS,reduceCtorEq,reduceIte,qQ,w1,e1,d1];refine⟨by omega,?_⟩;refine zaa hdet ?_ c0;simp only[↓zcn,SS,fC,reduceIte,qQ,e2,d2];refine⟨by omega,?_⟩;simp only[r19_7,SS,reduceCtorEq,reduceIte,qQ];refine zaa hdet ?_ c0;simp only[SS,reduceCtorEq,reduceIte,qQ,e5,w3];refine⟨by decide,?_⟩;simp only[r19_8,SS,fC,reduceCtorEq,reduceIte,qQ,e4,d4];refine⟨by decide,?_⟩;simp only[r19_10,SS,reduceIte,qQ,wkd];refine zaa t0 ?_;simp only[SS,reduceIte,qQ];refine zaa t1 ?_;simp only[SS,reduceIte,qQ,wc];refine zaa t2 ?_;simp only[SS,reduceIte,qZ,qQ,qX];exact dR
end
end Go.Proofs.YtpflahgcdgdkjaaGreatDoor
namespace Go.Proofs.YtpflahgcdgdkjaaGreatDoor
open Nat renaming reduceEqDiff -> qQ, reduceLeDiff -> qX, reduceAdd -> qZ, mod_eq_zero_of_dvd -> qU, dvd_of_mod_eq_zero -> qB, pow_le_pow_right -> qG, mod_two_eq_zero_or_one -> qL, lt_or_ge -> qO, mul_le_mul -> qR, dvd_mul_left_of_dvd -> qT, dvd_mul_right_of_dvd -> xH, le_trans -> xI, pow_pos -> yG
open Go.AL.AV.closed renaming closedL -> qJ
open List renaming replicate_zero -> qV, append_nil -> qA
open Bool renaming and_self -> qE
open Go Go.AL Go.Proofs Go.Limb
theorem qaq{x:Int}{a b:AV}(ha:zag x a)(hb:zag x b):∃l c d,zbp l/\l.length<=1100/\a= .agg [.bool (decide (x<0)),.vec (u32s l) l.length c]/\b= .agg [.bool (decide (x<0)),.vec (u32s l) l.length d]:=by
 obtain⟨l,c,h1,h2,h3,rfl⟩:=ha;obtain⟨l',d,g1,g2,g3,rfl⟩:=hb;have:l'=l:=zdf g1 h1 (g3.trans h3.symm);subst this;exact⟨l',c,d,h1,h2,rfl,rfl⟩
theorem jeg{x:Int}{a b:AV}(ha:zag x a)(hb:zag x b):Rt 41 [a,b] [] (.bool true) []:=by
 obtain⟨l,c,d,hc,hl,rfl,rfl⟩:=qaq ha hb;have tc:=zcmp l l c d (by omega) (by omega);have e0:cmpL l l=0:=by rw[zel hc hc];unfold sgn;rw[if_neg (Nat.lt_irrefl _),if_pos rfl]
 rw[e0]at tc;generalize decide (x<0)=s at*;have db:(s == s)=true:=by cases s<;>rfl
 refine oF o41 ?_;have d0:decide ((0:Int)=0)=true:=rfl;simp only[c41,r41_0,r41_1,↓zcn,SS,fC,reduceCtorEq,reduceIte,qZ,qQ,qX,decide_true,db];refine zaa tc ?_;simp only[zay,zad,qV,qA,↓zcn,SS,reduceIte,qQ];exact dR
theorem jgk{x y:Int}{a b:AV}(ha:zbb x y a)(hb:zbb x y b):Rt 17 [a,b] [] (.bool true) []:=by
 obtain⟨a1,a2,a3,a4,rfl,h1,h2⟩:=ha;obtain⟨b1,b2,b3,b4,rfl,h3,h4⟩:=hb;have t1:=jeg h1 h3;have t2:=jeg h2 h4;have c1:qJ [.agg [a1,a2],.agg [b1,b2]]=true:=by have:=h1.closed;have:=h3.closed;simp only[qJ, *,qE]
 have c2:qJ [.agg [a3,a4],.agg [b3,b4]]=true:=by have:=h2.closed;have:=h4.closed;simp only[qJ, *,qE]
 refine oF o17 ?_;simp only[c17,r17_0,r17_1,SS,reduceCtorEq,reduceIte,qZ,qQ,qX];refine zaa t1 ?_ c1;simp only[zay,zad,qV,qA,↓zcn,SS,reduceIte,qZ,qQ,qX];refine zaa t2 ?_ c2;simp only[zay,zad,qV,qA,SS,reduceIte,qQ];exact dR
open Go.Det
theorem jao(p n:Nat)(d t:Int):regC p n d t=0\/regC p n d t=1\/regC p n d t= -1:=by
 have h:∀x,QR.chi p x=0\/QR.chi p x=1\/QR.chi p x= -1:=λx=>by
  by_cases e:(p:Int)∣x
  ·exact .inl (QR.chi_zero e)
  ·exact .inr (QR.chi_pm e)
 unfold regC;split
 ·exact h _
 ·have:=h ((-1)^(n/2)*(t*d));omega
theorem jap{p s:Nat}{c:Int}(hp:1<=p)(hb:p^s<=3000)(hc:c=0\/c=1\/c= -1):Low (numR ((p^s:Nat)-c) ((p^s:Nat):Int)) (denR ((p^s:Nat)-c) ((p^s:Nat):Int))/\(numR ((p^s:Nat)-c) ((p^s:Nat):Int)*denR ((p^s:Nat)-c) ((p^s:Nat):Int)).natAbs<BIG:=by
 have h0:0<p^s:=yG (by omega);generalize p^s=P at*;have h1:=qve ((P:Int)-c) P;have h2:=qvf ((P:Int)-c) P;have h3:=zpq (n:=(P:Int)-c) (show(0:Int)<P by omega);have h4:=qls (n:=(P:Int)-c) (show(0:Int)<P by omega);have h5:=qR (show(numR ((P:Int)-c) P).natAbs<=3001 by omega) (show(denR ((P:Int)-c) P).natAbs<=3000 by omega);exact⟨⟨h3,by omega,by omega,h4⟩,zea (by rw[Int.natAbs_mul];omega)⟩
theorem jaq{M:List (List Int)}{a:AV}(hV:ImV M a)(h8:M.length<=8)(hr8:∀i,i<M.length->(M.getD i []).length<=8)(z m:Int):
  ∃(D1 D2:AV) (e x y:Int),zbb x y D1/\zbb x y D2/\Rt 18 [a,.int .i64 z,.int .i64 m] [] (.tup [D1,.int .i64 e]) []/\Rt 19 [a,.int .i64 z,.int .i64 m] [] (.tup [D2,.int .i64 e]) []/\
   (e=0->∃p:Nat,z=p/\2<=p/\p<=9973/\(p^M.length<=3000->(Low x y/\(x*y).natAbs<BIG)/\∃r,zbb x y r/\Rt 15 [a,.int .i64 z,.int .i64 m] [] (.tup [r,.int .i64 0]) [])):=by
 obtain⟨bR,hbR⟩:=qak (zkz M/\Red M.length (rowF M));obtain⟨bP,hbP⟩:=qak (z<=9973/\PrmZ z);have t1:=qgi hV (by omega) (λi hi=>by have:=hr8 i hi;omega) hbR;have t2:=zum hV h8 hr8 hbR;have hca:a.closed=true:=hV.closed;have t3:=qgj t1 hca hbP;have t4:=qss hbP;have hV0:=hV;obtain⟨rows,ch,rfl,hl,hr⟩:=hV.val;by_cases he:chkZ bR bP=0;rotate_left
 ·exact⟨nilR,nilR,chkZ bR bP,0,0,zgr,zgr,qtc hca he t3,jal hca t2 t4 he,λh=>absurd h he⟩
 obtain⟨rfl,rfl⟩:bR=true/\bP=true:=by
  revert he;cases bR<;>cases bP<;>decide
 have t3:Rt 26 [.vec rows M.length ch,.int .i64 z] [] (.int .i64 0) []:=t3;by_cases hm:m<1\/1000<m
 ·exact⟨nilR,nilR,1,0,0,zgr,zgr,qtd hca t3 hm,jam hca t2 t4 hm,λh=>absurd h (by decide)⟩
 obtain⟨hSm,hRed⟩:=hbR.1 rfl;obtain⟨hz,hP⟩:=hbP.1 rfl;obtain⟨n1,_,hS,hent⟩:=hSm;have hz2:=hP.1;obtain⟨p,rfl⟩:∃p:Nat,z=(p:Int):=⟨z.toNat,by omega⟩
 obtain⟨k,rfl⟩:∃k:Nat,m=(k:Int):=⟨m.toNat,by omega⟩
 have t5:=zuk hV0 hS hRed;have t6:=jdn hV0 hS hRed;obtain⟨_,b1,b2⟩:=zpy hRed;obtain⟨D,hD⟩:∃D:Nat,lead (rowF M) M.length=(D:Int):=⟨(lead (rowF M) M.length).toNat,by omega⟩
 rw[hD]at t5 t6;by_cases hdv:2*k%p=0\/D%p=0
 ·have h2:2*k*D%p=0:=by
   rcases hdv with h | h
   ·exact qU (xH (qB h) D)
   ·exact qU (qT (qB h) (2*k))
  exact⟨nilR,nilR,1,0,0,zgr,zgr,qte hca t3 (by omega) (by omega) t5 (by omega) h2,jan hca t2 t4 (by omega) (by omega) t6 hdv,λh=>absurd h (by decide)⟩
 have hk2:2*k%p≠0:=λh=>hdv (.inl h)
 have hDp:D%p≠0:=λh=>hdv (.inr h)
 have ho:p%2=1:=by
  rcases qL p with h | h
  ·have h22:=hP.2.2.2 2 (by omega);rcases qO p 4 with h4 | h4
   ·obtain rfl:p=2:=by omega
    omega
   ·exact absurd h (h22 (by show 2*2<=((p:Int)).toNat;omega))
  ·exact h
 have P:=jec (show 2<=p by omega) hP.2.2.2 ho
 have hdv2:2*k*D%p≠0:=λh=>by
  have c:=P.coprime (x:=2*k) (λhh=>hk2 (qU hh));exact hDp (qU (c.dvd_of_dvd_mul_left (qB h)))
 obtain⟨r1,i1,u1⟩:=jak h8 hca t3 (k:=k) (by omega) P (by omega) t5 (by omega) hdv2;obtain⟨r2,i2,u2⟩:=jef h8 hca t2 t4 (k:=k) (by omega) P (by omega) t6 (by omega) hdv2;refine⟨r1,r2,0,_,_,i1,i2,u1,u2,λ_=>⟨p,rfl,by omega,by omega,λhpow=>?_⟩⟩;have hpow2:p^(M.length/2)<=3000:=xI (qG (by omega) (Nat.div_le_self _ 2)) hpow;refine⟨jap (by omega) hpow2 (jao ..),?_⟩;have hnk:¬(p:Int)∣(k:Int):=λh=>hk2 (qU (qT (Int.natCast_dvd_natCast.1 h) 2))
 have hnD:¬(p:Int)∣lead (rowF M) M.length:=λh=>hDp (qU (Int.natCast_dvd_natCast.1 (by rw[<-hD];exact h)))
 rw[<-hD];exact jag hV0 hS hRed t3 hP ho hpow (by omega) hnk hnD
end Go.Proofs.YtpflahgcdgdkjaaGreatDoor
namespace Go.Proofs.YtpflahgcdgdkjaaGreatDoor
open Nat renaming reduceEqDiff -> qQ, reduceLeDiff -> qX, reduceAdd -> qZ, lt_or_ge -> qO
open Int renaming toNat_natCast -> qY, tmod_eq_emod_of_nonneg -> qI
open Go Go.AL Go.Proofs
noncomputable section
def q10:=V (RS Tryz.f10=·)
def r10_0:=X q10 0
def r10_1:=X q10 1
def r10_2:=X q10 2
def r10_3:=X q10 3
def r10_4:=X q10 4
def r10_5:=X q10 5
def l10_0:CC:=(.seq (.seq (rN r10_3) (.cond (.t 16) .skip (.exit 0))) (.seq (.block 1 (rN r10_4)) (rN r10_5)))
def r10_6:=X q10 6
def c10:CC:=(.seq (rN r10_0) (.seq (rN r10_1) (.seq (.seq (rN r10_2) (.block 0 (.loop l10_0))) (.seq (rN r10_6) .ret))))
theorem o10:FnI 10 23 Tryz.f10 c10 [.tmp 6]:=oM Tryz.func10
end
theorem jar{M:List (List Int)}{a:AV}(h:ImV M a){b:Bool}(hb:b=true↔8<M.length\/∃i,i<M.length/\8<(M.getD i []).length):Rt 6 [a] [] (.bool b) []:=by
 obtain⟨rows,c,rfl,hl,hr⟩:=h.val;refine oF o6 ?_;rcases qO 8 M.length with h0 | h0
 ·obtain rfl:b=true:=hb.2 (.inl h0);simp only[c6,r6_0,r6_1,SS,reduceCtorEq,reduceIte,qQ];refine⟨λ_=>?_,λe=>absurd e (by omega)⟩;simp only[r6_2,SS];exact kR
 simp only[c6,r6_0,r6_1,SS,reduceCtorEq,reduceIte,qQ];refine⟨λe=>absurd e (by omega),λ_=>?_⟩;simp only[r6_3,SS,reduceCtorEq,reduceIte,qQ];refine zaf (λk E H=>∃i,i+k=M.length/\E 8= .vec rows M.length c/\E 9= .int .i64 (M.length:Nat)/\E 10= .int .i64 (i:Nat)/\H=[]/\∀t,t<i->(M.getD t []).length<=8) (n:=M.length) ⟨0,by omega,by simp only[UU,qQ,reduceIte],by simp only[UU,qQ,reduceIte],by simp only[UU,qQ,reduceIte];rfl,rfl,λt ht=>absurd ht (by omega)⟩ ?_;rintro k E H ⟨i,hik,h8,h9,h10,rfl,hgood⟩;refine wM ?_;simp only[l6_0,r6_4,SS,reduceCtorEq,reduceIte,h9,h10];refine⟨λhlt=>?_,λhge=>?_⟩
 ·obtain⟨k,rfl⟩:∃k',k=k'+1:=⟨k-1,by omega⟩
  obtain⟨ci,ei⟩:=hr i (by omega);have w5:=wS1 i (by omega);simp only[r6_5,r6_6,SS,fC,reduceIte,qQ,h8,h10,qY,ei,hl];refine⟨⟨by omega,by omega⟩,by omega,λhgt=>?_,λhng=>?_⟩
  ·obtain rfl:b=true:=hb.2 (.inr ⟨i,by omega,by omega⟩);simp only[r6_7,SS];exact kR
  ·simp only[r6_8,SS,reduceIte,qQ,h10,w5];refine⟨k,_,_,by omega,⟨i+1,by omega,?_,?_,?_,rfl,λt ht=>?_⟩,.refl⟩
   ·simp only[UU,qQ,h8]
   ·simp only[UU,qQ,h9]
   ·simp only[UU,qQ,reduceIte]
   ·rcases(by omega:t<i\/t=i)with e | e
    ·exact hgood t e
    ·subst e;omega
 ·obtain rfl:b=false:=by
   cases b with
   |false=>rfl
   |true=>
    rcases hb.1 rfl with e | ⟨t,ht,h⟩
    ·omega
    ·have:=hgood t (by omega);omega
  simp only[r6_9,SS];exact kR
theorem jas{k:Int}(hk:0<=k/\k<256):∃z:Int,In64 z/\Rt 9 [.int .u8 k] [] (.int .i64 z) []:=by
 have hm:(k%20).toNat<20:=by omega
 have gc:=zcf [2,3,5,7,2,3,5,11,13,17,19,23,3,2,9973,10007,1,4,9,-3] (k%20).toNat hm .junk
 have hz:In64 (([2,3,5,7,2,3,5,11,13,17,19,23,3,2,9973,10007,1,4,9,-3]:List Int).getD (k%20).toNat 0):=by
  have key:∀i,i<20-> -10<=([2,3,5,7,2,3,5,11,13,17,19,23,3,2,9973,10007,1,4,9,-3]:List Int).getD i 0/\([2,3,5,7,2,3,5,11,13,17,19,23,3,2,9973,10007,1,4,9,-3]:List Int).getD i 0<=20000:=by decide
  have:=key _ hm;unfold In64;omega
 generalize ([2,3,5,7,2,3,5,11,13,17,19,23,3,2,9973,10007,1,4,9,-3]:List Int).getD (k%20).toNat 0=z at*;refine⟨z,hz,?_⟩;have gc':([.int .i64 2,.int .i64 3,.int .i64 5,.int .i64 7,.int .i64 2,.int .i64 3,.int .i64 5,.int .i64 11,.int .i64 13,.int .i64 17,.int .i64 19,.int .i64 23,.int .i64 3,.int .i64 2,.int .i64 9973,.int .i64 10007,.int .i64 1,.int .i64 4,.int .i64 9,.int .i64 (-3)]:List AV).getD (k%20).toNat .junk= .int .i64 z:=gc;have wk:IntKind.i64.wrap k=k:=w64 (by omega) (by omega);have et:Int.tmod k 20=k%20:=qI hk.1;have et':Int.tmod k ((20:Nat):Int)=k%20:=et;refine oF o9 ?_;simp only[c9,r9_0,r9_1,SS,reduceCtorEq,reduceIte,qZ,qX];simp only[r9_2,SS,fC,reduceCtorEq,reduceIte,qZ,qQ,qX,wk,et',gc'];refine⟨by decide,⟨by omega,by omega⟩,by omega,?_⟩;exact dR
def pwF(z cap:Int):Nat->Int->Int
 |0,n=>n
 |k+1,n=>if n<=cap then pwF z cap k (IntKind.i64.wrap (n*z))else n
theorem qgm(z e cap:Int)(he:e<9223372036854775808):Rt 10 [.int .i64 z,.int .i64 e,.int .i64 cap] [] (.int .i64 (pwF z cap e.toNat 1)) []:=by
 refine oF o10 ?_;simp only[c10,r10_0,r10_1,r10_2,SS,reduceCtorEq]
 refine zaf (λq E H=>∃(i:Nat) (n:Int),i+q=e.toNat/\H=[]/\pwF z cap q n=pwF z cap e.toNat 1/\E 0= .int .i64 z/\E 1= .int .i64 e/\E 2= .int .i64 cap/\E 7= .int .i64 n/\E 8= .int .i64 (i:Int)) (n:=e.toNat)
  ⟨0,1,by omega,rfl,rfl,by simp only[UU,qQ],by simp only[UU,qQ],by simp only[UU,qQ],by simp only[UU,qQ,reduceIte],by simp only[UU,qQ,reduceIte];rfl⟩ ?_
 rintro q E H ⟨i,n,hiq,rfl,hpw,e0,e1,e2,e7,e8⟩;refine wM ?_;cases q with
 |zero=>
  have d1:decide ((i:Int)<e)=false:=dF;simp only[l10_0,r10_3,SS,fC,reduceCtorEq,reduceIte,qQ,e1,e2,e7,e8,d1];simp only[r10_6,SS,reduceIte,qQ,e7];rw[<-hpw];exact kR
 |succ q=>
  have d1:decide ((i:Int)<e)=true:=dT;have w5:=wS1 i (by omega);by_cases hc:n<=cap
  ·have d2:decide (n<=cap)=true:=decide_eq_true hc;simp only[l10_0,r10_3,SS,fC,reduceCtorEq,reduceIte,qQ,e1,e2,e7,e8,d1,d2];simp only[r10_4,r10_5,SS,reduceCtorEq,reduceIte,qQ,e0,e7,e8,w5];refine⟨q,_,_,by omega,⟨i+1,IntKind.i64.wrap (n*z),by omega,rfl,?_,?_,?_,?_,?_,?_⟩,.refl⟩
   ·rw[<-hpw];simp only[pwF,if_pos hc]
   ·simp only[UU,qQ,e0]
   ·simp only[UU,qQ,e1]
   ·simp only[UU,qQ,e2]
   ·simp only[UU,qQ,reduceIte]
   ·simp only[UU,qQ,reduceIte]
  ·have d2:decide (n<=cap)=false:=decide_eq_false hc;simp only[l10_0,r10_3,SS,fC,reduceCtorEq,reduceIte,qQ,e1,e2,e7,e8,d1,d2];simp only[r10_6,SS,reduceIte,qQ,e7];rw[<-hpw];simp only[pwF,if_neg hc];exact kR
end Go.Proofs.YtpflahgcdgdkjaaGreatDoor
namespace Go.Proofs.YtpflahgcdgdkjaaGreatDoor
open Int renaming emod_lt_of_pos -> xQ, emod_nonneg -> xW
open Go Go.AL Go.Det
def zij(l:List Int)(k:Nat):Int:=l.getD k 0
def zik(l:List Int)(k:Nat):Nat:=if k<l.length then k+1 else k
def zdq(l:List Int)(k:Nat):Int:=zij l k%256
def zbl(l:List Int)(k:Nat):Nat->Nat
 |0=>k
 |m+1=>zik l (zbl l k m)
theorem qtg{l:List Int}{k:Nat}(h:k<=l.length):zik l k<=l.length:=by unfold zik;split<;>omega
theorem zhi{l:List Int}{k:Nat}(h:k<=l.length):∀m,zbl l k m<=l.length:=by
 intro m
 induction m with
 |zero=>exact h
 |succ m ih=>exact qtg ih
theorem qng(l:List Int)(k a:Nat):∀b,zbl l (zbl l k a) b=zbl l k (a+b):=by
 intro b
 induction b with
 |zero=>rfl
 |succ b ih=>
  show zik l (zbl l (zbl l k a) b)=zik l (zbl l k (a+b))
  rw[ih]
def diaM(l:List Int)(k n:Nat)(most:Int):List (List Int):=mkM n λi j=>if i=j then 1+zdq l (zbl l k i)%most else 0
def triK:Nat->Nat
 |0=>0
 |i+1=>triK i+i
def offZ(l:List Int)(k i j:Nat):Int:=Int.tmod (zij l (zbl l k (triK i+j))) 3
def genM(l:List Int)(k n:Nat):List (List Int):=mkM n λi j=>if i=j then 1+zdq l (zbl l k i)%6 else if j<i then offZ l (zbl l k n) i j else offZ l (zbl l k n) j i
def zcm(n:Nat)(fork:Bool)(i k:Nat):Bool:=if fork=true/\i+1=n/\3<n then k+2 == i else k+1 == i
def zcj(n:Nat)(fork:Bool):List (List Int):=mkM n λi j=>if i=j then 2 else if zcm n fork i j=true\/zcm n fork j i=true then -1 else 0
def qgn(M:List (List Int))(i:Nat)(z:Int):List (List Int):=setM M i i (ent M i i+z)
theorem zfz(l:List Int)(k:Nat){m:Int}(hm:1<=m):0<=zdq l k%m/\zdq l k%m<m:=⟨xW _ (by omega),xQ _ (by omega)⟩
theorem zut(l:List Int)(k i j:Nat): -2<=offZ l k i j/\offZ l k i j<=2:=by
 unfold offZ;have:=Int.tmod_lt_of_pos (zij l (zbl l k (triK i+j))) (show(0:Int)<3 by decide);have:=Int.lt_tmod_of_pos (zij l (zbl l k (triK i+j))) (show(0:Int)<3 by decide);omega
structure SmallG(n:Nat)(M:List (List Int)):Prop where
 shp:Shp n M
 sym:∀i j,i<n->j<n->ent M i j=ent M j i
 bnd:∀i j,-16<=ent M i j/\ent M i j<=16
theorem zuu{n:Nat}{f:Nat->Nat->Int}(h1:∀i j,i<n->j<n->f i j=f j i)(h2:∀i j,i<n->j<n-> -16<=f i j/\f i j<=16):SmallG n (mkM n f):=by
 refine⟨zct n f,λi j hi hj=>by rw[zco hi hj,zco hj hi];exact h1 i j hi hj,λi j=>?_⟩;by_cases h:i<n/\j<n
 ·rw[zco h.1 h.2];exact h2 i j h.1 h.2
 ·rw[(zct n f).out (by omega)];omega
theorem zld{l:List Int}{k n:Nat}{most:Int}(h1:1<=most)(h2:most<=9):SmallG n (diaM l k n most):=by
 refine zuu (λi j _ _=>?_) λi j _ _=>?_
 ·by_cases h:i=j
  ·rw[h]
  ·have h':¬j=i:=λe=>h e.symm
   rw[if_neg h,if_neg h']
 ·have:=zfz l (zbl l k i) h1;split<;>omega
theorem qnh{l:List Int}{k n:Nat}:SmallG n (genM l k n):=by
 refine zuu (λi j _ _=>?_) λi j _ _=>?_
 ·by_cases h:i=j
  ·rw[h]
  ·have h':¬j=i:=λe=>h e.symm
   rw[if_neg h,if_neg h'];by_cases h2:j<i
   ·have h3:¬i<j:=by omega
    rw[if_pos h2,if_neg h3]
   ·have h3:i<j:=by omega
    rw[if_neg h2,if_pos h3]
 ·have:=zfz l (zbl l k i) (show(1:Int)<=6 by decide);have:=zut l (zbl l k n) i j;have:=zut l (zbl l k n) j i;split
  ·omega
  ·split<;>omega
theorem zqg{n:Nat}{fork:Bool}:SmallG n (zcj n fork):=by
 refine zuu (λi j _ _=>?_) λi j _ _=>?_
 ·by_cases h:i=j
  ·rw[h]
  ·have h':¬j=i:=λe=>h e.symm
   rw[if_neg h,if_neg h'];by_cases h2:zcm n fork i j=true\/zcm n fork j i=true
   ·rw[if_pos h2,if_pos h2.symm]
   ·have h3:¬(zcm n fork j i=true\/zcm n fork i j=true):=λe=>h2 e.symm
    rw[if_neg h2,if_neg h3]
 ·split
  ·omega
  ·split<;>omega
theorem zff{n i:Nat}{fork:Bool}(hi:i<n):ent (zcj n fork) i i=2:=by
 unfold zcj;rw[zco hi hi,if_pos rfl]
theorem zsb{n i:Nat}{M:List (List Int)}{z:Int}(h:SmallG n M)(hi:i<n)(hd:ent M i i=2)(hz:0<=z/\z<=3):SmallG n (qgn M i z):=by
 unfold qgn;refine⟨h.shp.set hi,λs t hs ht=>?_,λs t=>?_⟩
 ·rw[h.shp.ent_set hi hi,h.shp.ent_set hi hi];by_cases e:s=i/\t=i
  ·rw[if_pos e,if_pos ⟨e.2,e.1⟩]
  ·rw[if_neg e,if_neg (λx=>e ⟨x.2,x.1⟩)];exact h.sym s t hs ht
 ·rw[h.shp.ent_set hi hi];have:=h.bnd s t;split<;>omega
def rawM(l:List Int)(kind n:Nat):List (List Int):=
 if kind<4 then genM l 0 n else if kind=4 then qgn (zcj n false) 0 (zdq l 0%3)else if kind=5 then qgn (zcj n true) (n-1) (zdq l 0%2)else if kind=6 then diaM l 0 n 9 else diaM l 0 n 1
def rawK(l:List Int)(kind n:Nat):Nat:=
 if kind<4 then zbl l 0 (n+triK n)else if kind=4 then zik l 0 else if kind=5 then zik l 0 else zbl l 0 n
theorem zxr{l:List Int}{kind n:Nat}(hn:1<=n):SmallG n (rawM l kind n):=by
 unfold rawM;split
 ·exact qnh
 split
 ·exact zsb zqg (by omega) (zff (by omega)) (by have:=zfz l 0 (show(1:Int)<=3 by decide);omega)
 split
 ·exact zsb zqg (by omega) (zff (by omega)) (by have:=zfz l 0 (show(1:Int)<=2 by decide);omega)
 split
 ·exact zld (by decide) (by decide)
 ·exact zld (by decide) (by decide)
theorem qni{l:List Int}{k n i j:Nat}{most:Int}(hi:i<n)(hj:j<n):ent (diaM l k n most) i j=if i=j then 1+zdq l (zbl l k i)%most else 0:=by
 unfold diaM;rw[zco hi hj]
end Go.Proofs.YtpflahgcdgdkjaaGreatDoor
namespace Go.Proofs.YtpflahgcdgdkjaaGreatDoor
open Nat renaming reduceEqDiff -> qQ, reduceLeDiff -> qX, reduceAdd -> qZ, le_refl -> qD, sub_self -> xK, add_zero -> xM, add_assoc -> yJ, mul_one -> yE, not_lt_zero -> yI
open Go.AL.AV.closed renaming closedL -> qJ
open List renaming getElem?_cons_succ -> qK, getElem?_cons_zero -> qW, replicate_zero -> qV, append_nil -> qA, getD_eq_getElem?_getD -> qC, set_append_right -> qN, getElem?_eq_getElem -> xX, getElem?_append_right -> xJ, take_of_length_le -> xY, mapM_cons -> xD, length_append -> xE, length_nil -> xN, length_map -> xO, map_congr_left -> yX, getElem?_map -> yY, ext_getElem -> yB, length_cons -> yC, length_set -> yH
open Int renaming toNat_natCast -> qY, tmod_eq_emod_of_nonneg -> qI, emod_lt_of_pos -> xQ, emod_nonneg -> xW
open Go Go.AL Go.Proofs Go.Limb
def i8z(l:List Int):List AV:=l.map λz=>AV.int .i8 z
theorem qar(l:List Int):(i8z l).length=l.length:=by simp[i8z]
theorem qth(l:List Int)(j:Nat)(h:j<l.length)(d:AV):(i8z l).getD j d= .int .i8 (l.getD j 0):=by simp[i8z,h]
def zdn(l:List Int)(c:Option Nat)(k:Nat):List AV:=[.vec (i8z l) l.length c,.int .i64 (k:Nat)]
def zle(l:List Int):Prop:=l.length<9223372036854775808/\∀z∈l,-128<=z/\z<128
theorem zxs{l:List Int}(h:zle l)(k:Nat): -128<=zij l k/\zij l k<128:=by
 unfold zij;rw[qC];cases e:l[k]? with
 |none=>simp
 |some z=>exact h.2 z (List.mem_of_getElem? e)
theorem jeh{l:List Int}{c:Option Nat}{k:Nat}(h:zle l)(hk:k<=l.length):Rt 135 [.ptr 0 0] [some (zdn l c k)] (.int .i64 (zij l k)) [some (zdn l c (zik l k))]:=by
 have hl:=h.1;have hz:=zxs h k;refine oF o135 ?_;simp only[c135,r135_0,r135_1,SS,fC,reduceCtorEq,reduceIte,qZ,qQ,qX,zdn];refine⟨rfl,λhge=>?_,λhlt=>?_⟩
 ·have e1:zij l k=0:=by
   unfold zij;rw[qC,List.getElem?_eq_none (by omega)];rfl
  have e2:zik l k=k:=by unfold zik;rw[if_neg (by omega)]
  simp only[r135_2,SS,e1,e2];exact kR
 ·have hkl:k<l.length:=by omega
  have e2:zik l k=k+1:=by unfold zik;rw[if_pos hkl]
  have w5:=wS1 k (by omega);have w6:IntKind.i64.wrap (((k+1:Nat):Int)-1)=(k:Int):=wQ (by omega);have w7:IntKind.i64.wrap (zij l k)=zij l k:=w64 (by omega) (by omega);have g:(i8z l).getD k .junk= .int .i8 (zij l k):=qth l k hkl _;simp only[r135_3,r135_4,SS,fC,reduceCtorEq,reduceIte,qZ,qQ,qX,w5,w6,e2,qY,g,qar,w7];refine⟨⟨by omega,by omega⟩,by omega,rfl,?_⟩;exact kR
theorem qnj{l:List Int}{c:Option Nat}{k:Nat}{m:Int}(h:zle l)(hk:k<=l.length)(hm:1<=m/\m<1000000):Rt 67 [.ptr 0 0,.int .i64 m] [some (zdn l c k)] (.int .i64 (zdq l k%m)) [some (zdn l c (zik l k))]:=by
 have hl:=h.1;have hz:=zxs h k;have hb:0<=zdq l k/\zdq l k<256:=by unfold zdq;omega
 have w1:IntKind.u8.wrap (zij l k)=zdq l k:=by
  show zij l k%256=_
  rfl
 have w2:IntKind.i64.wrap (zdq l k)=zdq l k:=w64 (by omega) (by omega);have w3:Int.tmod (zdq l k) m=zdq l k%m:=qI hb.1
 have w4:IntKind.i64.wrap (zdq l k%m)=zdq l k%m:=by
  have:=xW (zdq l k) (show m≠0 by omega);have:=xQ (zdq l k) (show 0<m by omega);exact w64 (by omega) (by omega)
 refine oF o67 ?_;simp only[c67,r67_0,r67_1,SS,reduceCtorEq,reduceIte];refine zeq (id:=0) (jeh h hk) rfl rfl ?_;simp only[zay,SS,reduceIte,qQ,w1,w2,w3];refine⟨by omega,?_⟩;exact kR
def zjx(o n i:Nat):List AV:=(List.range i).map λk=> .sl (o+k+1) 0 n 1 (some n)
def outO(o N n i:Nat):List AV:=zjx o n i++List.replicate (N-i) nilV
def bO(o N n:Nat)(rows:List (List Int)):Heap:=some (outO o N n rows.length)::rows.map λr=>some (i64z r)
theorem zfp(o n i:Nat):(zjx o n i).length=i:=by simp[zjx]
theorem zlf{o N n i:Nat}(h:i<=N):(outO o N n i).length=N:=by simp[outO,zfp];omega
theorem zlg{o N n i k:Nat}(h:k<i):(outO o N n i).getD k .junk= .sl (o+k+1) 0 n 1 (some n):=by
 unfold outO zjx;rw[qC,List.getElem?_append_left (by simpa using h),yY,List.getElem?_range h];rfl
theorem qnk{o N n i:Nat}(h:i<N):(outO o N n i).set i (.sl (o+i+1) 0 n 1 (some n))=outO o N n (i+1):=by
 unfold outO;have e:List.replicate (N-i) nilV=nilV::List.replicate (N-(i+1)) nilV:=by rw[<-List.replicate_succ];congr 1;omega
 have ez:zjx o n (i+1)=zjx o n i++[.sl (o+i+1) 0 n 1 (some n)]:=by simp[zjx,List.range_succ]
 rw[e,ez,qN _ _ (by rw[zfp];omega),zfp,xK];simp
section
variable{P:Heap}{o N n:Nat}{rows:List (List Int)}
theorem jei(ho:P.length=o):(P++bO o N n rows).length=o+rows.length+1:=by simp[bO,ho];omega
theorem zga(ho:P.length=o):getB (P++bO o N n rows) o=some (outO o N n rows.length):=by
 unfold getB;rw[xJ (by omega),ho,xK];rfl
theorem zmr(ho:P.length=o){i:Nat}(h:i<rows.length):getB (P++bO o N n rows) (o+i+1)=some (i64z (rows.getD i [])):=by
 unfold getB bO;rw[xJ (by omega),ho,show o+i+1-o=i+1 by omega,qK,yY,qC,xX h];rfl
theorem zxt(ho:P.length=o){i:Nat}(r:List Int):(P++bO o N n rows).set (o+i+1) (some (i64z r))=P++bO o N n (rows.set i r):=by
 rw[qN _ _ (by omega),ho,show o+i+1-o=i+1 by omega];unfold bO;rw[List.set_cons_succ,yH,List.map_set]
theorem jej(ho:P.length=o)(r:List Int)(h:rows.length<N):(P++bO o N n rows++[some (i64z r)]).set o (some ((outO o N n rows.length).set rows.length (.sl (o+rows.length+1) 0 n 1 (some n))))=P++bO o N n (rows++[r]):=by
 rw[qnk h,List.append_assoc,qN _ _ (by omega),ho,xK];unfold bO;simp
theorem jek(ho:P.length=o)(hN:rows.length=N)(hn:∀i,i<N->(rows.getD i []).length=n):frzI 0 (P++bO o N n rows) 3 (.sl o 0 N 1 (some N))=some (.vec (zcx n rows) N (some N)):=by
 have e0:outO o N n rows.length=zjx o n N:=by
  unfold outO;rw[hN,xK,qV,qA]
 have key:(zjx o n N).mapM (frzI 0 (P++bO o N n rows) 2)=some (zcx n rows):=by
  have:zcx n rows=(List.range N).map λk=>AV.vec (i64z (rows.getD k [])) n (some n):=by
   refine yB (by simp[zcx,hN]) λk h1 h2=>?_
   simp only[zcx,List.getElem_map,List.getElem_range];have hk:k<rows.length:=by simpa[zcx]using h1
   rw[qC,xX hk];rfl
  rw[this];unfold zjx;rw[List.mapM_map]
  have:∀l:List Nat,(∀k∈l,k<N)->l.mapM (λk=>frzI 0 (P++bO o N n rows) 2 (.sl (o+k+1) 0 n 1 (some n)))=some (l.map λk=>AV.vec (i64z (rows.getD k [])) n (some n)):=by
   intro l
   induction l with
   |nil=>intro _;rfl
   |cons k l ih=>
    intro h;have hk:=h k (by simp)
    have e:frzI 0 (P++bO o N n rows) 2 (.sl (o+k+1) 0 n 1 (some n))=some (.vec (i64z (rows.getD k [])) n (some n)):=by
     rw[frzI];have hl:=hn k hk;simp only[yI,if_false,zmr ho (show k<rows.length by omega),need,Nat.zero_add,yE,zbe,hl,qD,if_true,List.drop_zero];rw[xY (by rw[zbe];omega),zuh];rfl
    rw[xD,e,ih (λx hx=>h x (by simp[hx]))];rfl
  exact this _ (λk hk=>List.mem_range.1 hk)
 rw[frzI];simp only[yI,if_false,zga ho,e0,need,Nat.zero_add,yE,zfp,qD,if_true,List.drop_zero];rw[xY (by rw[zfp];omega),key];rfl
end
def tP(l:List Int)(c:Option Nat)(k:Nat):Heap:=[some (zdn l c k)]
theorem zsc(l:List Int)(c:Option Nat)(k:Nat):(tP l c k).length=1:=rfl
theorem qvq(l:List Int)(c:Option Nat)(k:Nat)(X:Heap):getB (tP l c k++X) 0=some (zdn l c k):=rfl
theorem qvr(l:List Int)(c:Option Nat)(k k':Nat)(X:Heap):(tP l c k++X).set 0 (some (zdn l c k'))=tP l c k'++X:=rfl
theorem zqh(l:List Int)(k n:Nat)(most:Int):Shp n (diaM l k n most):=zct _ _
theorem jat{l:List Int}{k n i:Nat}{most:Int}(hi:i<n):(diaM l k n most).getD i []=(List.replicate n 0).set i (1+zdq l (zbl l k i)%most):=by
 have hr:=(zqh l k n most).row i hi;refine yB (by rw[hr];simp) λt h1 h2=>?_
 have ht:t<n:=by omega
 have e:ent (diaM l k n most) i t=if i=t then 1+zdq l (zbl l k i)%most else 0:=by
  unfold diaM;rw[zco hi ht]
 unfold ent at e;rw[qC,xX h1]at e;rw[List.getElem_set];simp only[Option.getD_some]at e;rw[e];by_cases hit:i=t
 ·rw[if_pos hit,if_pos hit]
 ·rw[if_neg hit,if_neg hit];simp
theorem zlh{l:List Int}{c:Option Nat}{k n:Nat}{most:Int}(h:zle l)(hk:k<=l.length)(hn:1<=n/\n<=8)(hm:1<=most/\most<=9):
  Rt 68 [.ptr 0 0,.int .i64 (n:Nat),.int .i64 most] [some (zdn l c k)] (.sl 1 0 n 1 (some n)) (tP l c (zbl l k n)++bO 1 n n (diaM l k n most)):=by
 have hD:=zqh l k n most;refine oF o68 ?_ (by simp) (by simp only[xE,zsc,yC,xN];omega);simp only[c68,r68_0,r68_1,SS,reduceCtorEq,reduceIte,qQ,qY];refine⟨by decide,⟨by omega,by omega,by omega,by omega⟩,?_⟩;simp only[r68_2,SS,reduceIte,qQ]
 refine zaf (λq E H=>∃i,i+q=n/\H=tP l c (zbl l k i)++bO 1 n n ((diaM l k n most).take i)/\E 0= .ptr 0 0/\E 1= .int .i64 (n:Nat)/\E 2= .int .i64 most/\E 7= .sl 1 0 n 1 (some n)/\E 12= .int .i64 (n:Nat)/\E 13= .int .i64 (i:Nat)) (n:=n)
  ⟨0,by omega,rfl,by simp only[UU,qQ],by simp only[UU,qQ],by simp only[UU,qQ],by simp only[UU,qQ,reduceIte],by simp only[UU,qQ,reduceIte],by simp only[UU,qQ,reduceIte];rfl⟩ ?_
 rintro q E H ⟨i,hiq,rfl,e0,e1,e2,e7,e12,e13⟩;refine wM ?_;simp only[l68_0,r68_3,SS,reduceCtorEq,reduceIte,e12,e13];refine⟨λhlt=>?_,λhge=>?_⟩
 ·obtain⟨q,rfl⟩:∃q',q=q'+1:=⟨q-1,by omega⟩
  have hi:i<n:=by omega
  have hDl:=hD.len;have htl:((diaM l k n most).take i).length=i:=by rw[List.length_take];omega
  have hki:=zhi hk i;have w5:=wS1 i (by omega);have hP:=zsc l c (zbl l k i);have hbl:=jei (N:=n) (n:=n) (rows:=(diaM l k n most).take i) hP;rw[htl]at hbl
  have hgo:getB (tP l c (zbl l k i)++bO 1 n n ((diaM l k n most).take i)++[some (i64z (List.replicate n 0))]) 1=some (outO 1 n n i):=by
   have:getB (tP l c (zbl l k i)++bO 1 n n ((diaM l k n most).take i)) 1=some (outO 1 n n i):=by rw[zga hP,htl]
   exact this
  have gol:=zlf (o:=1) (N:=n) (n:=n) (i:=i) (by omega);have hnew:=jej (N:=n) (n:=n) (rows:=(diaM l k n most).take i) hP (List.replicate n 0) (by omega);rw[htl]at hnew;simp only[r68_4,r68_5,SS,reduceIte,qQ,e1,e7,e13,qY,hbl,zkw,hgo,gol];refine⟨by decide,⟨by omega,by omega,by omega,by omega⟩,⟨by omega,by omega⟩,by omega,?_⟩;rw[hnew];have hrl:((diaM l k n most).take i++[List.replicate n 0]).length=i+1:=by simp;omega
  have ko:=zga (N:=n) (n:=n) (rows:=(diaM l k n most).take i++[List.replicate n 0]) hP;rw[hrl]at ko;have kl:=zlf (o:=1) (N:=n) (n:=n) (i:=i+1) (by omega);have kg:=zlg (o:=1) (N:=n) (n:=n) (i:=i+1) (k:=i) (by omega);have hki1:=zhi hk (i+1);have tB:=qnj (l:=l) (c:=c) (k:=zbl l k i) (m:=most) h hki (by omega);have hbz:=zfz l (zbl l k i) hm.1;have w6:IntKind.i64.wrap (zdq l (zbl l k i)%most)=zdq l (zbl l k i)%most:=w64 (by omega) (by omega);have w7:IntKind.i64.wrap (1+zdq l (zbl l k i)%most)=1+zdq l (zbl l k i)%most:=w64 (by omega) (by omega);simp only[r68_6,SS,fC,reduceCtorEq,reduceIte,qQ,e0,e2,e7,qY,ko,kl,kg];refine⟨⟨by omega,by omega⟩,by omega,?_⟩;refine zeq (id:=0) tB (qvq _ _ _ _) rfl ?_;have hP':=zsc l c (zbl l k (i+1));have hnk:zik l (zbl l k i)=zbl l k (i+1):=rfl;have gr:=zmr (N:=n) (n:=n) (rows:=(diaM l k n most).take i++[List.replicate n 0]) hP' (i:=i) (by omega)
  have grr:((diaM l k n most).take i++[List.replicate n 0]).getD i []=List.replicate n 0:=by
   rw[qC,xJ (by omega),htl,xK];simp
  rw[grr]at gr
  have eset:((diaM l k n most).take i++[List.replicate n 0]).set i ((List.replicate n 0).set i (1+zdq l (zbl l k i)%most))=(diaM l k n most).take (i+1):=by
   rw[qN _ _ (by omega),htl,xK,<-jat hi];rw[List.take_add_one,qC,xX (by omega)];rfl
  simp only[zay,zad,keys,qV,qA,SS,reduceIte,qQ,qvr,hnk,w7,gr,zbe,List.length_replicate,qY,zdu];refine⟨⟨by omega,by omega⟩,by omega,rfl,?_⟩;rw[zxt hP',eset];simp only[r68_7,SS,reduceIte,qQ,e13,w5];refine⟨q,_,_,by omega,⟨i+1,by omega,rfl,?_,?_,?_,?_,?_,?_⟩,.refl⟩
  all_goals simp only[UU,qQ,reduceIte, *]
 ·have hin:i=n:=by omega
  subst hin;have htl:(diaM l k i most).take i=diaM l k i most:=xY (by rw[hD.len];omega);rw[htl];simp only[r68_8,SS,reduceIte,qQ,e7];exact kR
theorem qnl{H:Heap}(σ:Nat->Nat)(s:Nat)(hσ:∀i,σ (s+i)=H.length+i):∀(L X:Heap),zad (effs σ (s+X.length) L) (H++(X++List.replicate L.length none))=H++(X++L.map (renB σ)):=by
 intro L
 induction L with
 |nil=>intro X;simp[effs,zad]
 |cons b L ih=>
  intro X;have e:H++(X++List.replicate (b::L).length none)=H++(X++(none::List.replicate L.length none)):=rfl;rw[e];simp only[effs,zad,hσ]
  have e2:(H++(X++(none::List.replicate L.length none))).set (H.length+X.length) (renB σ b)=H++((X++[renB σ b])++List.replicate L.length none):=by
   rw[qN _ _ (by omega),Nat.add_sub_cancel_left,qN _ _ (by omega),xK];simp
  rw[e2];have:=ih (X++[renB σ b]);rw[xE,List.length_singleton,<-yJ]at this;rw[this];simp
theorem zqi(r:List Int):qJ (i64z r)=true:=by
 induction r with
 |nil=>rfl
 |cons z r ih=>
  show((AV.int .i64 z).closed && qJ (i64z r))=true
  rw[ih];rfl
theorem jel{σ:Nat->Nat}{K N n:Nat}{rows:List (List Int)}(hσ:∀j,σ (1+j)=K+j):(bO 1 N n rows).map (renB σ)=bO K N n rows:=by
 unfold bO;rw[List.map_cons,List.map_map];congr 1
 ·show some ((outO 1 N n rows.length).map (AV.ren σ))=_
  congr 1;unfold outO;rw[List.map_append];congr 1
  ·unfold zjx;rw[List.map_map];refine yX λk _=>?_
   show AV.sl (σ (1+k+1)) 0 n 1 (some n)= .sl (K+k+1) 0 n 1 (some n)
   rw[show 1+k+1=1+(k+1) by omega,hσ];rfl
  ·rw[List.map_replicate];rfl
 ·refine yX λr _=>?_
  show some ((i64z r).map (AV.ren σ))=some (i64z r)
  rw[zaw _ _ (zqi r)]
theorem zli{H:Heap}{id n:Nat}{cs':List AV}{M:List (List Int)}(hid:id<H.length):zad ((id,some cs')::effs (zan [id] H.length) 1 (bO 1 n n M)) (H++List.replicate (bO 1 n n M).length none)=H.set id (some cs')++bO H.length n n M:=by
 have h1:∀j,zan [id] H.length (1+j)=H.length+j:=by
  intro j;rw[Nat.add_comm 1];exact qkv
 have:=qnl (H:=H.set id (some cs')) (zan [id] H.length) 1 (λj=>by rw[h1,yH]) (bO 1 n n M) [];simp only[zad];rw[List.set_append_left _ _ hid];simp only[xN,xM,List.nil_append]at this;rw[this,jel h1]
theorem jau{l:List Int}{k n i j:Nat}(hi:i<n)(hj:j<i):ent (genM l k n) i j=offZ l (zbl l k n) i j/\ent (genM l k n) j i=offZ l (zbl l k n) i j:=by
 unfold genM;rw[zco hi (by omega),zco (by omega) hi];have h1:¬i=j:=by omega
 have h2:¬j=i:=by omega
 have h3:¬i<j:=by omega
 rw[if_neg h1,if_pos hj,if_neg h2,if_neg h3];exact⟨rfl,rfl⟩
theorem qti{l:List Int}{k n i:Nat}(hi:i<n):ent (genM l k n) i i=ent (diaM l k n 6) i i:=by
 unfold genM diaM;rw[zco hi hi,zco hi hi,if_pos rfl,if_pos rfl]
theorem jav{l:List Int}{c:Option Nat}{k n i:Nat}(h:zle l)(hk:k<=l.length)(hn:1<=n/\n<=8)(hi:i<n){X0:List (List Int)}(hX0:Shp n X0)(hx0:∀s t,s<n->t<n->ent X0 s t=if s<i/\t<i then ent (genM l k n) s t else ent (diaM l k n 6) s t)
  {v12 v13:AV} {E:Env} {Q:Post} (e0:E 0= .ptr 0 0) (e5:E 5= .sl 1 0 n 1 (some n)) (e6:E 6= .int .i64 (i:Nat)) (e7:E 7= .int .i64 0) (e12:E 12=v12) (e13:E 13=v13)
  (hQ:∀E' X,Shp n X->(∀s t,s<n->t<n->ent X s t=if s<i+1/\t<i+1 then ent (genM l k n) s t else ent (diaM l k n 6) s t)->E' 0= .ptr 0 0->E' 5= .sl 1 0 n 1 (some n)->E' 12=v12->E' 13=v13->Q (.exit 2) E' (tP l c (zbl l k (n+triK (i+1)))++bO 1 n n X)):
  Wg 1 45 (.loop l65_1) E (tP l c (zbl l k (n+triK i))++bO 1 n n X0) Q:=by
 refine zaf (λq E H=>∃j X,j+q=i/\Shp n X/\(∀s t,s<n->t<n->ent X s t=if(s<i/\t<i)\/(s=i/\t<j)\/(t=i/\s<j)then ent (genM l k n) s t else ent (diaM l k n 6) s t)/\H=tP l c (zbl l k (n+triK i+j))++bO 1 n n X/\
  E 0= .ptr 0 0/\E 5= .sl 1 0 n 1 (some n)/\E 6= .int .i64 (i:Nat)/\E 7= .int .i64 (j:Nat)/\E 12=v12/\E 13=v13) (n:=i)
  ⟨0,X0,by omega,hX0,λs t hs ht=>by
   rw[hx0 s t hs ht];by_cases e:s<i/\t<i
   ·rw[if_pos e,if_pos (.inl e)]
   ·rw[if_neg e,if_neg (by omega)],rfl,e0,e5,e6,e7,e12,e13⟩ ?_
 clear e0 e5 e6 e7 e12 e13 E hX0 hx0 X0;rintro q E H ⟨j,X,hjq,hX,hx,rfl,e0,e5,e6,e7,e12,e13⟩;refine wM ?_;simp only[l65_1,r65_6,SS,reduceIte,qQ,e6,e7];refine⟨λhlt=>?_,λhge=>?_⟩
 ·obtain⟨q,rfl⟩:∃q',q=q'+1:=⟨q-1,by omega⟩
  have hj:j<i:=by omega
  have hXl:=hX.len;have w5:=wS1 j (by omega);have hK:=zhi hk (n+triK i+j);have tN:=jeh (c:=c) h hK;have hnk:zik l (zbl l k (n+triK i+j))=zbl l k (n+triK i+(j+1)):=rfl;rw[hnk]at tN;obtain⟨g1,g2⟩:=jau (l:=l) (k:=k) hi hj
  have hoff:Int.tmod (zij l (zbl l k (n+triK i+j))) 3=ent (genM l k n) i j:=by
   rw[g1];unfold offZ;rw[qng,yJ]
  have hr:=zut l (zbl l k n) i j
  have w6:IntKind.i64.wrap (Int.tmod (zij l (zbl l k (n+triK i+j))) 3)=ent (genM l k n) i j:=by
   rw[hoff,g1];exact w64 (by omega) (by omega)
  have hP:=zsc l c (zbl l k (n+triK i+j));have hP':=zsc l c (zbl l k (n+triK i+(j+1)));have ko:=zga (N:=n) (n:=n) (rows:=X) hP;have ko':=zga (N:=n) (n:=n) (rows:=setM X i j (ent (genM l k n) i j)) hP';rw[hXl]at ko;rw[zcu,hXl]at ko';have kl:=zlf (o:=1) (N:=n) (n:=n) (i:=n) (qD _);have kg:=zlg (o:=1) (N:=n) (n:=n) (i:=n) (k:=i) hi;have kg2:=zlg (o:=1) (N:=n) (n:=n) (i:=n) (k:=j) (by omega);have gr:=zmr (N:=n) (n:=n) (rows:=X) hP' (i:=i) (by omega);have hs1:=zxt (N:=n) (n:=n) (rows:=X) hP' (i:=i) ((X.getD i []).set j (ent (genM l k n) i j));have eM:X.set i ((X.getD i []).set j (ent (genM l k n) i j))=setM X i j (ent (genM l k n) i j):=rfl;rw[eM]at hs1;have hX1:Shp n (setM X i j (ent (genM l k n) i j)):=hX.set hi;have gr1:=zmr (N:=n) (n:=n) (rows:=setM X i j (ent (genM l k n) i j)) hP' (i:=i) (by rw[hX1.len];exact hi);have gr2:=zmr (N:=n) (n:=n) (rows:=setM X i j (ent (genM l k n) i j)) hP' (i:=j) (by rw[hX1.len];omega);have lX:=hX.row i hi;have l1:=hX1.row i hi;have l2:=hX1.row j (by omega)
  have gz:(i64z ((setM X i j (ent (genM l k n) i j)).getD i [])).getD j .junk= .int .i64 (ent (genM l k n) i j):=by
   rw[zcf _ j (by omega)];have:=hX.ent_set (z:=ent (genM l k n) i j) hi (show j<n by omega) i j;unfold ent at this ⊢;rw[this,if_pos ⟨rfl,rfl⟩]
  have hs2:=zxt (N:=n) (n:=n) (rows:=setM X i j (ent (genM l k n) i j)) hP' (i:=j) (((setM X i j (ent (genM l k n) i j)).getD j []).set i (ent (genM l k n) i j));have eM2:(setM X i j (ent (genM l k n) i j)).set j (((setM X i j (ent (genM l k n) i j)).getD j []).set i (ent (genM l k n) i j))=setM (setM X i j (ent (genM l k n) i j)) j i (ent (genM l k n) i j):=rfl;rw[eM2]at hs2;simp only[r65_7,SS,fC,reduceCtorEq,reduceIte,qQ,e0,e5,e6,e7,qY,ko,kl,kg];refine⟨⟨by omega,by omega⟩,by omega,?_⟩;refine zeq (id:=0) tN (qvq _ _ _ _) rfl ?_;simp only[zay,zad,keys,qV,qA,SS,reduceIte,qQ,qvr,hoff,gr,lX,zbe,qY,zdu];refine⟨by decide,⟨by omega,by omega⟩,by omega,rfl,?_⟩;rw[hs1];simp only[r65_8,SS,fC,reduceIte,qQ,e5,e6,e7,qY,ko',kl,kg,kg2,gr1,gr2,l1,l2,gz,zbe,zdu];refine⟨⟨by omega,by omega⟩,by omega,⟨by omega,by omega⟩,by omega,⟨by omega,by omega⟩,by omega,⟨by omega,by omega⟩,by omega,rfl,?_⟩;rw[hs2];simp only[r65_9,SS,reduceIte,qQ,e7,w5];refine⟨q,_,_,by omega,⟨j+1,setM (setM X i j (ent (genM l k n) i j)) j i (ent (genM l k n) i j),by omega,hX1.set (by omega),λs t hs ht=>?_,rfl,?_,?_,?_,?_,?_,?_⟩,.refl⟩
  ·rw[hX1.ent_set (by omega) hi,hX.ent_set hi (by omega),hx s t hs ht];by_cases a1:s=j/\t=i
   ·rw[if_pos a1,if_pos (.inr (.inr ⟨a1.2,by omega⟩)),a1.1,a1.2,g1,g2]
   ·rw[if_neg a1];by_cases a2:s=i/\t=j
    ·rw[if_pos a2,if_pos (.inr (.inl ⟨a2.1,by omega⟩)),a2.1,a2.2]
    ·rw[if_neg a2];by_cases a3:(s<i/\t<i)\/(s=i/\t<j)\/(t=i/\s<j)
     ·rw[if_pos a3,if_pos (by omega)]
     ·rw[if_neg a3,if_neg (by omega)]
  all_goals simp only[UU,qQ,reduceIte, *]
 ·have hji:j=i:=by omega
  subst hji;have htri:n+triK (j+1)=n+triK j+j:=by show n+(triK j+j)=_;omega
  rw[<-htri];refine hQ _ X hX (λs t hs ht=>?_) (by simp only[UU,qQ,e0]) (by simp only[UU,qQ,e5]) (by simp only[UU,qQ,e12]) (by simp only[UU,qQ,e13]);rw[hx s t hs ht];by_cases e:s=j/\t=j
  ·rw[e.1,e.2,if_neg (by omega),if_pos (by omega),qti hi]
  ·by_cases e2:s<j+1/\t<j+1
   ·rw[if_pos e2,if_pos (by omega)]
   ·rw[if_neg e2,if_neg (by omega)]
theorem qtj{l:List Int}{c:Option Nat}{k n:Nat}(h:zle l)(hk:k<=l.length)(hn:1<=n/\n<=8):
  Rt 65 [.ptr 0 0,.int .i64 (n:Nat)] [some (zdn l c k)] (.sl 1 0 n 1 (some n)) (tP l c (zbl l k (n+triK n))++bO 1 n n (genM l k n)):=by
 have hG:Shp n (genM l k n):=zct _ _;have tD:=zlh (c:=c) (most:=6) h hk hn (by omega);have hlen:(bO 1 n n (diaM l k n 6)).length=n+1:=by simp[bO,(zqh l k n 6).len]
 have heff:=zli (H:=[some (zdn l c k)]) (id:=0) (n:=n) (cs':=zdn l c (zbl l k n)) (M:=diaM l k n 6) (Nat.zero_lt_one);refine oF o65 ?_ (by simp) (by simp only[xE,zsc,yC,xN];omega);simp only[c65,r65_0,r65_1,SS,reduceCtorEq,reduceIte,qQ];refine zgk (id:=0) (cs:=zdn l c k) (cs':=zdn l c (zbl l k n)) (L:=bO 1 n n (diaM l k n 6)) tD rfl rfl rfl rfl rfl ?_;have hv:(AV.sl 1 0 n 1 (some n)).ren (zan [0] [some (zdn l c k)].length)= .sl 1 0 n 1 (some n):=rfl;rw[hv];simp only[zay];rw[heff];have e1:([some (zdn l c k)].set 0 (some (zdn l c (zbl l k n)))++bO [some (zdn l c k)].length n n (diaM l k n 6):Heap)=tP l c (zbl l k n)++bO 1 n n (diaM l k n 6):=rfl;rw[e1];simp only[SS,reduceIte,qQ];simp only[r65_2,SS,reduceIte,qQ]
 refine zaf (λq E H=>∃i X,i+q=n/\Shp n X/\(∀s t,s<n->t<n->ent X s t=if s<i/\t<i then ent (genM l k n) s t else ent (diaM l k n 6) s t)/\H=tP l c (zbl l k (n+triK i))++bO 1 n n X/\E 0= .ptr 0 0/\E 5= .sl 1 0 n 1 (some n)/\E 12= .int .i64 (n:Nat)/\E 13= .int .i64 (i:Nat)) (n:=n)
  ⟨0,diaM l k n 6,by omega,zqh _ _ _ _,λs t _ _=>by rw[if_neg (by omega)],rfl,by simp only[UU,qQ],by simp only[UU,qQ,reduceIte],by simp only[UU,qQ,reduceIte],by simp only[UU,qQ,reduceIte];rfl⟩ ?_
 rintro q E H ⟨i,X,hiq,hX,hx,rfl,e0,e5,e12,e13⟩;refine wM ?_;simp only[l65_0,r65_3,SS,reduceCtorEq,reduceIte,e12,e13];refine⟨λhlt=>?_,λhge=>?_⟩
 ·obtain⟨q,rfl⟩:∃q',q=q'+1:=⟨q-1,by omega⟩
  have hi:i<n:=by omega
  have w5:=wS1 i (by omega);simp only[r65_4,r65_5,SS,reduceIte,qQ,e13];refine jav (c:=c) h hk hn hi hX hx (by simp only[UU,qQ,e0]) (by simp only[UU,qQ,e5]) (by simp only[UU,qQ,reduceIte]) (by simp only[UU,qQ,reduceIte]) (by simp only[UU,qQ];exact e12) (by simp only[UU,qQ];exact e13) ?_;intro E' X' hX' hx' f0 f5 f12 f13;simp only[SS,reduceCtorEq,reduceIte,qQ,r65_10,f13,w5];refine⟨q,_,_,by omega,⟨i+1,X',by omega,hX',hx',rfl,?_,?_,?_,?_⟩,.refl⟩
  all_goals simp only[UU,qQ,reduceIte, *]
 ·have hin:i=n:=by omega
  subst hin;have e:X=genM l k i:=zub hX hG λs t hs ht=>by rw[hx s t hs ht,if_pos ⟨hs,ht⟩]
  subst e;simp only[r65_11,SS,reduceIte,qQ,e5];exact kR
theorem zja(N n:Nat):∃H1 ps,zad (effs (zan [] 0) 0 (zH N n N)) (List.replicate (zH N n N).length none)=H1/\MatH H1 0 ps n (zmat N n):=
 ⟨_,_,zgz (H:=[]) (zan [] 0) (λi=>zcb 0 i) (zH N n N) [],zrm [] N n⟩
theorem qnm{n:Nat}(hn:1<=n/\n<=16){I:List (List Int)}(h1:I.length=n)(h2:∀i,i<n->(I.getD i []).length=n)(h3:∀i j,i<n->j<n->ent I i j=if i=j then 1 else 0):
  Rt 59 [.int .i64 (n:Nat)] [] (.tup [matC I,.bool true]) []:=by
 refine oFw o59 ?_;simp only[c59,r59_0,r59_1,SS,fC,reduceCtorEq,reduceIte,qQ];refine⟨λ_=>⟨λh=>absurd h (by omega),λ_=>?_⟩,λh=>absurd h (by omega)⟩;simp only[r59_3,SS,reduceCtorEq,reduceIte,qQ];refine zdz (qks hn.2 hn.2) rfl ?_;obtain⟨H1,ps,hH1,hz⟩:=zja n n;simp only[zay,SS,reduceIte,qQ,AV.ren,zcb,xM,hH1];simp only[r59_4,SS,reduceIte,qQ];refine zaf (λk E H=>∃i X,i+k=n/\MatH H 0 ps n X/\X.length=n/\(∀s t,ent X s t=if s<i/\s=t then 1 else 0)/\E 4= .sl 0 0 n 1 (some n)/\E 16= .int .i64 (n:Nat)/\E 17= .int .i64 (i:Nat)) (n:=n) ⟨0,zmat n n,by omega,hz,(ziy _ _).1,λs t=>by rw[if_neg (by omega),zko],by simp only[UU,qQ,reduceIte],by simp only[UU,qQ,reduceIte],by simp only[UU,qQ,reduceIte];rfl⟩ ?_;rintro k E H ⟨i,X,hik,hM,hXl,hX,e4,e16,e17⟩;refine wM ?_;simp only[l59_0,r59_5,SS,reduceCtorEq,reduceIte,e16,e17];refine⟨λhlt=>?_,λhge=>?_⟩
 ·obtain⟨k,rfl⟩:∃k',k=k'+1:=⟨k-1,by omega⟩
  have hi:i<n:=by omega
  obtain⟨csk,gk,lk,rk,fk⟩:=zdw hM (i:=i) (by omega);have ok:=zbv (ps:=ps) (n:=n) (i:=i) (by rw[hM.len];omega);have hol:(ps.map (zck n)).length=n:=by rw[xO,hM.len];exact hXl
  have hou:=hM.outer;obtain⟨v,hv,ts⟩:=zfb 1 (by omega) (by omega);have hv0:=hv;obtain⟨lv,cv,_,_,_,rfl⟩:=hv0;have hset:=zhz hM (i:=i) (j:=i) (by omega) hi hv gk;have w5:=wS1 i (by omega);simp only[r59_6,r59_7,SS,fC,reduceIte,qQ,e4,e17,qY,hou,hol,ok];refine⟨⟨by omega,by omega⟩,by omega,?_⟩;refine zaa ts ?_;simp only[SS,reduceIte,qZ,qQ,gk,lk,qY];refine⟨⟨by omega,by omega⟩,by omega,rfl,?_⟩;simp only[r59_8,SS,reduceIte,qQ,e17,w5];refine⟨k,_,_,by omega,⟨i+1,setM X i i 1,by omega,hset,by rw[zcu];exact hXl,?_,?_,?_,?_⟩,.refl⟩
  ·intro s t;rw[zhb (by omega) (by rw[hM.cols i (by omega)];exact hi),hX];by_cases h1:s=i/\t=i
   ·rw[if_pos h1,if_pos ⟨by omega,by omega⟩]
   ·rw[if_neg h1];by_cases h2:s<i/\s=t
    ·rw[if_pos h2,if_pos ⟨by omega,h2.2⟩]
    ·rw[if_neg h2,if_neg (by omega)]
  all_goals simp only[UU,qQ,reduceIte, *]
 ·have hin:i=n:=by omega
  subst hin
  have e:X=I:=by
   refine ztr hXl h1 (λs hs=>hM.cols s (by omega)) h2 λs t hs ht=>?_
   rw[hX,h3 s t hs ht];by_cases h:s=t
   ·rw[if_pos ⟨hs,h⟩,if_pos h]
   ·rw[if_neg (λe=>h e.2),if_neg h]
  subst e;simp only[r59_9,SS,reduceIte,qQ,e4];obtain⟨v,g1,g2⟩:=zix (cap:=some i) (b:=true) hM;rw[hXl]at g1;exact⟨.inl trivial,_,v,rfl,g1,g2⟩
theorem jem{M:List (List Int)}{rows:List AV}{c cap:Option Nat}{n:Nat}(hn:n<=16)(hN:M.length<=16)(hl:rows.length=M.length)(hr:∀i,i<M.length->zfu (M.getD i []) (rows.getD i .junk))(hc:∀i,i<M.length->(M.getD i []).length=n)
  {i:Nat} (hi:i<M.length) {v22 v23:AV} {Q:Post} {ps:List (Nat×Option Nat)} {X0:List (List Int)} (hX0:X0.length=n)
  {E:Env} {H:Heap} (hM:MatH H 0 ps M.length X0) (e0:E 0= .vec rows M.length c) (e7:E 7= .sl 0 0 n 1 cap) (e8:E 8= .int .i64 (i:Nat)) (e22:E 22=v22) (e23:E 23=v23) (e30:E 30= .int .i64 (n:Nat)) (e31:E 31= .int .i64 0)
  (hQ:∀E' H' X,MatH H' 0 ps M.length X->X.length=n->(∀s t,ent X s t=if t=i/\s<n then ent M t s else ent X0 s t)->E' 0= .vec rows M.length c->E' 7= .sl 0 0 n 1 cap->E' 22=v22->E' 23=v23->Q (.exit 2) E' H'):
  Wg 0 51 (.loop l133_1) E H Q:=by
 refine zaf (λk E H=>∃j X,j+k=n/\MatH H 0 ps M.length X/\X.length=n/\(∀s t,ent X s t=if t=i/\s<j then ent M t s else ent X0 s t)/\E 0= .vec rows M.length c/\E 7= .sl 0 0 n 1 cap/\E 8= .int .i64 (i:Nat)/\E 22=v22/\E 23=v23/\
  E 30= .int .i64 (n:Nat)/\E 31= .int .i64 (j:Nat)) (n:=n) ⟨0,X0,by omega,hM,hX0,λs t=>by rw[if_neg (by omega)],e0,e7,e8,e22,e23,e30,e31⟩ ?_
 clear hM e0 e7 e8 e22 e23 e30 e31 E H;rintro k E H ⟨j,X,hjk,hM,hXl,hX,e0,e7,e8,e22,e23,e30,e31⟩;refine wM ?_;simp only[l133_1,r133_9,SS,reduceIte,e30,e31];refine⟨λhlt=>?_,λhge=>?_⟩
 ·obtain⟨k,rfl⟩:∃k',k=k'+1:=⟨k-1,by omega⟩
  have hj:j<n:=by omega
  obtain⟨csk,gk,lk,rk,fk⟩:=zdw hM (i:=j) (by omega);have ok:=zbv (ps:=ps) (n:=M.length) (i:=j) (by rw[hM.len];omega);have hol:(ps.map (zck M.length)).length=n:=by rw[xO,hM.len];exact hXl
  have hou:=hM.outer;obtain⟨csi,ci,hei,hci⟩:=hr i hi;have hcl:=zcp hci;obtain⟨u,v,hu,hz⟩:=zev hci j (by rw[hc i hi];exact hj);obtain⟨w,hw,ts⟩:=zlw hz;obtain⟨lz,cz,hz1,hz2⟩:=zam hz;subst hz1 hz2;have hw0:=hw;obtain⟨lv,cv,_,_,_,rfl⟩:=hw0;have hset:=zhz hM (i:=j) (j:=i) (by omega) hi hw gk;have w5:=wS1 j (by omega);simp only[r133_10,r133_11,SS,fC,reduceCtorEq,reduceIte,qQ,e0,e7,e8,e31,qY,hou,hol,ok,hl,hei,hcl,hc i hi,hu];refine⟨⟨by omega,by omega⟩,by omega,⟨by omega,by omega⟩,by omega,⟨by omega,by omega⟩,by omega,?_⟩;refine zaa ts ?_;simp only[SS,reduceIte,qZ,qQ,gk,lk,qY];refine⟨⟨by omega,by omega⟩,by omega,rfl,?_⟩;simp only[r133_12,SS,reduceIte,qQ,e31,w5];refine⟨k,_,_,by omega,⟨j+1,setM X j i (ent M i j),by omega,hset,by rw[zcu];exact hXl,?_,?_,?_,?_,?_,?_,?_,?_⟩,.refl⟩
  ·intro s t;rw[zhb (by omega) (by rw[hM.cols j (by omega)];exact hi),hX];by_cases h1:s=j/\t=i
   ·rw[if_pos h1,if_pos ⟨h1.2,by omega⟩,h1.1,h1.2]
   ·rw[if_neg h1];by_cases h2:t=i/\s<j
    ·rw[if_pos h2,if_pos ⟨h2.1,by omega⟩]
    ·rw[if_neg h2,if_neg (by omega)]
  all_goals simp only[UU,qQ,reduceIte, *]
 ·have hjn:j=n:=by omega
  subst hjn;exact hQ _ _ X hM hXl hX (by simp only[UU,qQ,e0]) (by simp only[UU,qQ,e7]) (by simp only[UU,qQ,e22]) (by simp only[UU,qQ,e23])
theorem zsd{M:List (List Int)}{a:AV}{n:Nat}(h:MatV M a)(hn:1<=n/\n<=16)(hN:1<=M.length/\M.length<=16)(hc:∀i,i<M.length->(M.getD i []).length=n)
  {T:List (List Int)} (h1:T.length=n) (h2:∀i,i<n->(T.getD i []).length=M.length) (h3:∀i j,i<n->j<M.length->ent T i j=ent M j i):
  Rt 133 [a] [] (.tup [matC T,.bool true]) []:=by
 have ts:=zwe h ⟨hN.1,hN.2,λi hi=>by rw[hc i hi,hc 0 (by omega)];exact⟨hn.1,hn.2,rfl⟩⟩;rw[hc 0 (by omega)]at ts;obtain⟨rows,c,rfl,hl,hr⟩:=h;refine oFw o133 ?_;simp only[c133,r133_0,r133_1,SS,reduceCtorEq,reduceIte];refine zaa ts ?_;simp only[SS,fC,reduceIte,qQ,r133_2,r133_4,qW,qK];refine zdz (qks hn.2 hN.2) rfl ?_;obtain⟨H1,ps,hH1,hz⟩:=zja n M.length;simp only[zay,SS,reduceIte,qQ,AV.ren,zcb,xM,hH1];simp only[r133_5,SS,reduceCtorEq,reduceIte,qQ];refine zaf (λk E H=>∃i X,i+k=M.length/\MatH H 0 ps M.length X/\X.length=n/\(∀s t,ent X s t=if t<i/\s<n then ent M t s else 0)/\E 0= .vec rows M.length c/\E 7= .sl 0 0 n 1 (some n)/\E 22= .int .i64 (M.length:Nat)/\E 23= .int .i64 (i:Nat)) (n:=M.length) ⟨0,zmat n M.length,by omega,hz,(ziy _ _).1,λs t=>by rw[if_neg (by omega),zko],by simp only[UU,qQ],by simp only[UU,qQ,reduceIte],by simp only[UU,qQ,reduceIte],by simp only[UU,qQ,reduceIte];rfl⟩ ?_;rintro k E H ⟨i,X,hik,hM,hXl,hX,e0,e7,e22,e23⟩;refine wM ?_;simp only[l133_0,r133_6,SS,reduceCtorEq,reduceIte,e22,e23];refine⟨λhlt=>?_,λhge=>?_⟩
 ·obtain⟨k,rfl⟩:∃k',k=k'+1:=⟨k-1,by omega⟩
  have hi:i<M.length:=by omega
  obtain⟨csi,ci,hei,hci⟩:=hr i hi;have hcl:=zcp hci;have w5:=wS1 i (by omega);simp only[r133_7,r133_8,SS,fC,reduceCtorEq,reduceIte,qQ,e0,e23,qY,hei,hl,hc i hi];refine⟨⟨by omega,by omega⟩,by omega,?_⟩;refine jem (c:=c) (cap:=some n) hn.2 hN.2 hl hr hc hi hXl hM (by simp only[UU,qQ,e0]) (by simp only[UU,qQ,e7]) (by simp only[UU,qQ,reduceIte]) (by simp only[UU,qQ];exact e22) (by simp only[UU,qQ];exact e23) (by simp only[UU,qQ,reduceIte]) (by simp only[UU,qQ,reduceIte]) ?_;intro E' H' X' hM' hXl' hX' f0 f7 f22 f23;simp only[SS,reduceCtorEq,reduceIte,qQ,r133_13,f23,w5];refine⟨k,_,_,by omega,⟨i+1,X',by omega,hM',hXl',?_,?_,?_,?_,?_⟩,.refl⟩
  ·intro s t;rw[hX',hX];by_cases h1:t=i/\s<n
   ·rw[if_pos h1,if_pos ⟨by omega,h1.2⟩]
   ·rw[if_neg h1];by_cases h2:t<i/\s<n
    ·rw[if_pos h2,if_pos ⟨by omega,h2.2⟩]
    ·rw[if_neg h2,if_neg (by omega)]
  all_goals simp only[UU,qQ,reduceIte, *]
 ·have hin:i=M.length:=by omega
  subst hin
  have e:X=T:=by
   refine ztr hXl h1 (λs hs=>hM.cols s (by omega)) h2 λs t hs ht=>?_
   rw[hX,h3 s t hs ht,if_pos ⟨ht,hs⟩]
  subst e;simp only[r133_14,SS,reduceIte,qQ,e7];obtain⟨v,g1,g2⟩:=zix (cap:=some n) (b:=true) hM;rw[hXl]at g1;exact⟨.inl trivial,_,v,rfl,g1,g2⟩
def dotS(r s:List Int):Nat->Int
 |0=>0
 |k+1=>dotS r s k+r.getD k 0*s.getD k 0
theorem mDot{r s:List Int}{a b:AV}(ha:zfu r a)(hb:zfu s b)(hl:s.length=r.length)(h16:r.length<=16)(hB:∀i,i<r.length->(r.getD i 0*s.getD i 0).natAbs<BIG)(hS:∀k,k<=r.length->(dotS r s k).natAbs<BIG):
  Rt 191 [a,b] [] (intV (dotS r s r.length)) []:=by
 obtain⟨ra,ca,rfl,hra⟩:=ha;obtain⟨sb,cb,rfl,hsb⟩:=hb;have la:=zcp hra;have lb:=zcp hsb;refine oFw o191 ?_;simp only[c191,r191_0,r191_1,r191_2,SS,reduceCtorEq,reduceIte,qZ,qQ,qX]
 refine zaf (λm E H=>∃k u v,k+m=r.length/\H=[some [AV.bool false,AV.vec [] 0 (some 0)],some [u,v]]/\zag (dotS r s k) (.agg [u,v])/\E 0= .vec ra r.length ca/\E 1= .vec sb s.length cb/\E 4= .ptr 0 0/\E 5= .ptr 1 0/\E 9= .int .i64 (r.length:Nat)/\E 10= .int .i64 (k:Nat)) (n:=r.length)
  ⟨0,_,_,by omega,rfl,zrk,by simp only[UU,qQ],by simp only[UU,qQ],by simp only[UU,qQ,reduceIte],by simp only[UU,qQ,reduceIte],by simp only[UU,qQ,reduceIte],by simp only[UU,qQ,reduceIte];rfl⟩ ?_
 rintro m E H ⟨k,u,v,hkm,rfl,hz,e0,e1,e4,e5,e9,e10⟩;refine wM ?_;obtain⟨lz,cz,hz1,hz2⟩:=zam hz;subst hz1 hz2;simp only[l191_0,r191_3,SS,reduceCtorEq,reduceIte,e9,e10];refine⟨λhlt=>?_,λhge=>?_⟩
 ·obtain⟨m,rfl⟩:∃m',m=m'+1:=⟨m-1,by omega⟩
  have hk:k<r.length:=by omega
  obtain⟨u1,v1,g1,hz1⟩:=zev hra k hk;obtain⟨u2,v2,g2,hz2⟩:=zev hsb k (by omega);obtain⟨p,hp,t1⟩:=zMul hz1 hz2 (hB k hk);obtain⟨q,hq,t2⟩:=zAdd hz hp (hS (k+1) hk);obtain⟨l1,c1,x1,y1⟩:=zam hz1;obtain⟨l2,c2,x2,y2⟩:=zam hz2;subst x1 y1 x2 y2;obtain⟨lp,cp,_,_,_,rfl⟩:=id hp;obtain⟨lq,cq,_,_,_,rfl⟩:=id hq;have w5:=wS1 k (by omega);simp only[r191_4,r191_5,SS,reduceCtorEq,reduceIte,qZ,qQ,qX,e0,e1,e5,e10,qY,g1,g2,la,lb,hl];refine⟨⟨by omega,by omega⟩,by omega,⟨by omega,by omega⟩,by omega,?_⟩;refine zaa t1 ?_;simp only[SS,reduceIte,qQ];refine zaa t2 ?_;simp only[SS,reduceIte,qZ,qQ,qX,e5];refine⟨rfl,?_⟩;simp only[r191_6,SS,reduceIte,qQ,e10,w5];refine⟨m,_,_,by omega,⟨k+1,_,_,by omega,rfl,hq,?_,?_,?_,?_,?_,?_⟩,.refl⟩
  all_goals first | (simp only[UU,qQ,reduceIte, *];done) | (simp only[UU,qQ,reduceIte, *];rw[hl])
 ·have hkr:k=r.length:=by omega
  subst hkr;simp only[r191_7,SS,reduceIte,qZ,qQ,qX,e4,e5];exact⟨.inl trivial,_,_,zeu (id:=0) (by simp only[UU,qQ,e4]) rfl,.drop _ _ rfl (by intro i cs h;omega),hz.wk⟩
end Go.Proofs.YtpflahgcdgdkjaaGreatDoor
namespace Go.Proofs.YtpflahgcdgdkjaaGreatDoor
open Nat renaming reduceEqDiff -> qQ, reduceAdd -> qZ, le_refl -> qD, pow_le_pow_right -> qG, lt_or_ge -> qO, eq_zero_or_pos -> xV, mul_assoc -> xU, mul_le_mul_right -> xA, add_zero -> xM, add_assoc -> yJ
open Go.AL.AV.closed renaming closedL -> qJ
open List renaming getElem?_cons_succ -> qK, getElem?_cons_zero -> qW, length_map -> xO
open Int renaming toNat_natCast -> qY, one_mul -> qM, mul_le_mul_of_nonneg_left -> qS, mul_le_mul_of_nonneg_right -> xZ, le_refl -> xB, pow_succ -> yU
open Bool renaming and_self -> qE
open Go Go.AL Go.Det
theorem qds{a:Nat->Row}{n:Nat}(h0:∀i j,i≠j->a i j=0)(h1:∀i,i<n->0<a i i):∀k,k<=n->(∀t,t<=k->0<lead a t)/\∀i j,k<=i->k<=j->stg a k i j=lead a k*a i j:=by
 intro k
 induction k with
 |zero=>
  intro _;refine⟨λt ht=>?_,λi j _ _=>by rw[zdk,zbh,qM]⟩;obtain rfl:t=0:=by omega
  rw[zbh];decide
 |succ k ih=>
  intro hk;obtain⟨p,q⟩:=ih (by omega);have e:lead a (k+1)=lead a k*a k k:=by rw[zba,q k k (qD _) (qD _)]
  have pk:=p k (qD _);have pk1:0<lead a (k+1):=by rw[e];exact Int.mul_pos pk (h1 k (by omega))
  refine⟨λt ht=>?_,λi j hi hj=>?_⟩
  ·rcases(by omega:t<=k\/t=k+1)with h | h
   ·exact p t h
   ·rw[h];exact pk1
  ·have r:=zbz (a:=a) (k:=k) (λt ht=>by have:=p t ht;omega) i j;rw[q i j (by omega) (by omega),q i k (by omega) (qD _),q k j (qD _) (by omega),h0 i k (by omega),Int.mul_zero,Int.zero_mul,Int.sub_zero]at r;have e2:lead a (k+1)*(lead a k*a i j)=lead a k*(lead a (k+1)*a i j):=Int.mul_left_comm _ _ _;rw[e2]at r;exact Int.eq_of_mul_eq_mul_left (by omega) r
theorem qnn{a:Nat->Row}{n:Nat}{c:Int}(h0:∀i j,i≠j->a i j=0)(h1:∀i,i<n->0<a i i)(h2:∀i,i<n->a i i<=c)(hc:0<=c):∀k,k<=n->lead a k<=c^k:=by
 intro k
 induction k with
 |zero=>intro _;rw[zbh,Int.pow_zero];exact xB _
 |succ k ih=>
  intro hk;obtain⟨p,q⟩:=qds h0 h1 k (by omega);rw[zba,q k k (qD _) (qD _),yU];exact Int.mul_le_mul (ih (by omega)) (h2 k (by omega)) (by have:=h1 k (by omega);omega) (Int.pow_nonneg hc)
theorem qtk{a:Nat->Row}{n:Nat}(hs:∀i j,i<n->j<n->a i j=a j i)(hp:∀k,k<=n->0<lead a k):∃D,Pos n D a:=by
 have:∀m,m<=n->∃D,∀k,k<=m->lead a k<=D:=by
  intro m
  induction m with
  |zero=>intro _;exact⟨lead a 0,λk hk=>by
    have e:k=0:=by omega
    rw[e];exact xB _⟩
  |succ m ih=>
   intro hm;obtain⟨D,h⟩:=ih (by omega);refine⟨max D (lead a (m+1)),λk hk=>?_⟩;rcases(by omega:k<=m\/k=m+1)with h1 | h1
   ·have:=h k h1;omega
   ·rw[h1];omega
 obtain⟨D,h⟩:=this n (qD _);exact⟨D,hs,hp,h⟩
theorem qtl{a:Nat->Row}{n:Nat}{c:Int}(hs:∀i j,i<n->j<n->a i j=a j i)(hp:∀k,k<=n->0<lead a k)(hd:∀s,s<n->a s s<=c)(hc:1<=c):Pos n (c^n) a:=by
 obtain⟨D,h⟩:=qtk hs hp
 have key:∀k,k<=n->lead a k<=c^k:=by
  intro k
  induction k with
  |zero=>intro _;rw[zbh,Int.pow_zero];exact xB _
  |succ k ih=>
   intro hk;have d:=h.down (s:=k) (by omega) k (qD _);rw[<-zba]at d;have p:=hp k (by omega);have m1:lead a k*a k k<=lead a k*c:=qS (hd k (by omega)) (by omega);have m2:lead a k*c<=c^k*c:=xZ (ih (by omega)) (by omega);rw[yU];omega
 refine⟨hs,hp,λk hk=>Int.le_trans (key k hk) ?_⟩;obtain⟨m,rfl⟩:∃m,n=k+m:=⟨n-k,by omega⟩
 clear key h hs hp hd hk D
 induction m with
 |zero=>exact xB _
 |succ m ih=>
  rw[<-yJ,yU];have:0<=c^(k+m):=Int.pow_nonneg (by omega);have:=qS hc this;omega
def zjd(n:Nat)(M:List (List Int)):Prop:=(∀k,k<n+1->0<lead (rowF M) k)/\lead (rowF M) n<=10000
instance (n:Nat)(M:List (List Int)):Decidable (zjd n M):=inferInstanceAs (Decidable (_/\_))
def qas(l:List Int)(kind n:Nat):List (List Int):=if zjd n (rawM l kind n)then rawM l kind n else diaM l (rawK l kind n) n 2
theorem qtm{l:List Int}{k n:Nat}(h8:n<=8):zjd n (diaM l k n 2):=by
 have h0:∀i j,i≠j->rowF (diaM l k n 2) i j=0:=by
  intro i j hij
  show ent (diaM l k n 2) i j=0
  by_cases h:i<n/\j<n
  ·rw[qni h.1 h.2,if_neg hij]
  ·exact(zld (l:=l) (k:=k) (n:=n) (most:=2) (by decide) (by decide)).shp.out (by omega)
 have hd:∀i,i<n->0<rowF (diaM l k n 2) i i/\rowF (diaM l k n 2) i i<=2:=by
  intro i hi
  show 0<ent (diaM l k n 2) i i/\ent (diaM l k n 2) i i<=2
  rw[qni hi hi,if_pos rfl];have:=zfz l (zbl l k i) (show(1:Int)<=2 by decide);omega
 refine⟨λt ht=>(qds h0 (λi hi=>(hd i hi).1) n (qD _)).1 t (by omega),?_⟩;have:=qnn h0 (λi hi=>(hd i hi).1) (λi hi=>(hd i hi).2) (by decide) n (qD _)
 have h2:(2:Int)^n<=2^8:=by
  have:=qG (n:=2) (by decide) h8
  exact_mod_cast this
 have e8:(2:Int)^8=256:=by decide
 omega
theorem jaw{l:List Int}{kind n:Nat}(hn:1<=n)(h8:n<=8):SmallG n (qas l kind n)/\zjd n (qas l kind n):=by
 unfold qas;split
 ·rename_i h;exact⟨zxr hn,h⟩
 ·exact⟨zld (by decide) (by decide),qtm h8⟩
theorem qdt{n:Nat}{M:List (List Int)}(h:SmallG n M)(hg:zjd n M):Pos n (16^n) (rowF M):=
 qtl h.sym (λk hk=>hg.1 k (by omega)) (λs _=>(h.bnd s s).2) (by decide)
instance (a:Nat->Row)(i j:Nat):Decidable (SZ a i j):=inferInstanceAs (Decidable (_/\_))
instance (a:Nat->Row)(i:Nat):Decidable (LV a i):=inferInstanceAs (Decidable (_<=_))
theorem qtn{n:Nat}{a:Nat->Row}{i j i' j':Nat}(h:CurA n a i j)(h':CurA n a i' j'):i=i'/\j=j':=by
 have e:i=i':=by
  rcases qO i i' with h1 | h1
  ·exact absurd ((h'.pre i h1).1 j h.hj) h.no
  ·rcases qO i' i with h2 | h2
   ·exact absurd ((h.pre i' h2).1 j' h'.hj) h'.no
   ·omega
 subst e;refine⟨rfl,?_⟩;rcases qO j j' with h1 | h1
 ·exact absurd (h.up j' h1 h'.hj) h'.no
 ·rcases qO j' j with h2 | h2
  ·exact absurd (h'.up j h2 h.hj) h.no
  ·omega
theorem qto{n:Nat}{a:Nat->Row}{i i':Nat}(h:CurS n a i)(h':CurS n a i'):i=i':=by
 rcases qO i i' with h1 | h1
 ·exact absurd ((h'.pre i h1).2 h.h0) h.no
 ·rcases qO i' i with h2 | h2
  ·exact absurd ((h.pre i' h2).2 h'.h0) h'.no
  ·omega
theorem qvs{n:Nat}{a:Nat->Row}{i j i':Nat}(h:CurA n a i j)(h':CurS n a i'):False:=by
 rcases qO i i' with h1 | h1
 ·exact h.no ((h'.pre i h1).1 j h.hj)
 ·rcases qO i' i with h2 | h2
  ·exact h'.no ((h.pre i' h2).2 h'.h0)
  ·have e:i=i':=by omega
   subst e;exact h.no (h'.up j h.hj)
theorem qno{n:Nat}(a:Nat->Row):(∃i j,CurA n a i j)\/(∃i,CurS n a i)\/∀i,i<n->OKr a i:=by
 have key:∀m,m<=n->(∃i j,CurA n a i j)\/(∃i,CurS n a i)\/∀i,i<m->OKr a i:=by
  intro m
  induction m with
  |zero=>intro _;exact .inr (.inr λi h=>absurd h (by omega))
  |succ m ih=>
   intro hm;rcases ih (by omega)with h | h | h
   ·exact .inl h
   ·exact .inr (.inl h)
   ·have inner:∀c j,j+c=m->(∀l,j<=l->l<m->SZ a m l)->(∃j,CurA n a m j)\/∀l,l<m->SZ a m l:=by
     intro c
     suffices H:∀j,j<=m->(∀l,j<=l->l<m->SZ a m l)->(∃j,CurA n a m j)\/∀l,l<m->SZ a m l by
      intro j hj hl;exact H j (by omega) hl
     intro j
     induction j with
     |zero=>intro _ hl;exact .inr λl hlm=>hl l (Nat.zero_le _) hlm
     |succ j ihj=>
      intro hj hl;by_cases hz:SZ a m j
      ·refine ihj (by omega) λl h1 h2=>?_
       rcases(by omega:l=j\/j+1<=l)with e | e
       ·rw[e];exact hz
       ·exact hl l e h2
      ·exact .inl ⟨j,by omega,by omega,h,λl h1 h2=>hl l (by omega) h2,hz⟩
    rcases inner 0 m rfl (λl h1 h2=>absurd h2 (by omega))with⟨j,hj⟩ | hz
    ·exact .inl ⟨m,j,hj⟩
    ·by_cases h0:0<m
     ·by_cases hl:LV a m
      ·refine .inr (.inr λi hi=>?_);rcases(by omega:i<m\/i=m)with e | e
       ·exact h i e
       ·subst e;exact⟨hz,λ_=>hl⟩
      ·exact .inr (.inl ⟨m,by omega,h0,h,hz,hl⟩)
     ·refine .inr (.inr λi hi=>?_);have e:i=m:=by omega
      subst e;exact⟨hz,λh=>absurd h h0⟩
 exact key n (qD _)
def zil(n:Nat)(M:List (List Int))(i j:Nat):List (List Int):=addU n i j (-(zgo (stg (rowF M) j i j) (lead (rowF M) (j+1))))
def zlj(n i:Nat):List (List Int):=zdm (idM n) i (i-1)
inductive Ends(n:Nat)(M' T':List (List Int)):Nat->List (List Int)->List (List Int)->Prop
 |done {k:Nat}:(∀i,i<n->OKr (rowF M') i)->Ends n M' T' k M' T'
 |add {k i j:Nat} {M T:List (List Int)}:CurA n (rowF M) i j->Ends n M' T' k (cgM n M (zil n M i j)) (mulM n T (zil n M i j))->Ends n M' T' (k+1) M T
 |sw {k i:Nat} {M T:List (List Int)}:CurS n (rowF M) i->Ends n M' T' k (cgM n M (zlj n i)) (mulM n T (zlj n i))->Ends n M' T' (k+1) M T
theorem qnp{n:Nat}{D K:Int}{M0:List (List Int)}(h8:n<=8)(hK:1<=K)(hKD:8*D<=K):∀(m:Nat) (M T:List (List Int)),LState n D K M0 M T->MuOK n (rowF M) m->∃k M' T',Ends n M' T' k M T/\LState n D K M0 M' T':=by
 intro m
 induction m using Nat.strongRecOn with
 |_ m ih=>
  intro M T hL hm;rcases qno (n:=n) (rowF M)with⟨i,j,hc⟩ | ⟨i,hc⟩ | h
  ·obtain⟨hL',hmu⟩:=hL.add h8 hK hKD hc;obtain⟨m',hlt,hm'⟩:=hmu m hm;obtain⟨k,M',T',he,hl⟩:=ih m' hlt _ _ hL' hm';exact⟨k+1,M',T',.add hc he,hl⟩
  ·obtain⟨p,rfl⟩:∃p,i=p+1:=⟨i-1,by have:=hc.h0;omega⟩
   obtain⟨hL',hmu⟩:=hL.sw h8 hK hc;obtain⟨m',hlt,hm'⟩:=hmu m hm;obtain⟨k,M',T',he,hl⟩:=ih m' hlt _ _ hL' hm';exact⟨k+1,M',T',.sw hc he,hl⟩
  ·exact⟨0,M,T,.done h,hL⟩
theorem qnq{n k:Nat}{D K:Int}{M0 M' T' M T:List (List Int)}(h8:n<=8)(hK:1<=K)(hKD:8*D<=K)(hL:LState n D K M0 M T)(h:Ends n M' T' k M T):
  ((∀i,i<n->OKr (rowF M) i)/\M=M'/\T=T')\/(∃k' i j,k=k'+1/\CurA n (rowF M) i j/\LState n D K M0 (cgM n M (zil n M i j)) (mulM n T (zil n M i j))/\Ends n M' T' k' (cgM n M (zil n M i j)) (mulM n T (zil n M i j)))\/
   ∃k' i,k=k'+1/\CurS n (rowF M) i/\LState n D K M0 (cgM n M (zlj n i)) (mulM n T (zlj n i))/\Ends n M' T' k' (cgM n M (zlj n i)) (mulM n T (zlj n i)):=by
 cases h with
 |done h=>exact .inl ⟨h,rfl,rfl⟩
 |add hc he=>
  rename_i k' i j;exact .inr (.inl ⟨k',i,j,rfl,hc,(hL.add h8 hK hKD hc).1,he⟩)
 |sw hc he=>
  rename_i k' i;obtain⟨p,rfl⟩:∃p,i=p+1:=⟨i-1,by have:=hc.h0;omega⟩
  exact .inr (.inr ⟨k',p+1,rfl,hc,(hL.sw h8 hK hc).1,he⟩)
theorem qtp{n:Nat}{D K:Int}{M0 M' T':List (List Int)}(h8:n<=8)(hK:1<=K)(hKD:8*D<=K):∀{k:Nat} {M T:List (List Int)},Ends n M' T' k M T->LState n D K M0 M T->lead (rowF M') n=lead (rowF M) n:=by
 intro k M T h
 induction h with
 |done h=>intro _;rfl
 |add hc he ih=>
  rename_i k i j M T;intro hL;have hi:=hc.hi;have hj:=hc.hj;rw[ih (hL.add h8 hK hKD hc).1];have e:=qvc (c:= -(zgo (stg (rowF M) j i j) (lead (rowF M) (j+1)))) hL.shM (show i≠j by omega) hi (show j<n by omega);unfold zil;rw[e];exact zku hj hi (hL.pos.ne (qD _)) (qD _)
 |sw hc he ih=>
  rename_i k i M T;intro hL;obtain⟨p,rfl⟩:∃p,i=p+1:=⟨i-1,by have:=hc.h0;omega⟩
  have hi:=hc.hi;rw[ih (hL.sw h8 hK hc).1];have e:=jdi hL.shM hi;obtain⟨_,_,g,_⟩:=qae hL.pos hK hc hL.good;simp only[Nat.add_sub_cancel]at g
  show lead (rowF (cgM n M (zdm (idM n) (p+1) p))) n=_
  rw[e];exact g n (qD _) (by omega)
theorem qtq{n:Nat}{M0:List (List Int)}(h1:1<=n)(h8:n<=8)(h:SmallG n M0)(hg:zjd n M0):∃k M' T',Ends n M' T' k M0 (idM n)/\LState n (16^n) (8*16^n) M0 M0 (idM n)/\LState n (16^n) (8*16^n) M0 M' T'/\Red n (rowF M'):=by
 have hp:=qdt h hg
 have h16:(1:Int)<=16^n:=by
  have:=Nat.one_le_pow n 16 (by decide)
  exact_mod_cast this
 have hst:LState n (16^n) (8*16^n) M0 M0 (idM n):=by
  refine LState.start h.shp hp (by omega) λs _=>?_
  have:=(h.bnd s s).2;rcases xV n with e | e
  ·omega
  ·have:(16:Int)^1<=16^n:=by
    have:=qG (n:=16) (by decide) e
    exact_mod_cast this
   have e1:(16:Int)^1=16:=by decide
   omega
 obtain⟨k,M',T',he,hl⟩:=qnp h8 (by omega) (xB _) _ _ _ hst (qcs h8);have hdet:=qtp h8 (by omega) (xB _) he hst
 have hok:∀i,i<n->OKr (rowF M') i:=by
  clear hdet hl hst hp;generalize idM n=T at he;clear h hg
  induction he with
  |done h=>exact h
  |add _ _ ih=>exact ih
  |sw _ _ ih=>exact ih
 refine⟨k,M',T',he,hst,hl,h1,h8,hl.pos.sym,λk hk=>hl.pos.pos (k+1) (by omega),by rw[hdet];exact hg.2,λi j hi hj=>(hok i hi).1 j hj,λi h0 hi=>(hok i hi).2 h0⟩
section
variable{n N B A0:Nat}{M:List (List Int)}{ds:List Int}
theorem qnr(hF:FitN N B A0)(hb:Bnd A0 M)(hnN:n<=N)(h:zds B M n=some ds)(hp:∀t,t<=n->0<lead (rowF M) t){i j:Nat}(hj:j<n):zkl B M ds i j=some (decide (SZ (rowF M) i j)):=by
 obtain⟨b,hbs⟩:=zwv (ds:=ds) hF hb (i:=i) (j:=j) (by omega);have hi:=zwu h hp hj hbs;rw[hbs];congr 1;by_cases hz:SZ (rowF M) i j
 ·rw[decide_eq_true hz];exact hi.2 hz
 ·rw[decide_eq_false hz];cases b with
  |false=>rfl
  |true=>exact absurd (hi.1 rfl) hz
theorem jax(hF:FitN N B A0)(hb:Bnd A0 M)(hnN:n<=N)(h:zds B M n=some ds)(hf:∀z∈ds,z.natAbs<=bndS A0 N)(hp:∀t,t<=n->0<lead (rowF M) t){i:Nat}(h0:0<i)(hi:i<n):lovO B M ds i=some (decide (LV (rowF M) i)):=by
 obtain⟨b,hbs⟩:=qlh (ds:=ds) hF hb hf (i:=i) (by omega);have hv:=qlf h hp h0 hi hbs;rw[hbs];congr 1;by_cases hz:LV (rowF M) i
 ·rw[decide_eq_true hz];exact hv.2 hz
 ·rw[decide_eq_false hz];cases b with
  |false=>rfl
  |true=>exact absurd (hv.1 rfl) hz
theorem qns(hF:FitN N B A0)(hb:Bnd A0 M)(hnN:n<=N)(hp:∀t,t<=n->0<lead (rowF M) t){i j:Nat}(hj:j<n):lamO B M i j=some (stg (rowF M) j i j)/\(stg (rowF M) j i j).natAbs<=bndS A0 N:=by
 obtain⟨l,h1,h2⟩:=qac hF hb (i:=i) (j:=j) (by omega);have e:=zkq (i:=i) (j:=j) (λt ht=>by have:=hp t (by omega);omega) (zgj h1).1;rw[e]at h1 h2;exact⟨h1,h2⟩
end
theorem sumR_le{f:Nat->Int}{n c:Nat}(h:∀t,t<n->(f t).natAbs<=c):(sumR f n).natAbs<=n*c:=by
 have:=qcp (f:=f) (n:=n) (c:=(c:Int)) λt ht=>by have:=h t ht;omega
 have e:((n*c:Nat):Int)=(n:Int)*c:=by simp
 omega
theorem jay{l d:Int}(hd:0<d):(zgo l d).natAbs<=l.natAbs+1:=by
 have h:=qlq (l:=l) (d:=d) hd;rw[Int.neg_mul]at h;have h1:2*(zgo l d*d)<=2*l+d:=by omega
 have h2:2*l-d<=2*(zgo l d*d):=by omega
 generalize zgo l d=q at*;rcases Int.le_total 0 q with hq | hq
 ·rcases(by omega:q<=l.natAbs+1\/(l.natAbs:Int)+2<=q)with e | e
  ·omega
  ·exfalso;have m:=xZ e (show(0:Int)<=d by omega);have m2:(l.natAbs:Int)*1<=l.natAbs*d:=qS (by omega) (by omega);rw[Int.add_mul]at m;omega
 ·rcases(by omega: -q<=l.natAbs+1\/(l.natAbs:Int)+2<= -q)with e | e
  ·omega
  ·exfalso;have m:=xZ e (show(0:Int)<=d by omega);have m2:(l.natAbs:Int)*1<=l.natAbs*d:=qS (by omega) (by omega);rw[Int.add_mul,Int.neg_mul]at m;omega
open Go.Proofs Go.Limb
theorem jaz(r s:List Int):∀k,dotS r s k=sumR (λt=>r.getD t 0*s.getD t 0) k:=by
 intro k
 induction k with
 |zero=>rfl
 |succ k ih=>show dotS r s k+_=sumR _ k+_;rw[ih]
structure MulB(n x y:Nat)(A B:List (List Int)):Prop where
 a:Bnd x A
 b:Bnd y B
 fit:8*(x*y)+x+y<BIG
theorem MulB.term{n x y:Nat}{A B:List (List Int)}(h:MulB n x y A B)(i j k:Nat):(ent A i k*ent B k j).natAbs<=x*y:=zdt (h.a i k) (h.b k j)
theorem MulB.bnd{n x y:Nat}{A B:List (List Int)}(h:MulB n x y A B)(hn:n<=8):Bnd (8*(x*y)) (mulM n A B):=by
 intro i j;by_cases hij:i<n/\j<n
 ·unfold mulM;rw[zco hij.1 hij.2];have:=sumR_le (f:=λk=>ent A i k*ent B k j) (n:=n) (c:=x*y) λt _=>h.term i j t
  have:=xA (x*y) hn;omega
 ·rw[(zuc n A B).out (by omega)];simp
theorem jba{n x y:Nat}{A B:List (List Int)}{ar tr:List AV}{ac tc cap:Option Nat}(hn:1<=n/\n<=8)(hM:MulB n x y A B)(hsA:Shp n A)(hal:ar.length=n)(har:∀i,i<n->zfu (A.getD i []) (ar.getD i .junk))(htl:tr.length=n)(htr:∀i,i<n->zfu ((trM n B).getD i []) (tr.getD i .junk))
  {i:Nat} (hi:i<n) {v43 v44:AV} {Q:Post} {ps:List (Nat×Option Nat)} {X0:List (List Int)} (hX0:X0.length=n)
  {E:Env} {H:Heap} (hH:MatH H 0 ps n X0) (e0:E 0= .vec ar n ac) (e9:E 9= .vec tr n tc) (e11:E 11= .sl 0 0 n 1 cap) (e12:E 12= .int .i64 (i:Nat)) (e43:E 43=v43) (e44:E 44=v44) (e48:E 48= .int .i64 (n:Nat)) (e49:E 49= .int .i64 0)
  (hQ:∀E' H' X,MatH H' 0 ps n X->X.length=n->(∀s t,ent X s t=if s=i/\t<n then ent (mulM n A B) s t else ent X0 s t)->E' 0= .vec ar n ac->E' 9= .vec tr n tc->E' 11= .sl 0 0 n 1 cap->E' 43=v43->E' 44=v44->Q (.exit 2) E' H'):
  Wg 0 70 (.loop l134_1) E H Q:=by
 refine zaf (λk E H=>∃j X,j+k=n/\MatH H 0 ps n X/\X.length=n/\(∀s t,ent X s t=if s=i/\t<j then ent (mulM n A B) s t else ent X0 s t)/\E 0= .vec ar n ac/\E 9= .vec tr n tc/\E 11= .sl 0 0 n 1 cap/\E 12= .int .i64 (i:Nat)/\E 43=v43/\E 44=v44/\
  E 48= .int .i64 (n:Nat)/\E 49= .int .i64 (j:Nat)) (n:=n) ⟨0,X0,by omega,hH,hX0,λs t=>by rw[if_neg (by omega)],e0,e9,e11,e12,e43,e44,e48,e49⟩ ?_
 clear hH e0 e9 e11 e12 e43 e44 e48 e49 E H;rintro k E H ⟨j,X,hjk,hH,hXl,hX,e0,e9,e11,e12,e43,e44,e48,e49⟩;refine wM ?_;simp only[l134_1,r134_10,SS,reduceIte,e48,e49];refine⟨λhlt=>?_,λhge=>?_⟩
 ·obtain⟨k,rfl⟩:∃k',k=k'+1:=⟨k-1,by omega⟩
  have hj:j<n:=by omega
  obtain⟨csk,gk,lk,rk,fk⟩:=zdw hH (i:=i) (by omega);have ok:=zbv (ps:=ps) (n:=n) (i:=i) (by rw[hH.len];omega);have hol:(ps.map (zck n)).length=n:=by rw[xO,hH.len];exact hXl
  have hou:=hH.outer;have rA:=har i hi;have rT:=htr j hj;have lA:=hsA.row i hi;have lT:((trM n B).getD j []).length=n:=(zct n _).row j hj;have hfit:=hM.fit
  have e1:∀t,t<n->((trM n B).getD j []).getD t 0=ent B t j:=by
   intro t ht
   show ent (trM n B) j t=_
   unfold trM;rw[zco hj ht]
  have hdot:∀m,m<=n->dotS (A.getD i []) ((trM n B).getD j []) m=sumR (λt=>ent A i t*ent B t j) m:=by
   intro m hm;rw[jaz];refine zae λt ht=>?_
   rw[e1 t (by omega)];rfl
  have hval:dotS (A.getD i []) ((trM n B).getD j []) (A.getD i []).length=ent (mulM n A B) i j:=by
   rw[lA,hdot n (qD _)];unfold mulM;rw[zco hi hj]
  have td:=mDot rA rT (by rw[lA,lT]) (by omega) (λt ht=>by
    rw[e1 t (by omega)];have:=hM.term i j t;have e:(A.getD i []).getD t 0=ent A i t:=rfl;rw[e];omega) (λm hm=>by
    rw[hdot m (by omega)];have h1:=sumR_le (f:=λt=>ent A i t*ent B t j) (n:=m) (c:=x*y) λt _=>hM.term i j t
    have h2:m*(x*y)<=8*(x*y):=xA _ (by omega);omega)
  rw[hval]at td;have hbv:=hM.bnd hn.2 i j;have hiv:zag (ent (mulM n A B) i j) (intV (ent (mulM n A B) i j)):=zbk (by omega);have hv0:=hiv;obtain⟨lv,cv,hcv1,hcv2,hcv3,hev⟩:=hiv;rw[hev]at td hv0;have hset:=zhz hH (i:=i) (j:=j) (by omega) hj hv0 gk;have w5:=wS1 j (by omega);obtain⟨acs,aci,hae,hac⟩:=rA;obtain⟨tcs,tci,hte,htc⟩:=rT;rw[hae,hte]at td;simp only[r134_11,r134_12,SS,fC,reduceCtorEq,reduceIte,qQ,e0,e9,e11,e12,e49,qY,hou,hol,ok,hal,htl,hae,hte];refine⟨⟨by omega,by omega⟩,by omega,⟨by omega,by omega⟩,by omega,⟨by omega,by omega⟩,by omega,?_⟩;refine zaa td ?_;simp only[SS,reduceIte,qZ,qQ,gk,lk,qY];refine⟨⟨by omega,by omega⟩,by omega,rfl,?_⟩;simp only[r134_13,SS,reduceIte,qQ,e49,w5];refine⟨k,_,_,by omega,⟨j+1,setM X i j (ent (mulM n A B) i j),by omega,hset,by rw[zcu];exact hXl,?_,?_,?_,?_,?_,?_,?_,?_,?_⟩,.refl⟩
  ·intro s t;rw[zhb (by omega) (by rw[hH.cols i (by omega)];exact hj),hX];by_cases h1:s=i/\t=j
   ·rw[if_pos h1,if_pos ⟨h1.1,by omega⟩,h1.1,h1.2]
   ·rw[if_neg h1];by_cases h2:s=i/\t<j
    ·rw[if_pos h2,if_pos ⟨h2.1,by omega⟩]
    ·rw[if_neg h2,if_neg (by omega)]
  all_goals simp only[UU,qQ,reduceIte, *]
 ·have hjn:j=n:=by omega
  subst hjn;exact hQ _ _ X hH hXl hX (by simp only[UU,qQ,e0]) (by simp only[UU,qQ,e9]) (by simp only[UU,qQ,e11]) (by simp only[UU,qQ,e43]) (by simp only[UU,qQ,e44])
theorem mMul{n x y:Nat}{A B:List (List Int)}{a b:AV}(ha:Sq n A a)(hb:Sq n B b)(hM:MulB n x y A B):Rt 134 [a,b] [] (.tup [matC (mulM n A B),.bool true]) []:=by
 have hn:1<=n/\n<=8:=⟨ha.lo,ha.hi⟩
 have hfit:=hM.fit;have hsA:Shp n A:=⟨ha.len,ha.cols⟩
 have hsB:Shp n B:=⟨hb.len,hb.cols⟩
 have t1:=zwe ha.mat ha.shape;rw[ha.cols 0 (by omega),ha.len]at t1;have hTs:Shp n (trM n B):=zct n _;have t2:=zsd (n:=n) hb.mat (by omega) (by rw[hb.len];omega) (λi hi=>hb.cols i (by rw[hb.len]at hi;exact hi)) (T:=trM n B) hTs.len (λi hi=>by rw[hb.len];exact hTs.row i hi) (λi j hi hj=>by unfold trM;rw[zco hi (by rw[hb.len]at hj;exact hj)])
 have hTb:Bnd y (trM n B):=by
  intro i j;by_cases hij:i<n/\j<n
  ·unfold trM;rw[zco hij.1 hij.2];exact hM.b j i
  ·rw[hTs.out (by omega)];simp
 have hT:MatV (trM n B) (matC (trM n B)):=zly (znm hTb (by omega));have c1:qJ [a]=true:=by simp only[qJ,ha.closed,qE]
 have c2:qJ [b]=true:=by simp only[qJ,hb.closed,qE]
 obtain⟨tr,tc,hte,htl,htr⟩:=hT;rw[hte]at t2;have hbl:=hb.len;obtain⟨ar,ac,hae,hal,har⟩:=ha.mat;obtain⟨br,bc,hbe,hbl2,hbr⟩:=hb.mat;subst hae hbe;rw[ha.len]at hal har t1 c1 ⊢;rw[hb.len]at t2 c2 ⊢;rw[hTs.len]at htl htr t2;refine oFw o134 ?_;simp only[c134,r134_0,r134_1,SS,reduceCtorEq,reduceIte];refine zaa t1 ?_ c1;simp only[SS,reduceIte,qQ,qW,qK];simp only[r134_2,SS,reduceIte,qQ];refine zaa t2 ?_ c2;simp only[SS,reduceIte,qQ,qW,qK];simp only[r134_3,SS,fC,reduceIte,qQ];refine⟨λhne=>absurd rfl hne,λ_=>?_⟩;simp only[r134_5,SS,reduceCtorEq,reduceIte,qQ];refine zdz (qks (by omega) (by omega)) rfl ?_;obtain⟨H1,ps,hH1,hz⟩:=zja n n;simp only[zay,SS,reduceIte,qQ,AV.ren,zcb,xM,hH1];simp only[r134_6,SS,reduceCtorEq,reduceIte,qQ]
 refine zaf (λk E H=>∃i X,i+k=n/\MatH H 0 ps n X/\X.length=n/\(∀s t,ent X s t=if s<i/\t<n then ent (mulM n A B) s t else 0)/\E 0= .vec ar n ac/\E 9= .vec tr n tc/\E 11= .sl 0 0 n 1 (some n)/\E 43= .int .i64 (n:Nat)/\E 44= .int .i64 (i:Nat)) (n:=n)
  ⟨0,zmat n n,by omega,hz,(ziy _ _).1,λs t=>by rw[if_neg (by omega),zko],by simp only[UU,qQ],by simp only[UU,qQ,reduceIte],by simp only[UU,qQ,reduceIte],by simp only[UU,qQ,reduceIte],by simp only[UU,qQ,reduceIte];rfl⟩ ?_
 rintro k E H ⟨i,X,hik,hH,hXl,hX,e0,e9,e11,e43,e44⟩;refine wM ?_;simp only[l134_0,r134_7,SS,reduceCtorEq,reduceIte,e43,e44];refine⟨λhlt=>?_,λhge=>?_⟩
 ·obtain⟨k,rfl⟩:∃k',k=k'+1:=⟨k-1,by omega⟩
  have hi:i<n:=by omega
  have w5:=wS1 i (by omega);simp only[r134_8,r134_9,SS,reduceIte,qQ,e9,e44];refine jba (ar:=ar) (tr:=tr) (ac:=ac) (tc:=tc) (cap:=some n) hn hM hsA hal har htl htr hi hXl hH (by simp only[UU,qQ,e0]) (by simp only[UU,qQ,e9]) (by simp only[UU,qQ,e11]) (by simp only[UU,qQ,reduceIte]) (by simp only[UU,qQ];exact e43) (by simp only[UU,qQ];exact e44) (by simp only[UU,qQ,reduceIte]) (by simp only[UU,qQ,reduceIte]) ?_;intro E' H' X' hH' hXl' hX' f0 f9 f11 f43 f44;simp only[SS,reduceCtorEq,reduceIte,qQ,r134_14,f44,w5];refine⟨k,_,_,by omega,⟨i+1,X',by omega,hH',hXl',?_,?_,?_,?_,?_,?_⟩,.refl⟩
  ·intro s t;rw[hX',hX];by_cases h1:s=i/\t<n
   ·rw[if_pos h1,if_pos ⟨by omega,h1.2⟩]
   ·rw[if_neg h1];by_cases h2:s<i/\t<n
    ·rw[if_pos h2,if_pos ⟨by omega,h2.2⟩]
    ·rw[if_neg h2,if_neg (by omega)]
  all_goals simp only[UU,qQ,reduceIte, *]
 ·have hin:i=n:=by omega
  subst hin
  have e:X=mulM i A B:=by
   refine ztr hXl (zuc i A B).len (λs hs=>hH.cols s (by omega)) (zuc i A B).row λs t hs ht=>?_
   rw[hX,if_pos ⟨hs,ht⟩]
  subst e;simp only[r134_15,SS,reduceIte,qQ,e11];obtain⟨v,g1,g2⟩:=zix (cap:=some i) (b:=true) hH;rw[hXl]at g1;exact⟨.inl trivial,_,v,rfl,g1,g2⟩
theorem zuv{n x y:Nat}{A B:List (List Int)}{a b:AV}(ha:Sq n A a)(hb:Sq n B b)(hM:MulB n x y A B):Rt 63 [a,b] [] (matC (mulM n A B)) []:=by
 have t1:=mMul ha hb hM;have c1:qJ [a,b]=true:=by simp only[qJ,ha.closed,hb.closed,qE]
 refine oF o63 ?_;simp only[c63,r63_0,r63_1,SS,reduceCtorEq,reduceIte,qQ];refine zaa t1 ?_ c1;simp only[SS,reduceIte,qQ,r63_2,qW,qK];exact dR
theorem qgo{n x y:Nat}{A U:List (List Int)}{a u:AV}(ha:Sq n A a)(hu:Sq n U u)(hbA:Bnd x A)(hbU:Bnd y U)(hf:64*(y*x*y)+8*(y*x)+x+y<BIG):Rt 62 [a,u] [] (matC (cgM n A U)) []:=by
 have hn:1<=n/\n<=8:=⟨ha.lo,ha.hi⟩
 have hTs:Shp n (trM n U):=zct n _
 have hTb:Bnd y (trM n U):=by
  intro i j;by_cases hij:i<n/\j<n
  ·unfold trM;rw[zco hij.1 hij.2];exact hbU j i
  ·rw[hTs.out (by omega)];simp
 have t1:=zsd (n:=n) hu.mat (by omega) (by rw[hu.len];omega) (λi hi=>hu.cols i (by rw[hu.len]at hi;exact hi)) (T:=trM n U) hTs.len (λi hi=>by rw[hu.len];exact hTs.row i hi) (λi j hi hj=>by unfold trM;rw[zco hi (by rw[hu.len]at hj;exact hj)]);have hsT:=zug hTs hn hTb (by omega);have hM1:MulB n y x (trM n U) A:=⟨hTb,hbA,by omega⟩
 have t2:=zuv hsT ha hM1;have hb1:=hM1.bnd hn.2;have hs1:=zug (zuc n (trM n U) A) hn hb1 (by omega);have e1:8*(8*(y*x)*y)=64*(y*x*y):=by rw[xU 8,<-xU]
 have hM2:MulB n (8*(y*x)) y (mulM n (trM n U) A) U:=⟨hb1,hbU,by omega⟩
 have t3:=zuv hs1 hu hM2;have c1:qJ [u]=true:=by simp only[qJ,hu.closed,qE]
 have c2:qJ [matC (trM n U),a]=true:=by simp only[qJ,ha.closed,hsT.closed,qE]
 have c3:qJ [matC (mulM n (trM n U) A),u]=true:=by simp only[qJ,hu.closed,hs1.closed,qE]
 refine oF o62 ?_;simp only[c62,r62_0,r62_1,SS,reduceCtorEq,reduceIte,qQ];refine zaa t1 ?_ c1;simp only[SS,reduceCtorEq,reduceIte,qQ,r62_2,qW,qK];refine zaa t2 ?_ c2;simp only[SS,reduceIte,qQ];refine zaa t3 ?_ c3;simp only[SS,reduceIte,qQ];exact dR
