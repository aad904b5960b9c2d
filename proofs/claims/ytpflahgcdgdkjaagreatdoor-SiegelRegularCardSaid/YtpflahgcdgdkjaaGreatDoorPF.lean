/- A part of the proof. -/
import Derived.Test.YtpflahgcdgdkjaaGreatDoorPE
import Derived.Test.YtpflahgcdgdkjaaGreatDoorPA
import Derived.Test.YtpflahgcdgdkjaaGreatDoorPC
import Derived.Test.YtpflahgcdgdkjaaGreatDoorPD
import Derived.KernelRfl
set_option linter.all false
set_option maxRecDepth 100000
namespace Go.Proofs.YtpflahgcdgdkjaaGreatDoor
open Nat renaming reduceEqDiff -> qQ, reduceLeDiff -> qX, reduceAdd -> qZ, le_refl -> qE, eq_zero_or_pos -> xC
open Int renaming toNat_natCast -> qB, toNat_zero -> xD, mul_assoc -> zX
open Go Go.AL Go.Proofs Go.Limb Go.Det
theorem qmm{n k:Nat}{M:List (List Int)}(hs:∀i j,i<n->j<n->rowF M i j=rowF M j i)(hP:Part n (rowF M) k)(hk:k+1<n)(hsh:qda (n-k) (zbs n k M)):∀i,i<n-k-> -65536<=ent (zbs n k M) i 0/\ent (zbs n k M) i 0<=65536/\ -65536<=ent (zbs n k M) 0 i/\ent (zbs n k M) 0 i<=65536:=by
 intro i hi
 have e:ent (zbs n k M) 0 i=ent (zbs n k M) i 0:=by
  rw[zcv (by omega) hi,zcv hi (by omega)];exact zfn hs k (by omega) hP.ne _ _ (by omega) (by omega) (by omega) (by omega)
 rw[e];obtain⟨h1,h2,h3⟩:=hsh;rcases xC i with h0 | h0
 ·subst h0;omega
 ·have:=h3 i h0 hi;omega
theorem zrs{n k:Nat}{a:Nat->Det.Row}(n8:n<=8)(hs:∀i j,i<n->j<n->a i j=a j i)(hb:∀i j,i<n->j<n->a i j<=262144/\ -262144<=a i j)(hP:Part n a k)(hk:k+1<n)(h1:0<lead a (k+1))(h2:lead a (k+1)<65536)
  (h3:∀i,i<n->k<i->2*stg a k i k<=lead a (k+1)/\ -(2*stg a k i k)<=lead a (k+1)) {i j:Nat} (hi:i<n) (hj:j<n) (hki:k<i) (hkj:k<j):stg a (k+1) i j<=34359738368/\ -34359738368<=stg a (k+1) i j:=by
 obtain⟨x1,x2⟩:=Part.entry hs hb k (by omega) hP i j hi hj (by omega) (by omega);have hn:=hP.ne;have e:=zbz hn i j;obtain⟨u1,u2⟩:=h3 i hi hki;obtain⟨v1,v2⟩:=h3 j hj hkj;rw[zfn hs k (by omega) hn k j (by omega) hj (by omega) (by omega)]at e;have p:=hP.pos' k (qE _);obtain⟨y1,y2⟩:=jdc (by omega) (by omega) (by omega) e x1 x2 u1 u2 v1 v2
 have c:lead a (k+1)*(262144+16384*(k:Int)+16384)<=65536*524288:=by
  have m1:lead a (k+1)*(262144+16384*(k:Int)+16384)<=65536*(262144+16384*(k:Int)+16384):=Int.mul_le_mul_of_nonneg_right (by omega) (by omega);omega
 omega
theorem qgi{M:List (List Int)}{a:AV}(h:ImV M a)(h62:M.length<4611686018427387904)(hr62:∀i,i<M.length->(M.getD i []).length<4611686018427387904){b:Bool}(hb:b=true↔zkz M/\Red M.length (rowF M)):Rt 70 [a] [] (.bool b) []:=by
 have no:¬(zkz M/\Red M.length (rowF M))->b=false:=by
  intro hn;cases b with
  |false=>rfl
  |true=>exact absurd (hb.1 rfl) hn
 refine oF o70 ?_;by_cases hS:zkz M;rotate_left
 ·obtain rfl:=no (λe=>hS e.1);have t1:=qvj h h62 hr62 (b:=false) ⟨λe=>by simp at e,λe=>absurd e hS⟩;obtain⟨rows,c,rfl,hl,hr⟩:=h.val;simp only[c70,r70_0,r70_1,SS,reduceCtorEq,reduceIte];refine zaa t1 ?_;simp only[SS,fC,reduceIte,qQ];simp only[r70_2,SS];exact dR
 have t1:=qvj h h62 hr62 (b:=true) ⟨λ_=>hS,λ_=>rfl⟩;have hf0:=h.fit;have himv:=h;obtain⟨rows,c,rfl,hl,hr⟩:=h.val;obtain⟨n1,n8,hsh,hent⟩:=hS;generalize hn:M.length=n at*;have hsym:∀i j,i<n->j<n->rowF M i j=rowF M j i:=λi j hi hj=>(hent i j hi hj).1
 have hbnd:∀i j,i<n->j<n->rowF M i j<=262144/\ -262144<=rowF M i j:=λi j hi hj=>by have:=hent i j hi hj;show ent M i j<=_/\_<=ent M i j;omega
 simp only[c70,r70_0,r70_1,SS,reduceCtorEq,reduceIte];refine zaa t1 ?_;simp only[SS,fC,reduceIte,qQ];simp only[r70_3,r70_4,SS,reduceCtorEq,reduceIte,qQ]
 refine zaf (λq E H=>∃k sr sc,k+q+1=n/\Part n (rowF M) k/\ImV (zbs n k M) (.vec sr (n-k) sc)/\E 3= .vec sr (n-k) sc/\E 4= .int .i64 (lead (rowF M) k)/\H=[]) (n:=n-1)
  ⟨0,rows,c,by omega,Part.zero,by rw[qgg hsh];exact himv,by simp only[UU,qQ,reduceIte];rfl,by simp only[UU,qQ,reduceIte];rfl,rfl⟩ ?_
 rintro q E H ⟨k,sr,sc,hkq,hP,hV,e3,e4,rfl⟩;refine wM ?_;have hsS:=zpx n k M;obtain⟨srw,src,hse,hsl,hsr⟩:=hV.val;rw[hsS.len]at hse hsl hsr;injection hse with hs1 hs2 hs3
 subst hs1 hs3;obtain⟨c0,hc0⟩:=hsr 0 (by omega);have l0:=hsS.row 0 (by omega);have g00:(i64z ((zbs n k M).getD 0 [])).getD 0 .junk= .int .i64 (ent (zbs n k M) 0 0):=zcf _ 0 (by omega) _;have e00:ent (zbs n k M) 0 0=lead (rowF M) (k+1):=by rw[zcv (by omega) (by omega),zba];rfl
 simp only[l70_0,r70_5,SS,reduceCtorEq,reduceIte,qQ,e3];refine⟨λhgt=>?_,λhle=>?_⟩
 ·obtain⟨m,hm⟩:∃m,n-k=m+1:=⟨n-k-1,by omega⟩
  have hk1:k+1<n:=by omega
  have hbig:∀i j,i<n-k->j<n-k-> -34359738368<=ent (zbs n k M) i j/\ent (zbs n k M) i j<=34359738368:=by
   intro i j hi hj;rw[zcv hi hj];have:=hP.entry35 n8 hsym hbnd (by omega) (i:=k+i) (j:=k+j) (by omega) (by omega) (by omega) (by omega);omega
  simp only[r70_6,r70_7,SS,fC,reduceIte,qQ,e3,hc0,hsl,l0,g00,zbe,xD];refine⟨⟨by omega,by omega⟩,by omega,⟨by omega,by omega⟩,by omega,?_⟩;by_cases hsp:qda (n-k) (zbs n k M);rotate_left
  ·have hbf:=no (λe=>hsp (by
    obtain⟨r1,r2,r3,_⟩:=e.2.part hk1;refine⟨by rw[e00];exact r1,by rw[e00];exact r2,λi h0 hi=>?_⟩;rw[e00,zcv hi (by omega)];exact r3 (k+i) (by omega) (by omega)))
   subst hbf;have t2:=qvk hV hsS (by omega) (λi hi=>by have:=hbig i 0 hi (by omega);omega) (b:=false) ⟨λe=>by simp at e,λe=>absurd e hsp⟩;refine zaa t2 ?_;simp only[SS,fC,reduceIte,qQ];simp only[r70_8,SS];exact dR
  have t2:=qvk hV hsS (by omega) (λi hi=>by have:=hbig i 0 hi (by omega);omega) (b:=true) ⟨λ_=>hsp,λ_=>rfl⟩;refine zaa t2 ?_;simp only[SS,fC,reduceIte,qQ];have w1:IntKind.i64.wrap (((n-k:Nat):Int)-1)=(m:Nat):=wQ (by omega);simp only[r70_9,SS,reduceIte,qQ,e3,w1,qB];refine⟨by decide,⟨by omega,by omega,by omega,by omega⟩,?_⟩;obtain⟨sp1,sp2,sp3⟩:=hsp;have hlow:=qmm hsym hP hk1 ⟨sp1,sp2,sp3⟩
  have sz:∀i,i<n->k<i->2*stg (rowF M) k i k<=lead (rowF M) (k+1)/\ -(2*stg (rowF M) k i k)<=lead (rowF M) (k+1):=by
   intro i hi hki;have:=sp3 (i-k) (by omega) (by omega);rw[e00,zcv (by omega) (by omega),show k+(i-k)=i by omega]at this;exact this
  rw[e00]at sp1 sp2
  have hTs:Shp m (zbs n (k+1) M):=by
   have:=zpx n (k+1) M;rw[show n-(k+1)=m by omega]at this;exact this
  have hq:∀i j,i<m->j<m->Int.tdiv (lead (rowF M) (k+1)*ent (zbs n k M) (i+1) (j+1)-ent (zbs n k M) (i+1) 0*ent (zbs n k M) 0 (j+1)) (lead (rowF M) k)=ent (zbs n (k+1) M) i j:=by
   intro i j hi hj;rw[zcv (by omega) (by omega),zcv (by omega) (by omega),zcv (by omega) (by omega),zcv (by omega) (by omega)];rw[show k+(i+1)=k+1+i by omega,show k+(j+1)=k+1+j by omega];exact qml hP _ _
  have hF:StF m (zbs n k M) (zbs n (k+1) M) sr sc (lead (rowF M) (k+1)) (lead (rowF M) k):=by
   refine⟨by omega,by rw[<-hm];exact hsS,hTs,λi hi=>?_,by omega,e00.symm,⟨sp1,sp2⟩,hP.ne k (qE _),λi j hi hj=>hbig i j (by omega) (by omega),λi hi=>hlow i (by omega),hq⟩;obtain⟨c',hc'⟩:=hsr i (by omega);rw[hsS.row i (by omega),hm]at hc';exact⟨c',hc'⟩
  simp only[r70_10,SS,reduceIte,qQ];have hb0:[some (List.replicate m (AV.vec [] 0 (some 0)))]=bH m m []:=rfl;rw[hb0];refine qgh hF (by simp only[UU,qQ,e3,hm]) (by simp only[UU,qQ,e4]) (by simp only[UU,qQ,reduceIte,e00]) (by simp only[UU,qQ,reduceIte]) (by simp only[UU,qQ,reduceIte]) (by simp only[UU,qQ,reduceIte]) ?_;intro E' f3 f4 f5 f6;obtain⟨c1,hc1⟩:=hF.val 1 (by omega);have l1:=hF.shS.row 1 (by omega);have g10:(i64z ((zbs n k M).getD 1 [])).getD 0 .junk= .int .i64 (ent (zbs n k M) 1 0):=zcf _ 0 (by omega) _;have lT:=hTs.row 0 (by omega);have gT:(i64z ((zbs n (k+1) M).getD 0 [])).getD 0 .junk= .int .i64 (ent (zbs n (k+1) M) 0 0):=zcf _ 0 (by omega) _;have eT:ent (zbs n (k+1) M) 0 0=lead (rowF M) (k+2):=by rw[zcv (by omega) (by omega),zba (rowF M) (k+1)]
  have eL:ent (zbs n k M) 1 0=stg (rowF M) k (k+1) k:=by rw[zcv (by omega) (by omega)];rfl
  have go:getB (bH m m (zbs n (k+1) M)) 0=some (outS m m m):=by rw[zec,hTs.len]
  have gol:=zew (N:=m) (n:=m) (i:=m) (qE _);have gog:=zex (N:=m) (n:=m) (i:=m) (k:=0) (by omega);have gr:=zfy (N:=m) (n:=m) (i:=0) (rows:=zbs n (k+1) M) (by rw[hTs.len];omega);have nb:=zrs n8 hsym hbnd hP hk1 sp1 sp2 sz (i:=k+1) (j:=k+1) hk1 hk1 (by omega) (by omega);rw[<-zba]at nb;have lk:=hP.lt' k (qE _);have lk0:=hP.pos' k (qE _);have sl:=sz (k+1) hk1 (by omega);have p1:=zih (x:=lead (rowF M) k) (y:=lead (rowF M) (k+2)) (a:=65536) (b:=34359738368) (by omega) (by omega) nb.1 nb.2;have p2:=zih (x:=stg (rowF M) k (k+1) k) (y:=stg (rowF M) k (k+1) k) (a:=65536) (b:=65536) (by omega) (by omega) (by omega) (by omega);have p3:=zih (x:=3*lead (rowF M) (k+1)) (y:=lead (rowF M) (k+1)) (a:=262144) (b:=65536) (by omega) (by omega) (by omega) (by omega);have w2:IntKind.i64.wrap (lead (rowF M) k*lead (rowF M) (k+2))=lead (rowF M) k*lead (rowF M) (k+2):=w64 (by omega) (by omega);have w3:IntKind.i64.wrap (stg (rowF M) k (k+1) k*stg (rowF M) k (k+1) k)=stg (rowF M) k (k+1) k*stg (rowF M) k (k+1) k:=w64 (by omega) (by omega);have w4:IntKind.i64.wrap (lead (rowF M) k*lead (rowF M) (k+2)+stg (rowF M) k (k+1) k*stg (rowF M) k (k+1) k)=lead (rowF M) k*lead (rowF M) (k+2)+stg (rowF M) k (k+1) k*stg (rowF M) k (k+1) k:=w64 (by omega) (by omega);have w5:IntKind.i64.wrap (4*(lead (rowF M) k*lead (rowF M) (k+2)+stg (rowF M) k (k+1) k*stg (rowF M) k (k+1) k))=4*(lead (rowF M) k*lead (rowF M) (k+2)+stg (rowF M) k (k+1) k*stg (rowF M) k (k+1) k):=w64 (by omega) (by omega);have w6:IntKind.i64.wrap (3*lead (rowF M) (k+1))=3*lead (rowF M) (k+1):=w64 (by omega) (by omega);have w7:IntKind.i64.wrap (3*lead (rowF M) (k+1)*lead (rowF M) (k+1))=3*lead (rowF M) (k+1)*lead (rowF M) (k+1):=w64 (by omega) (by omega);have hlenS:=hF.len;simp only[SS,fC,reduceCtorEq,reduceIte,qZ,qQ,qX,r70_21,r70_22,f3,f4,f5,f6,hc1,hlenS,l1,g10,zbe,xD,Int.toNat_one,go,gol,gog,gr,lT,gT,eT,eL,w2,w3,w4,w5,w6,w7];have assoc:3*lead (rowF M) (k+1)*lead (rowF M) (k+1)=3*(lead (rowF M) (k+1)*lead (rowF M) (k+1)):=zX _ _ _;refine⟨⟨by omega,by omega⟩,by omega,⟨by omega,by omega⟩,⟨by omega,by omega⟩,by omega,⟨by omega,by omega⟩,by omega,λhno=>?_,λhyes=>?_⟩
  ·have hbf:=no (λe=>by
    obtain⟨_,_,_,r4⟩:=e.2.part hk1;omega)
   subst hbf;simp only[r70_23,SS];exact dR
  ·obtain⟨q,rfl⟩:∃q',q=q'+1:=⟨q-1,by omega⟩
   have hP':=hP.next sp1 sp2 sz (by omega);have hnk:n-(k+1)=m:=by omega
   have key3:∀E:Env,E 3= .sl 0 0 m 1 (some m)->frzE 0 3 (bH m m (zbs n (k+1) M)) E 3= .vec (zcx m (zbs n (k+1) M)) (n-(k+1)) (some m):=by
    intro E h;unfold frzE;rw[h,if_neg (by simp[AV.under]),qlz hTs.len hTs.row,hnk];rfl
   have key4:∀(E:Env) (z:Int),E 4= .int .i64 z->frzE 0 3 (bH m m (zbs n (k+1) M)) E 4= .int .i64 z:=by
    intro E z h;unfold frzE;rw[h];rfl
   have hfit:∀i j,In64 (ent (zbs n (k+1) M) i j):=by
    intro i j;by_cases hij:i<m/\j<m
    ·rw[zcv (by omega) (by omega)];have:=zrs n8 hsym hbnd hP hk1 sp1 sp2 sz (i:=k+1+i) (j:=k+1+j) (by omega) (by omega) (by omega) (by omega);unfold In64;omega
    ·rw[hTs.out (by omega)];unfold In64;omega
   have hV':=znn (N:=m) (n:=m) (c:=some m) hTs.len hTs.row hfit;simp only[r70_24,SS,reduceIte,qQ,f5,f6];refine⟨q,frzE 0 3 (bH m m (zbs n (k+1) M)) _,List.take 0 (bH m m (zbs n (k+1) M)),by omega,⟨k+1,zcx m (zbs n (k+1) M),some m,by omega,hP',by rw[hnk];exact hV',key3 _ (by simp only[UU,qQ,reduceIte]),key4 _ _ (by simp only[UU,qQ,reduceIte]),rfl⟩,ztf 0 3 (qE _) (Nat.zero_le _) (λi cs h=>absurd h (by omega))⟩
 ·have hkn:k+1=n:=by omega
  have eN:ent (zbs n k M) 0 0=lead (rowF M) n:=by rw[e00,hkn]
  have hfit0:=hV.fit 0 0;simp only[r70_25,SS,fC,reduceIte,qQ,e3,hc0,hsl,l0,g00,zbe,xD,eN];have hkk:k=n-1:=by omega
  rw[hkk]at hP;refine⟨⟨by omega,by omega⟩,by omega,⟨by omega,by omega⟩,by omega,λhpos=>⟨⟨by omega,by omega⟩,by omega,⟨by omega,by omega⟩,by omega,?_⟩,λhneg=>?_⟩
  ·have hbv:b=decide (lead (rowF M) n<=10000):=by
    by_cases hd:lead (rowF M) n<=10000
    ·rw[decide_eq_true hd];exact hb.2 ⟨by unfold zkz;rw[hn];exact⟨n1,n8,hsh,hent⟩,hP.red n1 n8 hsym hpos hd⟩
    ·rw[decide_eq_false hd];exact no (λe=>hd e.2.small)
   subst hbv;exact dR
  ·have hbf:=no (λe=>by have:=e.2.pos' n (qE _);omega);subst hbf;have d0:decide (0<lead (rowF M) n)=false:=decide_eq_false hneg;simp only[d0];exact dR
end Go.Proofs.YtpflahgcdgdkjaaGreatDoor
namespace Go.Proofs.YtpflahgcdgdkjaaGreatDoor
open Nat renaming reduceEqDiff -> qQ, reduceLeDiff -> qX, reduceAdd -> qZ, le_refl -> qE
open Go.AL.AV.closed renaming closedL -> qJ
open List renaming getElem?_cons_zero -> qW, getElem?_cons_succ -> qV, getElem?_eq_getElem -> qT, length_map -> xK, getD_eq_getElem?_getD -> xV, mapM_cons -> xE, mapM_nil -> xM, getElem?_map -> zW
open Bool renaming and_self -> xQ
open Go Go.AL Go.Proofs Go.Det
theorem zla{n:Nat}{M:List (List Int)}(hS:Shp n M)(h:Red n (rowF M))(i j:Nat):ent M i j<=180224/\ -180224<=ent M i j:=by
 by_cases hi:i<n/\j<n
 ·exact h.entry hi.1 hi.2
 ·rw[hS.out (by omega)];omega
theorem qsp{n:Nat}{M:List (List Int)}(hS:Shp n M)(h:Red n (rowF M))(i j:Nat):In64 (ent M i j):=by
 have:=zla hS h i j;unfold In64;omega
theorem qmn{n:Nat}{M:List (List Int)}(hS:Shp n M)(h:Red n (rowF M)):zkz M:=by
 have hl:=hS.len;refine⟨by rw[hl];exact h.n1,by rw[hl];exact h.n8,by rw[hl];exact hS,λi j hi hj=>?_⟩;rw[hl]at hi hj;have:=zla hS h i j;exact⟨h.sym i j hi hj,by omega,by omega⟩
open Go.Limb
theorem jgc{n:Nat}{M:List (List Int)}(hS:Shp n M)(hR:Red n (rowF M))(hF:qfq M):Rt 90 [matC M] [] (.tup [intV (lead (rowF M) n),.bool true]) []:=by
 have h8:=hR.n8;have h1:=hR.n1;have hsl:=hS.len;have t2:=zuf hS hR hF
 have t1:=qrs (rows:=M.map rowV) (c:=none) (N:=n) (n:=n) (by rw[xK,hsl]) ⟨h1,by omega⟩ ⟨h1,by omega⟩ (λi hi=>by
  have hi':i<M.length:=by omega
  refine⟨zfv M[i],none,?_⟩;rw[xV,zW,qT hi']
  show AV.vec (zfv M[i]) M[i].length none=_
  have:=hS.row i hi;rw[xV,qT hi']at this;have this:M[i].length=n:=this;rw[this])
 have c0:qJ [.vec (M.map rowV) n none]=true:=rfl;have hld:ldSz Tryz.prog 40=some (true,2):=by kernel_rfl
 unfold matC at t2 ⊢;rw[hsl]at t2 ⊢;refine oF o90 ?_;simp only[c90,r90_0,r90_1,SS,reduceCtorEq,reduceIte];refine zaa t1 ?_ c0;simp only[SS,reduceIte,qQ,qW,qV];simp only[r90_2,↓zcn,SS,fC,reduceIte,qQ,ne_eq,not_true_eq_false,decide_false];simp only[r90_4,SS,reduceCtorEq,reduceIte,qQ];refine zaa t2 ?_ c0;simp only[SS,reduceIte,qZ,qQ,qX,intV];refine⟨.inl trivial,.tup [.agg [.bool _,.vec _ _ _],.bool true],?_,.drop _ _ rfl (by intro i cs h;omega)⟩;simp only[resA,xE,xM,zdv,hld,UU,qQ,reduceIte,zwc,need];rfl
theorem jdm{z:Int}{a:AV}(ha:zag z a)(hz:In64 z):Rt 91 [a] [] (.tup [.int .i64 z,.bool true]) []:=by
 obtain⟨z1,z2⟩:=hz;obtain⟨l,ca,hc,hl,hv,rfl⟩:=ha;have t1:=qfp l ca (by omega);have k1:=zaz hc.1;have kv:=(zbq l).trans hv;generalize zbf l=m at*;have hm2:=zdc k1 (by omega);have t2:=zzo ca k1.1 (by omega);rw[kv]at t2;have d1:decide ((2:Int)<(m.length:Nat))=false:=dF;refine oF o91 ?_;simp only[c91,r91_0,r91_1,SS,fC,reduceCtorEq,reduceIte,qZ,qQ,qX];refine zaa t1 ?_;simp only[SS,reduceIte,qQ];simp only[r91_2,SS,fC,reduceIte,qQ,d1];simp only[r91_4,SS,reduceIte,qQ];refine zaa t2 ?_;simp only[SS,reduceIte,qQ];by_cases hn:z<0
 ·have e1:decide (z<0)=true:=decide_eq_true hn;have d2:decide ((z.natAbs:Int)<=9223372036854775808)=true:=dT
  have w1:IntKind.i64.wrap (IntKind.u64.wrap (0-(z.natAbs:Int)))=z:=by
   simp[IntKind.wrap,IntKind.bits,IntKind.signed];omega
  simp only[r91_5,↓zcn,↓zki,SS,fC,reduceIte,qZ,qQ,qX,e1,d2];simp only[r91_6,SS,reduceIte,qQ,w1];exact dR
 ·have e1:decide (z<0)=false:=decide_eq_false hn;have d2:decide ((z.natAbs:Int)<9223372036854775808)=true:=dT
  have w1:IntKind.i64.wrap (z.natAbs:Int)=z:=by
   rw[show(z.natAbs:Int)=z by omega];exact w64 z1 z2
  simp only[r91_5,↓zcn,↓zki,SS,fC,reduceIte,qZ,qQ,qX,e1];simp only[r91_7,↓zcn,SS,fC,reduceIte,qZ,qQ,qX,d2];simp only[r91_8,SS,reduceIte,qQ,w1];exact dR
section
variable{n:Nat}{M:List (List Int)}{a:AV}
theorem qdb(hS:Shp n M)(hR:Red n (rowF M)):qfq M:=by
 refine znm (A0:=180224) (λi j=>?_) (zea (x:=180224) (by decide));have:=zla hS hR i j;omega
theorem zpy(hR:Red n (rowF M)):In64 (lead (rowF M) n)/\1<=lead (rowF M) n/\lead (rowF M) n<=10000:=by
 have h1:=hR.pos' n (qE n);have h2:=hR.small;unfold In64;omega
theorem zuk(hV:ImV M a)(hS:Shp n M)(hR:Red n (rowF M)):Rt 42 [a] [] (.int .i64 (lead (rowF M) n)) []:=by
 have h8:=hR.n8;have h1:=hR.n1;have hsl:=hS.len;have hF:=qdb hS hR;obtain⟨d64,_,_⟩:=zpy hR;have t1:=jcy hV ⟨h1,by omega⟩ (by omega) (λi hi=>hS.row i (by omega));have t2:=jgc hS hR hF;have iv:=zbk (z:=lead (rowF M) n) (zea (by unfold In64 at d64;omega));have t3:=jdm iv d64;have hca:=hV.closed;have c0:qJ [a]=true:=by simp only[qJ,hca,xQ]
 have cM:AV.closed (matC M)=true:=rfl;have c1:qJ [matC M]=true:=rfl;obtain⟨rows,c,rfl,_,_⟩:=hV.val;refine oF o42 ?_;simp only[c42,r42_0,r42_1,SS,reduceCtorEq,reduceIte];refine zaa t1 ?_ c0;simp only[SS,reduceIte,qQ,qW,qV];simp only[r42_2,SS,reduceIte,qQ];unfold matC at t2 c1 ⊢;refine zaa t2 ?_ c1;simp only[SS,reduceIte,qZ,qQ,qX,qW,qV,intV]at t3 ⊢;simp only[r42_3,SS,reduceIte,qZ,qQ,qX];refine zaa t3 ?_;simp only[SS,reduceIte,qQ,qW,qV];simp only[r42_4,SS,reduceIte,qQ];exact dR
theorem jdn(hV:ImV M a)(hS:Shp n M)(hR:Red n (rowF M)):Rt 45 [a] [] (.int .i64 (lead (rowF M) n)) []:=by
 have h8:=hR.n8;have h1:=hR.n1;have hsl:=hS.len;have hF:=qdb hS hR;obtain⟨d64,_,_⟩:=zpy hR
 obtain⟨d,hd,_⟩:=zpl (B:=BIG) (A0:=180224) (n:=n) (M:=M) (by decide) (by
  have h:FitN 8 BIG 180224:=⟨by decide,by decide +kernel⟩
  exact λk hk=>(h.all (k:=k) (by omega)).2) hS (λi j=>by have:=zla hS hR i j;omega)
 have e:=zgm hS (λt ht=>hR.ne (k:=n) (qE n) t (by omega)) hd;have t1:=mOf hV ⟨h1,by omega⟩ (by omega) (λi hi=>hS.row i (by omega));have t2:=mDet zdj (zly hF) (by omega) (λi hi=>by rw[hsl];exact hS.row i (by omega)) hd;rw[e]at t2;have iv:=zbk (z:=lead (rowF M) n) (zea (by unfold In64 at d64;omega));have t3:=qvg iv d64;have hca:=hV.closed;have c0:qJ [a]=true:=by simp only[qJ,hca,xQ]
 have c1:qJ [matC M]=true:=rfl;obtain⟨rows,c,rfl,_,_⟩:=hV.val;refine oF o45 ?_;simp only[c45,r45_0,r45_1,SS,reduceCtorEq,reduceIte];refine zaa t1 ?_ c0;simp only[SS,reduceIte,qQ];refine zaa t2 ?_ c1;simp only[SS,reduceIte,qQ];refine zaa t3 ?_;simp only[SS,reduceIte,qQ,qW,qV];simp only[r45_2,SS,reduceIte,qQ];exact kR
end
end Go.Proofs.YtpflahgcdgdkjaaGreatDoor
namespace Go.Proofs.YtpflahgcdgdkjaaGreatDoor
open Nat renaming reduceEqDiff -> qQ, reduceLeDiff -> qX, reduceAdd -> qZ, le_refl -> qE, mul_le_mul_left -> xB, eq_zero_or_pos -> xC, add_sub_cancel -> xT, pow_le_pow_right -> yN, pow_pos -> yO, pow_succ -> zV
open List renaming replicate_zero -> qK, getElem?_cons_zero -> qW, getElem?_cons_succ -> qV, append_nil -> qY, mapM_cons -> xE, mapM_nil -> xM
open Int renaming natAbs_natCast -> qC, one_mul -> qG, natCast_mul -> qI, sign_eq_one_of_pos -> xG, mul_one -> xN, reduceLT -> yB, ediv_one -> zY, sub_zero -> zU, gcd_one_left -> zC
open Bool renaming false_eq_true -> zJ
open Go Go.AL Go.Proofs Go.Limb
theorem bitD:∀n:Nat,n<8->∀j:Nat,j<7->((n/2^j)=2*(n/2^(j+1))\/(n/2^j)=2*(n/2^(j+1))+1)/\(IntKind.i64.wrap ((BitVec.ofInt IntKind.i64.bits (n:Int) &&& BitVec.ofInt IntKind.i64.bits ((2^j:Nat):Int)).toNat:Int)≠0↔(n/2^j)=2*(n/2^(j+1))+1):=by decide +kernel
theorem iPow{a n:Nat}{va:AV}(ia:zag (a:Int) va)(ha:1<=a)(hn:n<8)(hb:a^n<18446744073709551616):∃v,zag ((a^n:Nat):Int) v/\Rt 82 [va,.int .i64 (n:Int)] [] (.tup [v,.bool true]) []:=by
 have d1:decide ((n:Int)<0)=false:=dF;have d2:decide (64<(n:Int))=false:=dF;have hle:∀i,i<=n->a^i<18446744073709551616:=λi hi=>Nat.lt_of_le_of_lt (yN ha hi) hb
 obtain⟨o,io,t0⟩:=zue;obtain⟨la,ca,rfl⟩:=ia.shape;obtain⟨lo,co,rfl⟩:=io.shape;refine⟨intV ((a^n:Nat):Int),zbk (zea (by rw[qC];exact hb)),?_⟩;refine oFw o82 ?_;simp only[c82,r82_0,r82_1,↓zcn,SS,fC,reduceCtorEq,reduceIte,qQ,d1,d2];simp only[r82_3,SS];refine zaa t0 ?_;simp only[zay,zad,qK,qY,SS,reduceIte,qZ,qQ,qX];simp only[r82_4,SS]
 refine zaf (λf E H=>∃u v,f<=7/\zag ((a^(n/2^f):Nat):Int) (.agg [u,v])/\H=[some [.bool (decide ((a:Int)<0)),.vec (u32s la) la.length ca],some [.bool false,.vec [] 0 (some 0)],some [u,v]]/\E 1= .int .i64 (n:Int)/\E 2= .ptr 0 0/\E 4= .ptr 1 0/\E 6= .ptr 2 0/\E 7= .int .i64 (if f=0 then 0 else((2^(f-1):Nat):Int))) (n:=7)
  ⟨_,_,qE 7,by rw[show n/2^7=0 from Nat.div_eq_of_lt (by omega),Nat.pow_zero];exact io,by simp only,by simp only[UU,qQ],by simp only[UU,qQ,reduceIte],by simp only[UU,qQ,reduceIte],by simp only[UU,qQ,reduceIte],by simp only[UU,qQ,reduceIte];rfl⟩ ?_
 rintro f E H ⟨u,v,hf,iu,rfl,e1,e2,e4,e6,e7⟩;refine wM ?_;obtain⟨lu,cu,rfl,rfl⟩:=zam iu;cases f with
 |zero=>
  rw[if_pos rfl]at e7;have d0:decide ((0:Int)<0)=false:=rfl;simp only[l82_0,r82_5,SS,fC,reduceCtorEq,reduceIte,qQ,e7,d0];simp only[r82_10,SS,reduceIte,qZ,qQ,qX,e4,e6];have hw:=iu.wk;rw[show n/2^0=n by rw[Nat.pow_zero,Nat.div_one]]at hw ⊢;have hld:ldSz Tryz.prog 40=some (true,2):=by kernel_rfl
  refine⟨.inl trivial,.tup [.agg [.bool (decide (((a^n:Nat):Int)<0)),.vec (u32s lu) lu.length cu],.bool true],_,?_,.drop _ _ rfl (by intro i cs h;omega),?_⟩
  ·simp only[resA,xE,xM,zdv,hld,UU,qQ,reduceIte,e4,zwc,zzn,need];rfl
  ·simp only[AV.wk,AV.wk.wkL]at hw ⊢;rw[hw]
 |succ j=>
  rw[if_neg (by omega),xT]at e7;have h2:0<2^j:=yO (by decide);have d0:decide ((0:Int)<((2^j:Nat):Int))=true:=dT;simp only[l82_0,r82_5,SS,fC,reduceCtorEq,reduceIte,qQ,e7,d0];simp only[r82_6,SS,reduceIte,qZ,qQ,qX,e6];have hsq:((a^(n/2^(j+1)):Nat):Int)*((a^(n/2^(j+1)):Nat):Int)=((a^(2*(n/2^(j+1))):Nat):Int):=by rw[<-qI,<-Nat.pow_add];congr 2;omega
  have h2x:2*(n/2^(j+1))<=n:=by
   have:=Nat.div_mul_le_self n (2^(j+1));have h3:2<=2^(j+1):=by rw[zV];omega
   have:=xB (n/2^(j+1)) h3;omega
  obtain⟨w,iw,tm⟩:=iMul iu iu (by rw[hsq];exact zea (by rw[qC];exact hle _ h2x));rw[hsq]at iw;obtain⟨lw,cw,rfl⟩:=iw.shape;refine zaa tm ?_;simp only[zay,zad,qK,qY,SS,reduceIte,qZ,qQ,qX,e6];simp only[r82_7,SS,reduceIte,qQ,e1,e7];obtain⟨hb1,hb2⟩:=bitD n hn j (by omega)
  have wq:IntKind.i64.wrap (Int.tdiv ((2^j:Nat):Int) 2)=(if j=0 then 0 else((2^(j-1):Nat):Int)):=by
   cases j with
   |zero=>rfl
   |succ j=>
    rw[if_neg (by omega),xT];have:Int.tdiv ((2^(j+1):Nat):Int) 2=((2^(j+1)/2:Nat):Int):=rfl;rw[this,zV,Nat.mul_div_cancel _ (by decide)];have:=yN (n:=2) (by decide) (show j<=7 by omega);generalize 2^j=y at*;exact w64 (by omega) (by omega)
  refine⟨λh=>?_,λh=>?_⟩
  ·have hq:=hb2.1 h;have hm1:((a^(2*(n/2^(j+1))):Nat):Int)*(a:Int)=((a^(n/2^j):Nat):Int):=by rw[<-qI,<-zV,hq]
   obtain⟨w2,iw2,tm2⟩:=iMul iw ia (by rw[hm1];exact zea (by rw[qC];exact hle _ (Nat.div_le_self _ _)));rw[hm1]at iw2;obtain⟨lw2,cw2,rfl⟩:=iw2.shape;simp only[r82_8,SS,reduceIte,qZ,qQ,qX,e2,e6];refine zaa tm2 ?_;simp only[zay,zad,qK,qY,SS,reduceIte,qZ,qQ,qX,e6];simp only[r82_9,SS,reduceIte,qQ,e7,wq];refine⟨by decide,j,_,_,by omega,⟨_,_,by omega,iw2,rfl,?_,?_,?_,?_,?_⟩,.refl⟩<;>simp only[UU,qQ,reduceIte, *]
  ·have hq:n/2^j=2*(n/2^(j+1)):=by
    rcases hb1 with e | e
    ·exact e
    ·exact absurd (hb2.2 e) h
   rw[<-hq]at iw;simp only[r82_9,SS,reduceIte,qQ,e7,wq];refine⟨by decide,j,_,_,by omega,⟨_,_,by omega,iw,rfl,?_,?_,?_,?_,?_⟩,.refl⟩<;>simp only[UU,qQ,reduceIte, *]
theorem zjs{x:Int}(h:x.natAbs<18446744073709551616):Low x 1:=⟨by decide,h,by decide,by simp⟩
theorem jdo{a s:Nat}{v:AV}(iv:zbb (a:Int) 1 v)(ha:1<=a)(hs:s<8)(hb:a^s<18446744073709551616)(ha':a<18446744073709551616)(neg:Bool)(hn:neg=true->0<s):
  ∃w,(if neg then zbb 1 ((a^s:Nat):Int) w else zbb ((a^s:Nat):Int) 1 w)/\Rt 36 [v,.int .i64 (if neg then -(s:Int)else s)] [] (.tup [w,.bool true]) []:=by
 have hp:0<a^s:=yO (by omega);obtain⟨w,iw,tc⟩:=zdd iv (zjs (by rw[qC];exact ha'));have ts:=qsf iw;rw[xG (by omega)]at ts;obtain⟨l1,c1,l2,c2,rfl,_,_⟩:=iv.shape;obtain⟨l3,c3,l4,c4,rfl,p1,p2⟩:=iw.shape;obtain⟨u1,q1,t1⟩:=iPow p1 ha hs hb;obtain⟨u2,q2,t2⟩:=iPow (a:=1) p2 (by decide) hs (by rw[Nat.one_pow];decide);rw[Nat.one_pow]at q2;have hld:ldSz Tryz.prog 42=some (true,4):=by kernel_rfl
 have d2:decide (64<(if neg then -(s:Int)else s))=false:=decide_eq_false (by split<;>omega);have d1:decide ((if neg then -(s:Int)else s)< -64)=false:=decide_eq_false (by split<;>omega);cases neg with
 |true=>
  have h0:=hn rfl;simp only[if_true]at d1 d2 ⊢;have d3:decide (-(s:Int)<0)=true:=dT;have wn:IntKind.i64.wrap (0 - -(s:Int))=(s:Int):=wQ (by omega);obtain⟨r,ir,t3⟩:=zkv q2 q1 (Int.natCast_pos.2 hp) (by decide) (by rw[qC];exact hb);rw[show numR ((1:Nat):Int) ((a^s:Nat):Int)=1 by unfold numR;rw[n1,zC];rfl,show denR ((1:Nat):Int) ((a^s:Nat):Int)=((a^s:Nat):Int) by unfold denR;rw[n1,zC];exact zY _]at ir;obtain⟨_,_,rfl⟩:=q1.shape;obtain⟨_,_,rfl⟩:=q2.shape;obtain⟨_,_,_,_,rfl,_,_⟩:=ir.shape;refine⟨_,ir,?_⟩;refine oF o36 ?_;simp only[c36,r36_0,r36_1,SS,reduceCtorEq,reduceIte,qZ,qQ,qX];refine zaa tc ?_;simp only[zay,zad,qK,qY,SS,reduceIte,qZ,qQ,qX];simp only[r36_2,↓zcn,SS,reduceIte,qZ,qQ,qX,d1,d2,d3];refine zaa ts ?_;simp only[zay,zad,qK,qY,SS,fC,reduceIte,qQ];refine⟨λh=>absurd h (by decide),λ_=>?_⟩;simp only[r36_4,SS,reduceIte,qZ,qQ,qX];refine⟨rfl,?_⟩;simp only[r36_5,SS,fC,reduceIte,qQ,d3];simp only[r36_6,SS,reduceIte,qZ,qQ,qX,wn];refine⟨rfl,?_⟩;simp only[r36_7,SS,reduceIte,qZ,qQ,qX];refine zaa t2 ?_;simp only[zay,zad,qK,qY,SS,reduceIte,qZ,qQ,qX,qW,qV];simp only[r36_8,SS,reduceIte,qZ,qQ,qX];refine zaa t1 ?_;simp only[zay,zad,qK,qY,SS,reduceIte,qZ,qQ,qX,qW,qV];simp only[r36_9,SS,reduceIte,qZ,qQ,qX];refine zaa t3 ?_;simp only[zay,zad,qK,qY,SS,reduceIte,qZ,qQ,qX];refine⟨.inl trivial,.tup [.agg [.bool (decide ((1:Int)<0)),.vec _ _ _,.bool (decide (((a^s:Nat):Int)<0)),.vec _ _ _],.bool true],?_,.drop _ _ rfl (by intro i cs h;omega)⟩;simp only[resA,xE,xM,zdv,hld,UU,qQ,reduceIte,zwc,zzn,need];rfl
 |false=>
  simp only[zJ,if_false]at d1 d2 ⊢;have d3:decide ((s:Int)<0)=false:=dF;obtain⟨r,ir,t3⟩:=zkv q1 q2 (by decide) (by rw[qC];exact hb) (by decide);have lo:=zjs (x:=((a^s:Nat):Int)) (by rw[qC];exact hb);rw[n1,lo.num,lo.den]at ir;rw[n1]at q2;obtain⟨_,_,rfl⟩:=q1.shape;obtain⟨_,_,rfl⟩:=q2.shape;obtain⟨_,_,_,_,rfl,_,_⟩:=ir.shape;refine⟨_,ir,?_⟩;refine oF o36 ?_;simp only[c36,r36_0,r36_1,SS,reduceCtorEq,reduceIte,qZ,qQ,qX];refine zaa tc ?_;simp only[zay,zad,qK,qY,SS,reduceIte,qZ,qQ,qX];simp only[r36_2,↓zcn,↓zki,SS,fC,reduceIte,qQ,d1,d2,d3];simp only[r36_4,SS,reduceIte,qZ,qQ,qX];refine⟨rfl,?_⟩;simp only[r36_5,SS,fC,reduceIte,qQ,d3];simp only[r36_7,SS,reduceIte,qZ,qQ,qX];refine zaa t1 ?_;simp only[zay,zad,qK,qY,SS,reduceIte,qZ,qQ,qX,qW,qV];simp only[r36_8,SS,reduceIte,qZ,qQ,qX];refine zaa t2 ?_;simp only[zay,zad,qK,qY,SS,reduceIte,qZ,qQ,qX,qW,qV];simp only[r36_9,SS,reduceIte,qZ,qQ,qX];refine zaa t3 ?_;simp only[zay,zad,qK,qY,SS,reduceIte,qZ,qQ,qX];refine⟨.inl trivial,.tup [.agg [.bool (decide (((a^s:Nat):Int)<0)),.vec _ _ _,.bool (decide ((1:Int)<0)),.vec _ _ _],.bool true],?_,.drop _ _ rfl (by intro i cs h;omega)⟩;simp only[resA,xE,xM,zdv,hld,UU,qQ,reduceIte,zwc,zzn,need];rfl
theorem jdp{n d:Int}{a b:AV}(h1:zbb n d a)(h2:zbb n d b)(lo:Low n d)(hb:(n*d).natAbs<BIG):Rt 20 [a,b] [] (.int .i64 0) []:=by
 obtain⟨w1,j1,t1⟩:=zdd h1 lo;obtain⟨w2,j2,t2⟩:=zdd h2 lo;have s1:=qsf j1;have s2':=qsf j2;obtain⟨_,_,_,_,rfl,_,_⟩:=h1.shape;obtain⟨_,_,_,_,rfl,_,_⟩:=h2.shape;obtain⟨l1,c1,l2,c2,rfl,p1,p2⟩:=j1.shape;obtain⟨l3,c3,l4,c4,rfl,p3,p4⟩:=j2.shape;obtain⟨u1,q1,m1⟩:=iMul p1 p4 hb;obtain⟨u2,q2,m2⟩:=iMul p3 p2 hb;have t4:=jfj q1 q2;obtain⟨_,_,rfl⟩:=q1.shape;obtain⟨_,_,rfl⟩:=q2.shape;have ds:decide (n.sign<n.sign)=false:=dF;refine oF o20 ?_;simp only[c20,r20_0,SS,reduceCtorEq,reduceIte,qQ];simp only[r20_1,SS];simp only[r20_2,SS,reduceIte,qZ,qQ,qX];refine zaa t1 ?_;simp only[SS,reduceIte,qZ,qQ,qX];refine zaa t2 ?_;simp only[SS,reduceIte,qZ,qQ,qX];refine⟨rfl,?_⟩;simp only[r20_3,SS,reduceIte,qZ,qQ,qX];refine⟨49,[],rfl,by kernel_rfl,zaa s1 ?_⟩;simp only[SS,reduceIte,qZ,qQ,qX];refine⟨49,[],rfl,by kernel_rfl,zaa s2' ?_⟩;simp only[SS,reduceIte,qQ];refine⟨rfl,?_⟩;simp only[r20_4,SS,fC,reduceIte,qQ,ds];simp only[r20_6,SS,fC,reduceIte,qQ,ds];simp only[r20_8,SS,reduceIte,qZ,qQ,qX];refine zaa m1 ?_;simp only[SS,reduceIte,qZ,qQ,qX];refine zaa m2 ?_;simp only[SS,reduceIte,qQ];refine zaa t4 ?_;simp only[SS,reduceIte,qQ];refine⟨rfl,?_⟩;exact⟨.inl trivial,_,rfl,.freeze 1 _ _ _ rfl (by intro i cs h;omega)⟩
theorem qzx{a s:Nat}(ha:1<=a)(hs:s<8)(hb:a^s<9223372036854775808)(ha':a<9223372036854775808)(neg:Bool)(hn:neg=true->0<s):
  ∃w,(if neg then zbb 1 ((a^s:Nat):Int) w else zbb ((a^s:Nat):Int) 1 w)/\Rt 96 [.int .i64 (a:Int),.int .i64 (if neg then -(s:Int)else s)] [] w []:=by
 obtain⟨v,iv,t1⟩:=zpr (a:Int) (by omega) (by omega);obtain⟨w,iw,t2⟩:=jdo iv ha hs (by omega) (by omega) neg hn;obtain⟨_,_,_,_,rfl,_,_⟩:=iv.shape
 have hsh:∃x1 l1 k1 c1 x2 l2 k2 c2,w= .agg [.bool x1,.vec (u32s l1) k1 c1,.bool x2,.vec (u32s l2) k2 c2]:=by
  cases neg with
  |true=>simp only[if_true]at iw;obtain⟨_,_,_,_,rfl,_,_⟩:=iw.shape;exact⟨_,_,_,_,_,_,_,_,rfl⟩
  |false=>simp only[zJ,if_false]at iw;obtain⟨_,_,_,_,rfl,_,_⟩:=iw.shape;exact⟨_,_,_,_,_,_,_,_,rfl⟩
 obtain⟨_,_,_,_,_,_,_,_,rfl⟩:=hsh;refine⟨_,iw,?_⟩;refine oF o96 ?_;simp only[c96,r96_0,SS,reduceCtorEq];simp only[r96_1,SS,reduceCtorEq,reduceIte,qQ];refine zaa t1 ?_;simp only[SS,reduceIte,qQ,decide_false,yB];refine zaa t2 ?_;simp only[SS,reduceIte,qZ,qQ,qX,qW,qV];simp only[r96_2,SS,reduceIte,qZ,qQ,qX];exact dR
theorem qmo{P:Nat}{c:Int}(hP:0<P)(hb:P<9223372036854775808)(hc:c=0\/c=1\/c= -1):∃m e:Int,numR (c*1) (1*(P:Int))=m/\denR (c*1) (1*(P:Int))=e/\Low m e/\numR (1*e+ -m*1) (1*e)=numR ((P:Nat)-c) (P:Int)/\denR (1*e+ -m*1) (1*e)=denR ((P:Nat)-c) (P:Int)/\(1*e+ -m*1).natAbs<18446744073709551616/\e.natAbs<18446744073709551616/\m.natAbs<18446744073709551616:=by
 have hs1:(P:Int)/(P:Int)=1:=Int.ediv_self (by omega);rcases hc with rfl | hc
 ·refine⟨0,1,by simp[numR],by simp[denR,hs1],zjs (by decide),?_,?_,by decide,by decide,by decide⟩
  ·rw[zU];unfold numR;rw[Int.gcd_self,qC,hs1];rfl
  ·rw[zU];unfold denR;rw[Int.gcd_self,qC,hs1];rfl
 ·have hg:Int.gcd c (P:Int)=1:=by rcases hc with rfl | rfl<;>simp
  have e1:1*(P:Int)+ -c*1=(P:Int)-c:=by omega
  refine⟨c,P,by rw[xN,qG];unfold numR;rw[hg];exact zY _,by rw[xN,qG];unfold denR;rw[hg];exact zY _,⟨by omega,by omega,by omega,hg⟩,by rw[e1,qG],by rw[e1,qG],by omega,by omega,by omega⟩
theorem qdc{p s:Nat}{c:Int}(hp:1<=p)(hs:s<8)(hb:p^s<9223372036854775808)(hp':p<9223372036854775808)(hc:c=0\/c=1\/c= -1):
  ∃r,zbb (numR ((p^s:Nat)-c) ((p^s:Nat):Int)) (denR ((p^s:Nat)-c) ((p^s:Nat):Int)) r/\Rt 44 [.int .i64 (p:Int),.int .i64 c,.int .i64 (s:Int)] [] r []:=by
 have hP:0<p^s:=yO (by omega);generalize hPe:p^s=P at*;obtain⟨o,io,t1⟩:=zpr 1 (by decide) (by decide);obtain⟨w,iw,t2⟩:=zpr c (by omega) (by omega);obtain⟨x,ix',t3⟩:=qzx (a:=p) (s:=s) hp hs (by rw[hPe];exact hb) hp' (decide (0<s)) (by simp)
 have ix:zbb 1 (P:Int) x:=by
  rcases xC s with h | h
  ·subst h;have:P=1:=by rw[<-hPe];rfl
   subst this;simpa[hPe]using ix'
  ·simpa[hPe,h]using ix'
 have e3:(if decide (0<s)=true then -(s:Int)else s)= -(s:Int):=by
  by_cases h:0<s
  ·simp[h]
  ·have:s=0:=by omega
   subst this;rfl
 rw[e3]at t3;have loP:Low 1 (P:Int):=⟨by omega,by decide,by omega,by simp⟩
 obtain⟨y,iy,t4⟩:=jfp iw ix (zjs (by omega)) loP (by omega) (by omega);obtain⟨m,e,em,ee,lo,en,ed,b1,b2,b3⟩:=qmo hP hb hc;rw[em,ee]at iy;obtain⟨r,ir,t5⟩:=jfs io iy (zjs (by decide)) lo b1 (by rw[qG];exact b2) (zea (by rw[qG];exact b2)) (zea (by rw[xN,Int.natAbs_neg];exact b3));rw[en,ed]at ir;have wn:IntKind.i64.wrap (0-(s:Int))= -(s:Int):=wQ (by omega);obtain⟨_,_,_,_,rfl,_,_⟩:=io.shape;obtain⟨_,_,_,_,rfl,_,_⟩:=iw.shape;obtain⟨_,_,_,_,rfl,_,_⟩:=ix.shape;obtain⟨_,_,_,_,rfl,_,_⟩:=iy.shape;obtain⟨_,_,_,_,rfl,_,_⟩:=ir.shape;refine⟨_,ir,?_⟩;refine oF o44 ?_;simp only[c44,r44_0,SS,reduceCtorEq];simp only[r44_1,SS];refine zaa t1 ?_;simp only[SS,reduceIte,qQ,decide_false,yB];refine zaa t2 ?_;simp only[SS,reduceCtorEq,reduceIte,qQ,decide_false,yB,wn];refine zaa t3 ?_;simp only[SS,reduceIte,qQ,decide_false,yB];refine zaa t4 ?_;simp only[SS,reduceIte,qQ];refine zaa t5 ?_;simp only[SS,reduceIte,qZ,qQ,qX];exact dR
end Go.Proofs.YtpflahgcdgdkjaaGreatDoor
namespace Go.Proofs.YtpflahgcdgdkjaaGreatDoor
open Nat renaming reduceEqDiff -> qQ, reduceLeDiff -> qX, reduceAdd -> qZ, le_refl -> qE, dvd_of_mod_eq_zero -> qO, lt_or_ge -> xZ, mul_le_mul -> xY, add_sub_cancel -> xT, mul_le_mul_right -> yP
open Int renaming toNat_natCast -> qB, natCast_mul -> qI, emod_nonneg -> qL, emod_lt_of_pos -> xJ
open Go Go.AL Go.Proofs
noncomputable section
def q6:=V (RS Tryz.f6=·)
def r6_0:=X q6 0
def r6_1:=X q6 1
def r6_2:=X q6 2
def r6_3:=X q6 3
def r6_4:=X q6 4
def r6_5:=X q6 5
def r6_6:=X q6 6
def r6_7:=X q6 7
def r6_8:=X q6 8
def l6_0:CC:=(.seq (rN r6_4) (.seq (.cond (.t 11) .skip (.exit 0)) (.seq (.block 1 (.seq (rN r6_5) (.seq (rN r6_6) (.cond (.t 16) (.seq (rN r6_7) .ret) .skip)))) (rN r6_8))))
def r6_9:=X q6 9
def c6:CC:=(.seq (rN r6_0) (.seq (.seq (rN r6_1) (.cond (.t 7) (.seq (rN r6_2) .ret) .skip)) (.seq (.seq (rN r6_3) (.block 0 (.loop l6_0))) (.seq (rN r6_9) .ret))))
theorem o6:FnI 6 18 Tryz.f6 c6 [.tmp 2]:=oM Tryz.func6
def q9:=V (RS Tryz.f9=·)
def r9_0:=X q9 0
def r9_1:=X q9 1
def r9_2:=X q9 2
def c9:CC:=(.seq (rN r9_0) (.seq (rN r9_1) (.seq (rN r9_2) .ret)))
theorem o9:FnI 9 13 Tryz.f9 c9 [.tmp 2]:=oM Tryz.func9
def q12:=V (RS Tryz.f12=·)
def q13:=V (RS Tryz.f13=·)
def r30_0:RL:=[oP 2 (.mov (.k (.bool false)))]
def r30_1:RL:=[mV 3 0,bK 4 .leq 3 9973,mV 5 4,gU 6 5 true (.mov (.t 0)),gU 7 5 true (.call 74 [.t 6]),oP 8 (.pick (.t 5) (.t 7) (.k (.bool false))),mV 2 8]
def c30:CC:=(.seq (rN r30_0) (.seq (rN r30_1) .ret))
theorem o30:FnI 30 9 Tryz.f30 c30 [.tmp 2]:=oM Tryz.func30
def q31:=V (RS Tryz.f31=·)
def q32:=V (RS Tryz.f32=·)
def q74:=V (RS Tryz.f74=·)
def r74_0:=X q74 0
def r74_1:=X q74 1
def r74_2:=X q74 2
def r74_3:=X q74 3
def r74_4:=X q74 4
def r74_5:=X q74 5
def r74_6:=X q74 6
def r74_7:=X q74 7
def l74_0:CC:=(.seq (.seq (rN r74_4) (.cond (.t 14) .skip (.exit 0))) (.seq (.block 1 (.seq (rN r74_5) (.cond (.t 20) (.seq (rN r74_6) .ret) .skip))) (rN r74_7)))
def r74_8:=X q74 8
def c74:CC:=(.seq (rN r74_0) (.seq (.seq (rN r74_1) (.cond (.t 9) (.seq (rN r74_2) .ret) .skip)) (.seq (.seq (rN r74_3) (.block 0 (.loop l74_0))) (.seq (rN r74_8) .ret))))
theorem o74:FnI 74 21 Tryz.f74 c74 [.tmp 2]:=oM Tryz.func74
def r75_0:RL:=[oP 4 (.mov (kI 0))]
def r75_1:RL:=[mV 6 0,mV 7 1,bT 8 .rem 6 7,mV 5 8]
def r75_2:RL:=[mV 9 5,bK 10 .lss 9 0]
def r75_3:RL:=[mV 11 5,mV 12 1,bT 13 .add 11 12,mV 5 13]
def r75_4:RL:=[mV 14 5,mV 4 14]
def c75:CC:=(.seq (rN r75_0) (.seq (rN r75_1) (.seq (.seq (rN r75_2) (.cond (.t 10) (rN r75_3) .skip)) (.seq (rN r75_4) .ret))))
theorem o75:FnI 75 15 Tryz.f75 c75 [.tmp 4]:=oM Tryz.func75
def q138:=V (RS Tryz.f138=·)
def r138_0:=X q138 0
def r138_1:=X q138 1
def r138_2:=X q138 2
def r138_3:=X q138 3
def r138_4:=X q138 4
def r138_5:=X q138 5
def r138_6:=X q138 6
def l138_0:CC:=(.seq (rN r138_2) (.seq (.cond (.t 12) .skip (.exit 0)) (.seq (.block 1 (.seq (rN r138_3) (.seq (rN r138_4) (.cond (.t 17) (.seq (rN r138_5) .ret) .skip)))) (rN r138_6))))
def r138_7:=X q138 7
def r138_8:=X q138 8
def r138_9:=X q138 9
def r138_10:=X q138 10
def r138_11:=X q138 11
def r138_12:=X q138 12
def r138_13:=X q138 13
def r138_14:=X q138 14
def r138_15:=X q138 15
def r138_16:=X q138 16
def l138_2:CC:=(.seq (rN r138_10) (.seq (.cond (.t 25) .skip (.exit 4)) (.seq (.block 5 (.seq (rN r138_11) (.seq (rN r138_12) (.seq (.seq (rN r138_13) (.cond (.t 34) (.exit 2) .skip)) (.seq (rN r138_14) (.cond (.t 38) (.seq (rN r138_15) (.exit 2)) .skip)))))) (rN r138_16))))
def r138_17:=X q138 17
def l138_1:CC:=(.seq (.block 3 (.seq (rN r138_9) (.block 4 (.loop l138_2)))) (rN r138_17))
def r138_18:=X q138 18
def c138:CC:=(.seq (rN r138_0) (.scope (.seq (.seq (rN r138_1) (.block 0 (.loop l138_0))) (.seq (rN r138_7) (.seq (.label 0) (.seq (.seq (rN r138_8) (.block 2 (.loop l138_1))) (.seq (rN r138_18) .ret)))))))
theorem o138:FnI 138 42 Tryz.f138 c138 [.tmp 2]:=oM Tryz.func138
end
def LF(n l:Nat):Prop:=(l=n/\∀d,2<=d->d*d<=n->n%d≠0)\/(2<=l/\l*l<=n/\n%l=0/\∀d,2<=d->d<l->n%d≠0)
def Prm(n:Nat):Prop:=2<=n/\∀d,2<=d->d*d<=n->n%d≠0
theorem LF.uniq{n l l':Nat}(h:LF n l)(h':LF n l'):l=l':=by
 rcases h with⟨rfl,h⟩ | ⟨h1,h2,h3,h4⟩
 ·rcases h' with⟨rfl,h'⟩ | ⟨g1,g2,g3,g4⟩
  ·rfl
  ·exact absurd g3 (h _ g1 g2)
 ·rcases h' with⟨rfl,h'⟩ | ⟨g1,g2,g3,g4⟩
  ·exact absurd h3 (h' _ h1 h2)
  ·rcases Nat.lt_trichotomy l l' with e | e | e
   ·exact absurd h3 (g4 l h1 e)
   ·exact e
   ·exact absurd g3 (h4 l' g1 e)
theorem LF.ex(n:Nat):∃l,LF n l:=by
 by_cases h:∃d,2<=d/\d*d<=n/\n%d=0
 ·have key:∀k d,d<=k->(2<=d/\d*d<=n/\n%d=0)->∃l,LF n l:=by
   intro k
   induction k with
   |zero=>intro d hd h;omega
   |succ k ih=>
    intro d hd h;by_cases h2:∃d',2<=d'/\d'<d/\n%d'=0
    ·obtain⟨d',a,b,c⟩:=h2;exact ih d' (by omega) ⟨a,Nat.le_trans (xY (by omega) (by omega)) h.2.1,c⟩
    ·exact⟨d,.inr ⟨h.1,h.2.1,h.2.2,λd' a b c=>h2 ⟨d',a,b,c⟩⟩⟩
  obtain⟨d,hd⟩:=h;exact key d d (qE _) hd
 ·exact⟨n,.inl ⟨rfl,λd a b c=>h ⟨d,a,b,c⟩⟩⟩
theorem LF.prm{n l:Nat}(hn:2<=n)(h:LF n l):l=n↔Prm n:=by
 constructor
 ·rintro rfl;rcases h with⟨_,h⟩ | ⟨h1,h2,_,_⟩
  ·exact⟨hn,h⟩
  ·have:=yP l h1;omega
 ·intro hp;rcases h with⟨h,_⟩ | ⟨h1,h2,h3,_⟩
  ·exact h
  ·exact absurd h3 (hp.2 l h1 h2)
def off(j:Nat):Nat:=[7,11,13,17,19,23,29,31,37].getD j 0
theorem jdq:∀j,j<8->∀e,e<37->off j<e->e<off (j+1)->e%2=0\/e%3=0\/e%5=0:=by decide
theorem qmp:∀j,j<9->7<=off j/\off j<=37:=by decide
theorem jgd{k j d:Nat}(hj:j<8)(h1:30*k+off j<d)(h2:d<30*k+off (j+1)):d%2=0\/d%3=0\/d%5=0:=by
 obtain⟨e,rfl⟩:∃e,d=30*k+e:=⟨d-30*k,by omega⟩
 have:=qmp (j+1) (by omega);have:=jdq j hj e (by omega) (by omega) (by omega);omega
theorem jdr{j:Nat}(hj:j<9):7<=off j/\off j<=37:=qmp j hj
theorem qmq{n d q:Nat}(h:n%d=0)(hq:d%q=0):n%q=0:=Nat.mod_eq_zero_of_dvd (Nat.dvd_trans (qO hq) (qO h))
theorem qsq{n d:Nat}(h2:n%2≠0)(h3:n%3≠0)(h5:n%5≠0)(h:d%2=0\/d%3=0\/d%5=0):n%d≠0:=by
 intro e;rcases h with h | h | h
 ·exact h2 (qmq e h)
 ·exact h3 (qmq e h)
 ·exact h5 (qmq e h)
theorem qzy{d D n:Nat}(h:n<D*D)(hd:d*d<=n):d<D:=by
 rcases xZ d D with e | e
 ·exact e
 ·have:=xY e e;omega
def offA:List AV:=[.int .i64 7,.int .i64 11,.int .i64 13,.int .i64 17,.int .i64 19,.int .i64 23,.int .i64 29,.int .i64 31]
theorem qsr{j:Nat}(hj:j<8):offA.getD j .junk= .int .i64 (off j:Int):=by
 rcases(by omega:j=0\/j=1\/j=2\/j=3\/j=4\/j=5\/j=6\/j=7)with rfl | rfl | rfl | rfl | rfl | rfl | rfl | rfl<;>rfl
theorem qzz{n l:Nat}(hn:2<=n)(hn2:n<=2147483647)(hl:LF n l):Rt 138 [.int .i64 (n:Int)] [] (.int .i64 (l:Int)) []:=by
 refine oF o138 ?_;simp only[c138,r138_0,SS];refine qbn (wM ?_);simp only[r138_1,SS,reduceCtorEq,qZ,qX]
 refine zaf (λm E H=>∃i:Nat,i+m=3/\H=[]/\E 0= .int .i64 (n:Int)/\E 10= .agg [.int .i64 2,.int .i64 3,.int .i64 5]/\E 11= .int .i64 (i:Int)/\(0<i->n%2≠0)/\(1<i->n%3≠0)/\(2<i->n%5≠0)) (n:=3)
  ⟨0,rfl,rfl,by simp only[UU,qQ],by simp only[UU,qQ,reduceIte],by simp only[UU,qQ,reduceIte];rfl,λh=>absurd h (by omega),λh=>absurd h (by omega),λh=>absurd h (by omega)⟩ ?_
 rintro m E H ⟨i,him,rfl,e0,e10,e11,k2,k3,k5⟩;refine wM ?_;have er:∀q:Nat,Int.tmod (n:Int) (q:Int)=((n%q:Nat):Int):=λq=>rfl
 simp only[l138_0,r138_2,SS,reduceCtorEq,reduceIte,e11];refine⟨λhlt=>?_,λhge=>?_⟩
 ·obtain⟨q,hq,hi⟩:∃q:Nat,([AV.int .i64 2,.int .i64 3,.int .i64 5]:List AV).getD i .junk= .int .i64 (q:Int)/\(i=0/\q=2\/i=1/\q=3\/i=2/\q=5):=by
   rcases(by omega:i=0\/i=1\/i=2)with rfl | rfl | rfl
   ·exact⟨2,rfl,by omega⟩
   ·exact⟨3,rfl,by omega⟩
   ·exact⟨5,rfl,by omega⟩
  have w5:=wS1 i (by omega);simp only[r138_3,r138_4,SS,fC,reduceCtorEq,reduceIte,qZ,qQ,qX,e0,e10,e11,hq,qB,er];refine⟨⟨by omega,by omega,by omega⟩,by omega,λh0=>?_,λh0=>?_⟩
  ·have hlq:l=q:=by
    refine LF.uniq hl ?_;rcases(by omega:q*q<=n\/n<q*q)with h | h
    ·refine .inr ⟨by omega,h,by omega,λd hd hdq=>?_⟩;rcases hi with⟨rfl,rfl⟩ | ⟨rfl,rfl⟩ | ⟨rfl,rfl⟩
     ·omega
     ·rcases(by omega:d=2)with rfl;exact k2 (by omega)
     ·rcases(by omega:d=2\/d=3\/d=4)with rfl | rfl | rfl
      ·exact k2 (by omega)
      ·exact k3 (by omega)
      ·have:=k2 (by omega);omega
    ·refine .inl ⟨?_,λd hd hdn=>?_⟩
     ·rcases hi with⟨rfl,rfl⟩ | ⟨rfl,rfl⟩ | ⟨rfl,rfl⟩
      ·omega
      ·have:=k2 (by omega);omega
      ·have:=k2 (by omega);have:=k3 (by omega);omega
     ·have hdq:=qzy h hdn;rcases hi with⟨rfl,rfl⟩ | ⟨rfl,rfl⟩ | ⟨rfl,rfl⟩
      ·omega
      ·rcases(by omega:d=2)with rfl;exact k2 (by omega)
      ·rcases(by omega:d=2\/d=3\/d=4)with rfl | rfl | rfl
       ·exact k2 (by omega)
       ·exact k3 (by omega)
       ·have:=k2 (by omega);omega
   subst hlq;simp only[r138_5,SS,reduceIte,qQ];refine⟨λ_=>by simp,?_⟩;exact kR
  ·simp only[r138_6,SS,reduceIte,qQ,e11,w5];refine⟨m-1,_,_,by omega,⟨i+1,by omega,rfl,?_,?_,?_,λh=>?_,λh=>?_,λh=>?_⟩,.refl⟩
   ·simp only[UU,qQ,e0]
   ·simp only[UU,qQ,e10]
   ·simp only[UU,qQ,reduceIte]
   ·rcases hi with⟨rfl,rfl⟩ | ⟨rfl,rfl⟩ | ⟨rfl,rfl⟩
    ·omega
    ·exact k2 (by omega)
    ·exact k2 (by omega)
   ·rcases hi with⟨rfl,rfl⟩ | ⟨rfl,rfl⟩ | ⟨rfl,rfl⟩
    ·omega
    ·omega
    ·exact k3 (by omega)
   ·rcases hi with⟨rfl,rfl⟩ | ⟨rfl,rfl⟩ | ⟨rfl,rfl⟩<;>omega
 ·have hi3:i=3:=by omega
  subst hi3;have k2:=k2 (by omega);have k3:=k3 (by omega);have k5:=k5 (by omega);simp only[r138_7,r138_8,SS,reduceCtorEq,reduceIte,qQ,e0]
  refine zaf (λm E H=>∃k:Nat,k+m=1600/\H=[]/\E 0= .int .i64 (n:Int)/\E 5= .int .i64 (n:Int)/\E 6= .int .i64 ((30*k:Nat):Int)/\(∀d,2<=d->d<30*k+7->n%d≠0)/\(k=0\/(30*k+1)*(30*k+1)<=n)) (n:=1600)
   ⟨0,rfl,rfl,by simp only[UU,qQ,e0],by simp only[UU,qQ,reduceIte],by simp only[UU,qQ,reduceIte];rfl,λd hd hd7=>?_,.inl rfl⟩ ?_
  ·rcases(by omega:d=2\/d=3\/d=4\/d=5\/d=6)with rfl | rfl | rfl | rfl | rfl<;>omega
  clear e0 e10 e11 E;rintro m E H ⟨k,hkm,rfl,e0,e5,e6,hd,hsq⟩;refine wM ?_
  have hk:k<=1545:=by
   rcases hsq with h | h
   ·omega
   ·rcases xZ 1545 k with h2 | h2
    ·have:=xY (show 46381<=30*k+1 by omega) (show 46381<=30*k+1 by omega);omega
    ·exact h2
  simp only[l138_1,r138_9,SS,qZ,qQ,qX]
  refine zaf (λq E H=>∃j:Nat,j+q=8/\H=[]/\E 0= .int .i64 (n:Int)/\E 5= .int .i64 (n:Int)/\E 6= .int .i64 ((30*k:Nat):Int)/\E 23= .agg offA/\E 24= .int .i64 (j:Int)/\(∀d,2<=d->d<30*k+off j->n%d≠0)/\(j=0\/(30*k+off (j-1))*(30*k+off (j-1))<=n)) (n:=8)
   ⟨0,rfl,rfl,by simp only[UU,qQ,e0],by simp only[UU,qQ,e5],by simp only[UU,qQ,e6],by simp only[UU,qQ,reduceIte];rfl,by simp only[UU,qQ,reduceIte];rfl,hd,.inl rfl⟩ ?_
  rintro q E H ⟨j,hjq,rfl,e0,e5,e6,e23,e24,hd,hsqj⟩;refine wM ?_;simp only[l138_2,r138_10,SS,reduceCtorEq,reduceIte,qQ,e24];refine⟨λhlt=>?_,λhge=>?_⟩
  ·have hj:j<8:=by omega
   obtain⟨q,rfl⟩:∃q',q=q'+1:=⟨q-1,by omega⟩
   have ho:=jdr (j:=j) (by omega);have hg:=qsr hj;have hol:offA.length=8:=rfl;generalize hD:30*k+off j=D at*;have wd:IntKind.i64.wrap (((30*k:Nat):Int)+(off j:Int))=(D:Int):=wQ (by omega);have hDD:D*D<=46390*46390:=xY (by omega) (by omega);have wq:IntKind.i64.wrap ((D:Int)*(D:Int))=((D*D:Nat):Int):=by rw[<-qI];exact w64 (by omega) (by omega)
   have w5:=wS1 j (by omega);have erD:=er D;simp only[r138_11,r138_12,r138_13,SS,fC,reduceCtorEq,reduceIte,qQ,qX,e0,e6,e23,e24,hg,hol,qB,wd,wq];refine⟨⟨by omega,by omega,by omega⟩,λhgt=>?_,λhng=>?_⟩
   ·have hln:l=n:=LF.uniq hl (.inl ⟨rfl,λd h2 hdn=>hd d h2 (qzy (by omega) hdn)⟩);subst hln;simp only[r138_18,SS,reduceIte,qQ,e5];refine⟨λ_=>by simp,?_⟩;exact kR
   ·have hD0:(D:Int)≠0:=by omega
    simp only[r138_14,SS,reduceCtorEq,reduceIte,qQ,e0,erD];refine⟨hD0,λh0=>?_,λh0=>?_⟩
    ·have hlD:l=D:=LF.uniq hl (.inr ⟨by omega,by omega,by omega,hd⟩);subst hlD;simp only[r138_15,r138_18,SS,reduceIte,qQ];refine⟨λ_=>by simp,?_⟩;exact kR
    ·simp only[r138_16,SS,reduceIte,qQ,e24,w5];refine⟨q,_,_,by omega,⟨j+1,by omega,rfl,?_,?_,?_,?_,?_,λd h2 hlt=>?_,.inr ?_⟩,.refl⟩
     ·simp only[UU,qQ,e0]
     ·simp only[UU,qQ,e5]
     ·simp only[UU,qQ,e6]
     ·simp only[UU,qQ,e23]
     ·simp only[UU,qQ,reduceIte]
     ·rcases(by omega:d<D\/d=D\/D<d)with h | h | h
      ·exact hd d h2 h
      ·subst h;omega
      ·exact qsq k2 k3 k5 (jgd hj (by omega) hlt)
     ·rw[xT,hD];omega
  ·have hj8:j=8:=by omega
   subst hj8;obtain⟨m,rfl⟩:∃m',m=m'+1:=⟨m-1,by omega⟩
   have e31:off (8-1)=31:=rfl;have e37:off 8=37:=rfl;rw[e31]at hsqj;rw[e37]at hd;have w30:IntKind.i64.wrap (((30*k:Nat):Int)+30)=((30*(k+1):Nat):Int):=wQ (by omega);simp only[r138_17,SS,reduceIte,qQ,e6,w30];refine⟨m,_,_,by omega,⟨k+1,by omega,rfl,?_,?_,?_,λd h2 hlt=>hd d h2 (by omega),.inr ?_⟩,.refl⟩
   ·simp only[UU,qQ,e0]
   ·simp only[UU,qQ,e5]
   ·simp only[UU,qQ,reduceIte]
   ·rw[show 30*(k+1)+1=30*k+31 by omega];omega
def PrmZ(z:Int):Prop:=2<=z/\z<=2147483647/\Prm z.toNat
theorem prIs{z:Int}{b:Bool}(hb:b=true↔PrmZ z):Rt 71 [.int .i64 z] [] (.bool b) []:=by
 refine oF o71 ?_;by_cases h2:2<=z;rotate_left
 ·have d1:decide (2<=z)=false:=decide_eq_false h2
  obtain rfl:b=false:=by
   cases b with
   |false=>rfl
   |true=>exact absurd (hb.1 rfl).1 h2
  simp only[c71,r71_0,r71_1,SS,fC,reduceCtorEq,reduceIte,qQ,d1];exact kR
 have d1:decide (2<=z)=true:=decide_eq_true h2;by_cases hM:z<=2147483647;rotate_left
 ·have d2:decide (z<=2147483647)=false:=decide_eq_false hM
  obtain rfl:b=false:=by
   cases b with
   |false=>rfl
   |true=>exact absurd (hb.1 rfl).2.1 hM
  simp only[c71,r71_0,r71_1,SS,fC,reduceCtorEq,reduceIte,qQ,d1,d2];exact kR
 have d2:decide (z<=2147483647)=true:=decide_eq_true hM;obtain⟨n,rfl⟩:∃n:Nat,z=(n:Int):=⟨z.toNat,by omega⟩
 obtain⟨l,hl⟩:=LF.ex n;have t:=qzz (n:=n) (by omega) (by omega) hl
 have hbl:decide ((l:Int)=(n:Int))=b:=by
  have hp:=LF.prm (by omega) hl
  have:(l:Int)=(n:Int)↔b=true:=by
   rw[hb];constructor
   ·intro e;exact⟨h2,hM,by rw[qB];exact hp.1 (by omega)⟩
   ·intro e;have:=hp.2 (by have:=e.2.2;rwa[qB]at this);omega
  cases b with
  |true=>exact decide_eq_true (this.2 rfl)
  |false=>exact decide_eq_false (λe=>by simpa using this.1 e)
 simp only[c71,r71_0,r71_1,SS,fC,reduceCtorEq,reduceIte,qQ,d1,d2];refine zaa t ?_;simp only[SS,fC,reduceCtorEq,reduceIte,qQ,hbl];exact kR
theorem jge{z:Int}{b:Bool}(hb:b=true↔PrmZ z):Rt 74 [.int .i64 z] [] (.bool b) []:=by
 have no:¬PrmZ z->b=false:=by
  intro h;cases b with
  |false=>rfl
  |true=>exact absurd (hb.1 rfl) h
 refine oF o74 ?_;by_cases h2:2<=z;rotate_left
 ·obtain rfl:=no (λe=>h2 e.1);have d1:decide (z<2)=true:=dT;simp only[c74,r74_0,r74_1,SS,fC,reduceCtorEq,reduceIte,qQ,d1];simp only[r74_2,SS];exact kR
 have d1:decide (z<2)=false:=dF;by_cases hM:z<=2147483647;rotate_left
 ·obtain rfl:=no (λe=>hM e.2.1);have d2:decide (2147483647<z)=true:=dT;simp only[c74,r74_0,r74_1,SS,fC,reduceCtorEq,reduceIte,qQ,d1,d2];simp only[r74_2,SS];exact kR
 have d2:decide (2147483647<z)=false:=dF;obtain⟨n,rfl⟩:∃n:Nat,z=(n:Int):=⟨z.toNat,by omega⟩
 have er:∀q:Nat,Int.tmod (n:Int) (q:Int)=((n%q:Nat):Int):=λq=>rfl
 simp only[c74,r74_0,r74_1,SS,fC,reduceCtorEq,reduceIte,qQ,d1,d2];simp only[r74_3,SS]
 refine zaf (λm E H=>∃d:Nat,d+m=46400/\2<=d/\H=[]/\E 0= .int .i64 (n:Int)/\E 3= .int .i64 (d:Int)/\∀d',2<=d'->d'<d->n%d'≠0) (n:=46398)
  ⟨2,rfl,by omega,rfl,by simp only[UU,qQ],by simp only[UU,qQ,reduceIte];rfl,λd h h'=>absurd h' (by omega)⟩ ?_
 rintro m E H ⟨d,hdm,hd2,rfl,e0,e3,hd⟩;refine wM ?_;have hdd:d*d<=46400*46400:=xY (by omega) (by omega);have wq:IntKind.i64.wrap ((d:Int)*(d:Int))=((d*d:Nat):Int):=by rw[<-qI];exact w64 (by omega) (by omega)
 have erd:=er d;simp only[l74_0,r74_4,SS,reduceCtorEq,reduceIte,qQ,e0,e3,wq];refine⟨λhle=>?_,λhgt=>?_⟩
 ·have hle':d*d<=n:=by omega
  have hd3:d<46399:=by
   rcases xZ d 46399 with h | h
   ·exact h
   ·have:=xY h h;omega
  obtain⟨m,rfl⟩:∃m',m=m'+1:=⟨m-1,by omega⟩
  have w5:=wS1 d (by omega);simp only[r74_5,SS,reduceCtorEq,reduceIte,qQ,e0,e3,erd];refine⟨by omega,λh0=>?_,λh0=>?_⟩
  ·obtain rfl:=no (λe=>e.2.2.2 d hd2 (by rw[qB];exact hle') (by rw[qB];omega));simp only[r74_6,SS];exact kR
  ·simp only[r74_7,SS,reduceIte,qQ,e3,w5];refine⟨m,_,_,by omega,⟨d+1,by omega,by omega,rfl,?_,?_,λd' a b=>?_⟩,.refl⟩
   ·simp only[UU,qQ,e0]
   ·simp only[UU,qQ,reduceIte]
   ·rcases(by omega:d'<d\/d'=d)with h | h
    ·exact hd d' a h
    ·subst h;omega
 ·obtain rfl:b=true:=hb.2 ⟨h2,hM,by
   rw[qB];exact⟨by omega,λd' a b=>hd d' a (qzy (by omega) b)⟩⟩
  simp only[r74_8,SS];exact kR
theorem qss{z:Int}{b:Bool}(hb:b=true↔z<=9973/\PrmZ z):Rt 30 [.int .i64 z] [] (.bool b) []:=by
 refine oF o30 ?_;by_cases h:z<=9973
 ·have d1:decide (z<=9973)=true:=decide_eq_true h;have t:=jge (z:=z) (b:=b) (by rw[hb];exact⟨λe=>e.2,λe=>⟨h,e⟩⟩);simp only[c30,r30_0,r30_1,SS,fC,reduceCtorEq,reduceIte,qQ,d1];refine zaa t ?_;simp only[SS,reduceIte,qQ];exact kR
 ·have d1:decide (z<=9973)=false:=decide_eq_false h
  obtain rfl:b=false:=by
   cases b with
   |false=>rfl
   |true=>exact absurd (hb.1 rfl).1 h
  simp only[c30,r30_0,r30_1,SS,fC,reduceCtorEq,reduceIte,qQ,d1];exact kR
theorem jds{a:Int}{m:Nat}(ha:In64 a)(hm:0<m)(hm2:m<2^40):Rt 75 [.int .i64 a,.int .i64 (m:Int)] [] (.int .i64 (a%(m:Int))) []:=by
 have hm0:(m:Int)≠0:=by omega
 have h1:=qL a hm0;have h2:=xJ a (show(0:Int)<m by omega)
 have ht:Int.tmod a m=a%m\/Int.tmod a m<0/\Int.tmod a m+m=a%m:=by
  rcases Int.le_total 0 a with h | h
  ·exact .inl (Int.tmod_eq_emod_of_nonneg h)
  ·have e:=Int.tmod_eq_emod (a:=a) (b:=(m:Int));rw[e];split
   ·exact .inl (by omega)
   ·refine .inr ?_;have:((m:Int).natAbs:Int)=m:=by omega
    omega
 have w0:IntKind.i64.wrap (Int.tmod a m)=Int.tmod a m:=w64 (by omega) (by omega);refine oF o75 ?_;simp only[c75,r75_0,r75_1,SS,reduceCtorEq,reduceIte,qQ];refine⟨hm0,?_⟩;simp only[r75_2,SS,reduceIte,qQ];rcases ht with ht | ⟨ht,ht2⟩
 ·rw[ht];refine⟨λh=>absurd h (by omega),λ_=>?_⟩;simp only[r75_4,SS,reduceIte,qQ];exact kR
 ·refine⟨λ_=>?_,λh=>absurd ht h⟩;have w1:IntKind.i64.wrap (Int.tmod a m+m)=a%m:=by rw[ht2];exact w64 (by omega) (by omega)
  simp only[r75_3,SS,reduceIte,qQ,w1];simp only[r75_4,SS,reduceIte,qQ];exact kR
end Go.Proofs.YtpflahgcdgdkjaaGreatDoor
namespace Go.Count
end Go.Count
namespace Go.Proofs.YtpflahgcdgdkjaaGreatDoor
open Nat renaming reduceEqDiff -> qQ, lt_or_ge -> xZ, eq_zero_or_pos -> xC
open Go.AL.AV.closed renaming closedL -> qJ
open List renaming getElem?_cons_zero -> qW, getElem?_cons_succ -> qV
open Int renaming toNat_natCast -> qB, toNat_zero -> xD
open Bool renaming and_self -> xQ
open Go Go.AL Go.Proofs
def chkZ(bR bP:Bool):Int:=if bR=true then(if bP=true then 0 else 20)else 6
theorem qgj{a:AV}{z:Int}{bR bP:Bool}(h1:Rt 70 [a] [] (.bool bR) [])(hc:a.closed=true)(hp:bP=true↔z<=9973/\PrmZ z):Rt 26 [a,.int .i64 z] [] (.int .i64 (chkZ bR bP)) []:=by
 have c1:qJ [a]=true:=by simp only[qJ,hc,xQ]
 refine oF o26 ?_;simp only[c26,r26_0,r26_1,SS,reduceCtorEq,reduceIte];refine zaa h1 ?_ c1;simp only[zay,SS,reduceIte,qQ];cases bR with
 |false=>
  simp only[r26_2,SS,fC];exact kR
 |true=>
  by_cases hz:z<=9973
  ·have d1:decide (9973<z)=false:=dF;have t:=prIs (z:=z) (b:=bP) (by rw[hp];exact⟨λe=>e.2,λe=>⟨hz,e⟩⟩);simp only[r26_3,SS,fC,reduceIte,qQ,d1];refine zaa t ?_;simp only[zay,SS,fC,reduceIte,qQ];cases bP with
   |false=>
    simp only[r26_4,SS,fC];exact kR
   |true=>
    simp only[r26_5,SS,fC];exact kR
  ·have d1:decide (9973<z)=true:=dT
   obtain rfl:bP=false:=by
    cases bP with
    |false=>rfl
    |true=>exact absurd (hp.1 rfl).1 hz
   simp only[r26_3,r26_4,SS,fC,reduceIte,qQ,d1];exact kR
open Go.Limb Go.Det
theorem jgf:FitN 8 BIG 9223372036854775808:=⟨by decide,by decide +kernel⟩
theorem qdd{M:List (List Int)}(h:∀i j,In64 (ent M i j)):Bnd 9223372036854775808 M:=by
 intro i j;have:=h i j;unfold In64 at this;omega
def qaj(M:List (List Int))(i:Nat):Prop:=1<=(M.getD i []).length/\(M.getD i []).length<=16/\(M.getD i []).length=(M.getD 0 []).length
theorem zwy{M:List (List Int)}{a:AV}(h:ImV M a)(hlen:M.length<=16)(hr62:∀i,i<M.length->(M.getD i []).length<4611686018427387904)(hbad:M.length=0\/¬ ∀i,i<M.length->qaj M i):Rt 64 [a] [] (.tup [.vec [] 0 (some 0),.bool false]) []:=by
 obtain⟨rows,c,rfl,hl,hr⟩:=h.val;refine oF o64 ?_;rcases xC M.length with h0 | h0
 ·rw[h0];have d1:decide (((0:Nat):Int)<1)=true:=by decide
  simp only[c64,r64_0,r64_1,r64_2,SS,fC,reduceCtorEq,reduceIte,qQ,d1];exact kR
 have hbad:¬ ∀i,i<M.length->qaj M i:=by
  rcases hbad with e | e
  ·omega
  ·exact e
 have d1:decide ((M.length:Int)<1)=false:=dF;have d2:decide ((16:Int)<(M.length:Nat))=false:=dF;obtain⟨c0,e0⟩:=hr 0 (by omega);simp only[c64,r64_0,r64_1,SS,fC,reduceCtorEq,reduceIte,qQ,d1,d2];simp only[r64_3,SS,reduceCtorEq,reduceIte,qQ];refine zaf (λk E H=>∃i,i+k=M.length/\E 0= .vec rows M.length c/\E 17= .vec rows M.length c/\E 18= .int .i64 (M.length:Nat)/\E 19= .int .i64 (i:Nat)/\H=[]/\∀t,t<i->qaj M t) (n:=M.length) ⟨0,by omega,by simp only[UU,qQ],by simp only[UU,qQ,reduceIte],by simp only[UU,qQ,reduceIte],by simp only[UU,qQ,reduceIte];rfl,rfl,λt ht=>absurd ht (by omega)⟩ ?_;rintro k E H ⟨i,hik,h0',h17,h18,h19,rfl,hgood⟩;refine wM ?_;simp only[l64_0,r64_4,SS,reduceCtorEq,reduceIte,h18,h19];refine⟨λhlt=>?_,λhge=>absurd (λt ht=>hgood t (by omega)) hbad⟩;obtain⟨k,rfl⟩:∃k',k=k'+1:=⟨k-1,by omega⟩
 obtain⟨ci,ei⟩:=hr i (by omega);have hr2:=hr62 i (by omega);have w5:=wS1 i (by omega);simp only[r64_5,SS,fC,reduceIte,qQ,h17,h19,qB,ei,hl];refine⟨⟨by omega,by omega⟩,by omega,?_⟩;rcases xC (M.getD i []).length with g0 | g1
 ·have d3:decide (((M.getD i []).length:Int)<1)=true:=dT;simp only[r64_6,r64_7,SS,fC,reduceCtorEq,reduceIte,qQ,d3];exact kR
 have d3:decide (((M.getD i []).length:Int)<1)=false:=dF;rcases xZ 16 (M.getD i []).length with g2 | g2
 ·have d4:decide ((16:Int)<((M.getD i []).length:Nat))=true:=dT;simp only[r64_6,r64_7,SS,fC,reduceCtorEq,reduceIte,qQ,d3,d4];exact kR
 have d4:decide ((16:Int)<((M.getD i []).length:Nat))=false:=dF;by_cases g3:(M.getD i []).length=(M.getD 0 []).length
 ·have d5:decide (((M.getD i []).length:Int)≠((M.getD 0 []).length:Nat))=false:=dF;simp only[r64_6,r64_8,SS,fC,reduceCtorEq,reduceIte,qQ,h0',h19,xD,e0,hl,d3,d4,d5,w5];refine⟨⟨by omega,by omega⟩,by omega,?_⟩;refine⟨k,_,_,by omega,⟨i+1,by omega,?_,?_,?_,?_,rfl,λt ht=>?_⟩,.refl⟩
  ·simp only[UU,qQ, *]
  ·simp only[UU,qQ, *]
  ·simp only[UU,qQ, *]
  ·simp only[UU,qQ,reduceIte, *]
  ·rcases(by omega:t<i\/t=i)with e | e
   ·exact hgood t e
   ·subst e;exact⟨g1,g2,g3⟩
 ·have d5:decide (((M.getD i []).length:Int)≠((M.getD 0 []).length:Nat))=true:=dT;simp only[r64_6,r64_7,SS,fC,reduceCtorEq,reduceIte,qQ,h0',xD,e0,hl,d3,d4,d5];refine⟨⟨by omega,by omega⟩,by omega,?_⟩;exact kR
theorem zul{M:List (List Int)}{a:AV}(h:MatV M a)(hs:ztk M)(hne:M.length≠(M.getD 0 []).length):Rt 56 [a] [] (.int .i64 3) []:=by
 have hcl:a.closed=true:=by obtain⟨rows,c,rfl,_⟩:=h;rfl
 have t:=zwe h hs;have c1:qJ [a]=true:=by simp only[qJ,hcl,xQ]
 have d1:decide (((M.length:Nat):Int)≠((M.getD 0 []).length:Nat))=true:=dT
 have t2:Rt 118 [a] [] (.tup [.int .i64 0,.bool false]) []:=by
  refine oF o118 ?_;simp only[c118,r118_0,r118_1,SS,reduceCtorEq,reduceIte];refine zaa t ?_ c1;simp only[SS,reduceIte,qQ,qW,qV];simp only[r118_2,r118_3,SS,fC,reduceIte,qQ,d1];exact dR
 refine oF o56 ?_;simp only[c56,r56_0,r56_1,SS,reduceCtorEq,reduceIte];refine zaa t2 ?_ c1;simp only[SS,reduceIte,qQ,qW,qV];simp only[r56_2,r56_3,SS,fC,reduceIte,qQ];exact dR
theorem zum{M:List (List Int)}{a:AV}(h:ImV M a)(h8:M.length<=8)(hr8:∀i,i<M.length->(M.getD i []).length<=8){b:Bool}(hb:b=true↔zkz M/\Red M.length (rowF M)):Rt 29 [a] [] (.bool b) []:=by
 have no:¬Shp M.length M\/M.length=0->b=false:=by
  intro hn;cases b with
  |false=>rfl
  |true=>
   obtain⟨n1,_,hs,_⟩:=(hb.1 rfl).1;rcases hn with hn | hn
   ·exact absurd hs hn
   ·omega
 have hca:a.closed=true:=h.closed;have c1:qJ [a]=true:=by simp only[qJ,hca,xQ]
 by_cases hg:M.length=0\/¬ ∀i,i<M.length->qaj M i
 ·have t0:=zwy h (by omega) (λi hi=>by have:=hr8 i hi;omega) hg
  obtain rfl:b=false:=no (by
   rcases hg with e | e
   ·exact .inr e
   ·refine .inl λhs=>e λi hi=>?_
    have l1:=hs.row i hi;have l0:=hs.row 0 (by omega);unfold qaj;omega)
  refine oF o29 ?_;simp only[c29,r29_0,r29_1,SS,reduceCtorEq,reduceIte];refine zaa t0 ?_ c1;simp only[SS,reduceIte,qQ,qW,qV];simp only[r29_2,SS,fC,reduceIte,qQ];exact dR
 ·have h0:M.length≠0:=λe=>hg (.inl e)
  have hgood:∀i,i<M.length->qaj M i:=Classical.byContradiction λe=>hg (.inr e)
  by_cases hsq:M.length=(M.getD 0 []).length
  ·have hS:Shp M.length M:=⟨rfl,λi hi=>by have:=hgood i hi;unfold qaj at this;omega⟩
   refine qgb (N:=8) zdj h hS ⟨by omega,h8⟩ h8 jgf (qdd h.fit) ?_;rw[hb];exact⟨λe=>e.2,λe=>⟨qmn hS e,e⟩⟩
  ·obtain rfl:b=false:=no (.inl λhs=>hsq (hs.row 0 (by omega)).symm);have hc:∀i,i<M.length->(M.getD i []).length=(M.getD 0 []).length:=λi hi=>(hgood i hi).2.2
   have g0:=hgood 0 (by omega);have t0:=zpe h (n:=(M.getD 0 []).length) ⟨g0.1,g0.2.1⟩ ⟨by omega,by omega⟩ hc;have hfit:=znm (qdd h.fit) (show 9223372036854775808<BIG from zgi (by decide));have hM:=zly hfit;have hSh:ztk M:=⟨by omega,by omega,λi hi=>hgood i hi⟩
   have t1:=zul hM hSh hsq;have hcl:(matC M).closed=true:=by obtain⟨rows,c,e,_⟩:=hM;rw[e];rfl
   have c2:qJ [matC M]=true:=by simp only[qJ,hcl,xQ]
   have d3:decide ((3:Int)=0)=false:=rfl;refine oF o29 ?_;simp only[c29,r29_0,r29_1,SS,reduceCtorEq,reduceIte];refine zaa t0 ?_ c1;simp only[SS,reduceIte,qQ,qW,qV];simp only[r29_2,SS,fC,reduceIte,qQ];refine zaa t1 ?_ c2;simp only[SS,fC,reduceIte,qQ,d3];exact dR
end Go.Proofs.YtpflahgcdgdkjaaGreatDoor
namespace Go.Proofs.YtpflahgcdgdkjaaGreatDoor
open List renaming getElem?_eq_getElem -> qT, length_map -> xK, getD_eq_getElem?_getD -> xV, getElem?_map -> zW
open Go Go.AL Go.Proofs Go.Det
theorem qak(p:Prop):∃b:Bool,b=true↔p:=by
 by_cases h:p
 ·exact⟨true,λ_=>h,λ_=>rfl⟩
 ·exact⟨false,λe=>by simp at e,λe=>absurd e h⟩
theorem qst{n m:Nat}{M:List (List Int)}{hs:List AV}{ch:Option Nat}(hIm:ImV M (.vec hs n ch))(hS:Shp n M)(hsy:∀i j,i<n->j<n->ent M i j=ent M j i)(hn:1<=n/\n<=8)(hm:2<=m)(hm2:m<=2097152)(hpow:m^n<2^60):
  ∃fin:List Nat,fin.length=m/\(∀t,fin.getD t 0=(Count.allV m n).countP λy=>decide (Count.nrm (gN n M m) n y%m=t))/\Rt 28 [.vec hs n ch,.int .i64 (m:Int)] [] (.vec (ints fin) m (some m)) []:=by
 have hTs:Shp n (modM n M (m:Int)):=zct _ _
 have hgs:∀j k,j<n->k<n->Count.ent (gN n M m) j k=Count.ent (gN n M m) k j:=by
  intro j k hj hk;rw[qmh,qmh];unfold modM;rw[zco hj hk,zco hk hj,hsy j k hj hk]
 obtain⟨fin,h1,h2,h3⟩:=Count.runC_ok (g:=gN n M m) (n:=n) (M:=m) (by omega) hgs;refine⟨fin,h2,h3,?_⟩;have tR:=qgd hIm hS hn (m:=(m:Int)) (by omega);refine zpw (g:=gN n M m) (by omega) (by omega) (by omega) hpow tR (by simp[zcx,hTs.len]) (λi hi=>⟨some n,?_⟩) (λi hi=>?_) (λi hi a ha=>?_) h1 h2
 ·have hi':i<(modM n M (m:Int)).length:=by rw[hTs.len];exact hi
  rw[qcy,<-qmi (λz hz=>(qcz (by omega) z hz).1)];unfold zcx;rw[zW,qT hi',xV,qT hi'];rfl
 ·rw[qcy,xK,hTs.row i hi]
 ·rw[qcy]at ha;obtain⟨z,hz,rfl⟩:=List.mem_map.1 ha;have:=qcz (by omega) z hz;omega
end Go.Proofs.YtpflahgcdgdkjaaGreatDoor
namespace Go.Proofs.YtpflahgcdgdkjaaGreatDoor
open Nat renaming reduceEqDiff -> qQ, reduceLeDiff -> qX, reduceAdd -> qZ
open Go.AL.AV.closed renaming closedL -> qJ
open List renaming replicate_zero -> qK, getElem?_cons_zero -> qW, getElem?_cons_succ -> qV, append_nil -> qY, map_cons -> qP, mapM_cons -> xE, length_cons -> xL, mapM_nil -> xM, getElem?_append_left -> yZ, map_nil -> yC, length_nil -> zM
open Int renaming emod_nonneg -> qL, sign_eq_one_of_pos -> xG
open Bool renaming and_self -> xQ
open Go Go.AL Go.Proofs
noncomputable section
def q16:=V (RS Tryz.f16=·)
def q17:=V (RS Tryz.f17=·)
def r17_0:=X q17 0
def r17_1:=X q17 1
def c17:CC:=(.seq (rN r17_0) (.seq (rN r17_1) .ret))
theorem o17:FnI 17 17 Tryz.f17 c17 [.tmp 4]:=oM Tryz.func17
def r39_0:RL:=[oP 2 (.mov (.k (.bool false)))]
def r39_1:RL:=[mV 3 0,bK 4 .geq 3 1,mV 5 4,gU 6 5 true (.mov (.t 0)),gU 7 5 true (.bin .leq (.t 6) (kI 1000)),oP 8 (.pick (.t 5) (.t 7) (.k (.bool false))),mV 2 8]
def c39:CC:=(.seq (rN r39_0) (.seq (rN r39_1) .ret))
theorem o39:FnI 39 9 Tryz.f39 c39 [.tmp 2]:=oM Tryz.func39
def q41:=V (RS Tryz.f41=·)
def r41_0:=X q41 0
def r41_1:=X q41 1
def c41:CC:=(.seq (rN r41_0) (.seq (rN r41_1) .ret))
theorem o41:FnI 41 27 Tryz.f41 c41 [.tmp 4]:=oM Tryz.func41
def q78:=V (RS Tryz.f78=·)
def r78_0:=X q78 0
def r78_1:=X q78 1
def r78_2:=X q78 2
def r78_3:=X q78 3
def r78_4:=X q78 4
def r78_5:=X q78 5
def r78_6:=X q78 6
def c78:CC:=(.seq (rN r78_0) (.seq (rN r78_1) (.seq (.seq (rN r78_2) (.cond (.t 19) (.seq (rN r78_3) .ret) .skip)) (.seq (rN r78_4) (.seq (rN r78_5) (.seq (rN r78_6) .ret))))))
theorem o78:FnI 78 24 Tryz.f78 c78 [.tmp 6]:=oM Tryz.func78
end
open Go.Limb Go.Det
theorem zrt{i j k:Nat}:zan [i,j] k 0=i:=by simp[zan]
theorem zru{i j k:Nat}:zan [i,j] k 1=j:=by simp[zan]
theorem qmr{f:FuncId}{args args0:List AV}{i j:Nat}{cs ds cs' ds':List AV}{v:AV}{H:Heap}{K:AV->Eff->List Nat->Nat->Prop}(h:Rt f args0 [some cs,some ds] v [some cs',some ds'])(hi:getB H i=some cs)(hj:getB H j=some ds)(hij:i≠j)
  (hargs:args=args0.map (AV.ren (zan [i,j] H.length))) (hk:K v [(i,some cs'),(j,some ds')] [i,j] 0) (hu:AV.under.underL 2 args0=true:=by rfl) (hcs:qJ cs=true:=by rfl) (hds:qJ ds=true:=by rfl) (hcs':qJ cs'=true:=by rfl) (hds':qJ ds'=true:=by rfl) (hv:v.closed=true:=by rfl):zls Tryz.prog G f args H K:=by
 have li:=zal hi;have lj:=zal hj;have gi:=zce hi;have gj:=zce hj
 have:=CallR0.mk (P:= Tryz.prog) (Γ:=G) (f:=f) (args:=args) (k:=H.length) (H:=H++List.replicate 0 none) [i,j] args0 [some cs,some ds] v [some cs',some ds'] h rfl (by simpa using hij) (by
  intro x hx;rcases List.mem_cons.1 hx with e | e
  ·omega
  ·have:=List.mem_singleton.1 e;omega) hargs hu (by
  intro t c ht
  match t,ht with
  |0,ht=>
   simp at ht;subst ht;refine⟨cs,rfl,zbg _ _ hcs,?_⟩;rw[zrt,yZ li,gi];simp only[renB];rw[zaw _ _ hcs]
  |1,ht=>
   simp at ht;subst ht;refine⟨ds,rfl,zbg _ _ hds,?_⟩;rw[zru,yZ lj,gj];simp only[renB];rw[zaw _ _ hds]
  |t+2,ht=>simp at ht)
 refine⟨_,_,_,_,.base this,?_⟩
 have e:effs (zan [i,j] H.length) 0 [some cs',some ds']=[(i,some cs'),(j,some ds')]:=by
  simp only[effs,zrt,Nat.zero_add,zru,renB];rw[zaw _ _ hcs',zaw _ _ hds']
 rw[e,zef _ _ hv];simpa using hk
theorem zpz{m:Int}{b:Bool}(hb:b=true↔1<=m/\m<=1000):Rt 39 [.int .i64 m] [] (.bool b) []:=by
 refine oF o39 ?_;by_cases h1:1<=m
 ·have d1:decide (1<=m)=true:=decide_eq_true h1
  have d2:decide (m<=1000)=b:=by
   by_cases h2:m<=1000
   ·rw[decide_eq_true h2];exact(hb.2 ⟨h1,h2⟩).symm
   ·rw[decide_eq_false h2];cases b with
    |false=>rfl
    |true=>exact absurd (hb.1 rfl).2 h2
  simp only[c39,r39_0,r39_1,↓zcn,SS,reduceCtorEq,reduceIte,qQ,d1,d2];exact kR
 ·have d1:decide (1<=m)=false:=decide_eq_false h1
  obtain rfl:b=false:=by
   cases b with
   |false=>rfl
   |true=>exact absurd (hb.1 rfl).1 h1
  simp only[c39,r39_0,r39_1,↓zki,SS,reduceCtorEq,reduceIte,qQ,d1];exact kR
theorem okV:okC (okFn Tryz.prog) 78=true:=zsj qjv (by decide)
theorem jgg{x d s e:Int}{r1 r2 d1 d2:AV}(hx:zag x (.agg [r1,r2]))(hd:zag d (.agg [d1,d2]))(hx0:0<=x)(hx1:x.natAbs<18446744073709551616)(hd0:0<d)(hd1:d.natAbs<18446744073709551616)(h:x%d≠0):
  Rt 78 [.agg [d1,d2],.int .i64 s,.ptr 0 0,.ptr 1 0] [some [r1,r2],some [.int .i64 e]] (.bool false) [some [r1,r2],some [.int .i64 e]]:=by
 obtain⟨v,w,iv,iw,t1⟩:=ztt hx hd hx1 hd1 (by omega) (.inl hx0);have t2:=zwd iw;have hs:(x%d).sign=1:=xG (by have:=qL x (show d≠0 by omega);omega);rw[hs]at t2;obtain⟨lr,cr,rfl,rfl⟩:=zam hx;obtain⟨ld,cd,rfl,rfl⟩:=zam hd;obtain⟨lv,cv,rfl⟩:=iv.shape;obtain⟨lw,cw,rfl⟩:=iw.shape;refine oF o78 ?_;simp only[c78,r78_0,r78_1,SS,reduceCtorEq,reduceIte,qZ,qQ,qX];refine zaa t1 ?_;simp only[zay,zad,qK,qY,SS,reduceIte,qZ,qQ,qX,qW,qV];simp only[r78_2,SS,reduceIte,qZ,qQ,qX];refine zaa t2 ?_;simp only[zay,zad,qK,qY,SS,fC,reduceIte,qQ,show decide ((1:Int)≠0)=true from rfl];simp only[r78_3,SS]
 exact⟨.inl trivial,_,rfl,.drop _ _ rfl (by
  intro i cs hi hc;rcases(by omega:i=0\/i=1)with rfl | rfl
  ·cases hc;exact zbg _ _ (by simp only[qJ,AV.closed,xQ])
  ·cases hc;rfl)⟩
theorem jdt{p x:Nat}{v:AV}(hp:PrmZ (p:Int))(hp2:p<=9973)(hx1:1<=x)(hx:x<=2000)(hnd:x%p≠0)(iv:zag (x:Int) v):∃r,zag (x:Int) r/\Rt 34 [v,.int .i64 (p:Int)] [] (.tup [.int .i64 0,r,.int .i64 0]) []:=by
 have hp':2<=p:=by have:=hp.1;omega
 have ti:=prIs (z:=(p:Int)) (b:=true) ⟨λ_=>hp,λ_=>rfl⟩;have ts:=zwd iv;rw[xG (by omega)]at ts;obtain⟨r,ir,tn⟩:=zlx iv;obtain⟨w,iw,tw⟩:=zrf (p:Int) (by omega) (by omega);obtain⟨lv,cv,rfl⟩:=iv.shape;obtain⟨lr,cr,rfl⟩:=ir.shape;obtain⟨lw,cw,rfl⟩:=iw.shape;have td:=jgg (s:=1) (e:=0) ir iw (by omega) (by omega) (by omega) (by omega) (by omega);have hld:ldSz Tryz.prog 40=some (true,2):=by kernel_rfl
 have hcr:qJ [.bool (decide ((x:Int)<0)),.vec (u32s lr) lr.length cr]=true:=by simp only[qJ,AV.closed,xQ]
 refine⟨_,ir,?_⟩;refine oF o34 ?_;simp only[c34,r34_0,r34_1,SS,reduceCtorEq,reduceIte,qQ];refine zaa ti ?_;simp only[zay,zad,qK,qY,SS,fC,reduceIte,qQ];simp only[r34_3,SS,reduceIte,qZ,qQ,qX];refine zaa ts ?_;have d1:decide ((1:Int)=0)=false:=by decide
 simp only[zay,zad,qK,qY,SS,fC,reduceIte,qQ,d1];simp only[r34_5,SS,reduceIte,qZ,qQ,qX];refine zaa tn ?_;simp only[zay,zad,qK,qY,SS,reduceIte,qZ,qQ,qX];simp only[r34_6,r34_7,r34_8,SS,reduceIte,qZ,qQ,qX];refine zaa tw ?_;simp only[zay,zad,qK,qY,SS,reduceIte,qZ,qQ,qX]
 refine zaf (λf E H=>H=[some [.bool (decide ((x:Int)<0)),.vec (u32s lv) lv.length cv],some [.bool false,.vec [] 0 (some 0)],some [.bool (decide ((x:Int)<0)),.vec (u32s lr) lr.length cr],some [.int .i64 0],some [.bool (decide ((p:Int)<0)),.vec (u32s lw) lw.length cw]]/\E 5= .ptr 1 0/\E 6= .int .i64 0/\E 7= .ptr 2 0/\E 8= .ptr 3 0/\E 9= .clo 78 [.ptr 2 0,.ptr 3 0]/\E 10= .sl 4 0 1 2 (some 1)) (n:=0)
  ⟨rfl,by simp only[UU,qQ,reduceIte],by simp only[UU,qQ,reduceIte],by simp only[UU,qQ,reduceIte],by simp only[UU,qQ,reduceIte],by simp only[UU,qQ,reduceIte],by simp only[UU,qQ,reduceIte]⟩ ?_
 rintro f E H ⟨rfl,e5,e6,e7,e8,e9,e10⟩;refine wM ?_;have wk:IntKind.i64.wrap (((1:Nat):Int)-1)=0:=by decide
 have sh:IntKind.i64.wrap (1*2^min (Int.toNat 0) IntKind.i64.bits)=1:=by decide
 simp only[l34_0,r34_9,SS,reduceCtorEq,reduceIte,qZ,qQ,qX,e9,e10,wk,sh];refine⟨⟨by omega,by omega⟩,by decide,by omega,_,_,rfl,okV,?_⟩;refine qmr (i:=2) (j:=3) (args0:=[.agg [.bool (decide ((p:Int)<0)),.vec (u32s lw) lw.length cw],.int .i64 1,.ptr 0 0,.ptr 1 0]) td rfl rfl (by decide) ?_ ?_ ?_ hcr rfl hcr rfl
 ·have e:=zef (zan [2,3] 5) _ iw.closed;simp only[qP,yC,xL,zM,e];rfl
 rotate_left
 ·have:=zbg 2 _ (zgy lw);simp[AV.under.underL,AV.under]
 simp only[zay,zad,keys,qK,qY,List.set_cons_succ,List.set_cons_zero,SS,fC,reduceIte,qQ];refine⟨rfl,?_⟩;have wk2:IntKind.i64.wrap (((1:Nat):Int)-2)= -1:=by decide
 simp only[r34_12,SS,reduceIte,qQ,e10,wk2]
 refine zaf (λf E H=>H=[some [.bool (decide ((x:Int)<0)),.vec (u32s lv) lv.length cv],some [.bool false,.vec [] 0 (some 0)],some [.bool (decide ((x:Int)<0)),.vec (u32s lr) lr.length cr],some [.int .i64 0],some [.bool (decide ((p:Int)<0)),.vec (u32s lw) lw.length cw]]/\E 5= .ptr 1 0/\E 7= .ptr 2 0/\E 8= .ptr 3 0/\E 12= .int .i64 (-1)) (n:=0)
  ⟨rfl,by simp only[UU,qQ,e5],by simp only[UU,qQ,e7],by simp only[UU,qQ,e8],by simp only[UU,qQ,reduceIte]⟩ ?_
 clear e5 e6 e7 e8 e9 e10;rintro f E H ⟨rfl,e5,e7,e8,e12⟩;refine wM ?_;simp only[l34_1,r34_13,SS,fC,reduceCtorEq,reduceIte,qQ,e12,show decide ((0:Int)<= -1)=false from rfl];simp only[r34_16,SS,fC,reduceIte,qZ,qQ,qX,e5,e7,e8];refine⟨rfl,.inl trivial,.tup [.int .i64 0,.agg [.bool _,.vec _ _ _],.int .i64 0],?_,.drop _ _ rfl (by intro i cs h;omega)⟩;simp only[resA,xE,xM,zdv,hld,UU,qQ,reduceIte,e5,zwc,zzn,need];rfl
end Go.Proofs.YtpflahgcdgdkjaaGreatDoor
namespace Go.Det
open List renaming append_nil -> qY, map_append -> qM, map_cons -> qP, length_map -> xK, nil_append -> xW, cons_append -> xU, map_map -> xH, length_cons -> xL, map_nil -> yC, mem_erase_of_ne -> yR, perm_cons_erase -> yS, append_of_mem -> zK, length_nil -> zM
open Int renaming pow_succ -> qD, add_zero -> xR, mul_zero -> yD
theorem zmn{f g:List Row->Int}{sh:Row->Row}{c d:Nat}(hc:∀r,sh r c=r d)(h:∀R,f R=g (R.map sh)):∀L pre,zav f d pre L=zav g c (pre.map sh) (L.map sh)
 | [],_=>rfl
 |v::L,pre=>by
  simp only[zav,qP,xK,hc];rw[zmn hc h L (pre++[v]),h (pre++L)];simp only[qM,qP,yC]
theorem zwz:∀(cs:List Nat) (R:List Row),det (cs.map (· + 1)) R=det cs (R.map λr j=>r (j+1))
 | [],[]=>rfl
 | [],_::_=>rfl
 |c::cs,R=>zmn (c:=c) (d:=c+1) (λ_=>rfl) (zwz cs) R []
theorem zjt(f:List Row->Int){z:Nat}:∀L pre,(∀r∈L,r z=0)->zav f z pre L=0
 | [],_,_=>rfl
 |v::L,pre,h=>by
  simp only[zav];rw[h v (by simp),zjt f L _ λr hr=>h r (by simp[hr])];simp
theorem zqa{f:List Row->Int}{P:Row->Prop}(h:∀R,(∀r∈R,P r)->f R=0)(c:Nat):∀L pre,(∀r∈pre,P r)->(∀r∈L,P r)->zav f c pre L=0
 | [],_,_,_=>rfl
 |v::L,pre,hp,hL=>by
  simp only[zav];rw[h (pre++L) (λr hr=>(List.mem_append.1 hr).elim (hp r) λx=>hL r (by simp[x])),zqa h c L (pre++[v]) (λr hr=>(List.mem_append.1 hr).elim (hp r) λx=>hL r (by simp at x;simp[x])) λr hr=>hL r (by simp[hr])];simp
theorem qde{z:Nat}:∀cs R,(∀r∈R,r z=0)->det (cs++[z]) R=0
 | [],R,h=>zjt _ R [] h
 |c::cs,R,h=>zqa (P:=λr=>r z=0) (λR h=>qde cs R h) c R [] (by simp) h
theorem zmo{f g:List Row->Int}{v:Row}{x:Int}{P:Row->Prop}(h:∀R,(∀r∈R,P r)->f (v::R)=x*g R)(c:Nat):∀L pre,(∀r∈pre,P r)->(∀r∈L,P r)->zav f c (v::pre) L=x*zav g c pre L
 | [],_,_,_=>by simp[zav]
 |w::L,pre,hp,hL=>by
  simp only[zav,xU];rw[h (pre++L) (λr hr=>(List.mem_append.1 hr).elim (hp r) λx=>hL r (by simp[x])),zmo h c L (pre++[w]) (λr hr=>(List.mem_append.1 hr).elim (hp r) λx=>hL r (by simp at x;simp[x])) λr hr=>hL r (by simp[hr])];grind
theorem zxa{z:Nat}{v:Row}:∀cs L,(∀r∈L,r z=0)->det (cs++[z]) (v::L)=v z*det cs L
 | [],L,h=>by
  show zav (det []) z [] (v::L)=_
  simp only[zav];rw[zjt _ L _ h];cases L with
  |nil=>simp[sg,det]
  |cons w L=>simp[det]
 |c::cs,L,h=>by
  show zav (det (cs++[z])) c [] (v::L)=_
  simp only[zav,xW];rw[qde cs L h,zmo (P:=λr=>r z=0) (λR hR=>zxa cs R hR) c L [] (by simp) h];simp[det]
theorem zju:∀n,zcw (n+1)=(zcw n).map (· + 1)++[0]
 |0=>rfl
 |n+1=>by
  show(n+1)::zcw (n+1)=(n::zcw n).map (· + 1)++[0]
  rw[zju n];rfl
theorem zhg(r:Nat->Row)(n:Nat):zcg r (n+1)=r 0::zcg (λi=>r (i+1)) n:=by
 simp[zcg,List.range_succ_eq_map,Function.comp_def]
theorem zxb{f:List Row->Int}(hl:Lin f)(ha:Alt f)(A:Int)(b:Row->Int)(r0:Row):∀(L L1:List Row),r0∈L1->f (L1++L.map λr j=>A*r j+b r*r0 j)=A^L.length*f (L1++L)
 | [],L1,_=>by simp
 |x::L,L1,h=>by
  simp only[qP,xL];rw[hl L1 _ A (b x) x r0,ztu hl ha h];have:=zxb hl ha A b r0 L (L1++[x]) (by simp[h]);simp only[List.append_assoc,xU,xW]at this;rw[this,qD];grind
def el(a:Nat->Row):Nat->Row:=λi j=>a 0 0*a (i+1) (j+1)+(-(a (i+1) 0))*a 0 (j+1)
theorem zqb(a:Nat->Row)(n:Nat):a 0 0*lead (el a) n=a 0 0^n*lead a (n+1):=by
 have h:=zxb (zjp (zcw (n+1))) (zpi (zcw (n+1))) (a 0 0) (λr=> -(r 0)) (a 0) (zcg (λi=>a (i+1)) n) [a 0] (by simp);rw[zbw]at h;unfold lead;rw[zhg a];refine Eq.trans ?_ h
 rw[zju,List.singleton_append,zxa _ _ (λr hr=>by
  obtain⟨r',_,rfl⟩:=List.mem_map.1 hr;grind),zwz]
 congr 2;simp only[zcg,xH];rfl
theorem zxc:∀{l L:List Nat},l.Nodup->(∀x∈l,x∈L)->l.length<=L.length
 | [],_,_,_=>Nat.zero_le _
 |x::l,L,hn,hs=>by
  have hx:x∈L:=hs x (by simp);have hn':=List.nodup_cons.1 hn;have:=zxc (L:=L.erase x) hn'.2 λy hy=>(yR λe=>hn'.1 (by rw[<-e];exact hy)).2 (hs y (by simp[hy]))
  have h2:=(yS hx).length_eq;simp only[xL]at h2 ⊢;omega
theorem zxd:∀(B:List Nat),¬B.Nodup->∃B1 s B2 B3,B=B1++s::(B2++s::B3)
 | [],h=>absurd List.nodup_nil h
 |b::B,h=>by
  by_cases hb:b∈B
  ·obtain⟨X,Y,rfl⟩:=zK hb;exact⟨[],b,X,Y,rfl⟩
  ·obtain⟨B1,s,B2,B3,rfl⟩:=zxd B λhn=>h (List.nodup_cons.2 ⟨hb,hn⟩)
   exact⟨b::B1,s,B2,B3,rfl⟩
def zxe(k:Nat):Row:=λj=>if j=k then 1 else 0
theorem qdf{f:List Row->Int}(hl:Lin f)(c:Nat->Int)(r:Nat->Row){L1 L2:List Row}:∀m,(∀l,l<m->f (L1++r l::L2)=0)->f (L1++comb c r m::L2)=0
 |0,_=>qcg hl L1 L2
 |m+1,h=>by
  show f (L1++(λj=>1*comb c r m j+c m*r m j)::L2)=0
  rw[hl,qdf hl c r m (λl hl=>h l (by omega)),h m (by omega)];simp
theorem qdg{f:List Row->Int}(hl:Lin f)(ha:Alt f){n:Nat}(hd:∀u:Row,(∀c,1<=c->c<=n->u c=0)->∀L1 L2,f (L1++u::L2)=0):
  ∀(L:List Row) (B:List Nat),(∀b∈B,1<=b/\b<=n)->n<B.length+L.length->f (B.map zxe++L)=0
 | [],B,hB,hn=>by
  have:¬B.Nodup:=λhh=>by
   have:=zxc (L:=(List.range n).map (· + 1)) hh λx hx=>List.mem_map.2 ⟨x-1,List.mem_range.2 (by have:=hB x hx;omega),by have:=hB x hx;omega⟩
   simp only[xK,List.length_range,zM]at this hn;omega
  obtain⟨B1,s,B2,B3,rfl⟩:=zxd B this;simp only[qM,qP,qY];exact zzz hl ha (zxe s) _ _ _
 |v::L,B,hB,hn=>by
  have e:v=λj=>1*comb (λk=>v (k+1)) (λk=>zxe (k+1)) n j+1*(v j-comb (λk=>v (k+1)) (λk=>zxe (k+1)) n j):=by funext j;omega
  rw[e,hl,qdf hl _ _ n λl hlt=>?_,hd _ λc h1 h2=>?_]
  ·rfl
  ·rw[qci]
   have key:∀m,c<=m->sumR (λl=>v (l+1)*zxe (l+1) c) m=v c:=by
    intro m
    induction m with
    |zero=>intro hm;omega
    |succ m ih=>
     intro hm;simp only[sumR];by_cases hcm:c=m+1
     ·rw[zcl λi hi=>by unfold zxe;rw[if_neg (by omega)];simp];unfold zxe;rw[if_pos hcm,hcm];simp
     ·rw[ih (by omega)];unfold zxe;rw[if_neg hcm];simp
   rw[key n h2];omega
  ·have:=qdg hl ha hd L (B++[l+1]) (λb hb=>by
    rcases List.mem_append.1 hb with h | h
    ·exact hB b h
    ·simp at h;omega) (by simp at hn ⊢;omega)
   simpa using this
theorem jaa{n:Nat}{cs:List Nat}(hc:∀c∈cs,1<=c/\c<=n){R:List Row}(hR:n<R.length):det cs R=0:=by
 have:=qdg (zjp cs) (zpi cs) (n:=n) (λu hu L1 L2=>ztv cs (λc h=>hu c (hc c h).1 (hc c h).2) L1 L2) R [] (by simp) (by simpa using hR);simpa using this
def zgp(c:Int)(j:Nat)(a:Nat->Row):Nat->Row:=λi=>if i=0 then λk=>1*a 0 k+c*a j k else a i
def zgq(c:Int)(j:Nat)(r:Row):Row:=λk=>if k=0 then r 0+c*r j else r k
def bas(c:Int)(j:Nat)(a:Nat->Row):Nat->Row:=λi=>zgq c j (zgp c j a i)
theorem qsu{c:Int}{j n:Nat}(a:Nat->Row)(h1:1<=j)(h2:j<=n):lead (zgp c j a) (n+1)=lead a (n+1):=by
 unfold lead;rw[zhg,zhg];have e:(λi=>zgp c j a (i+1))=λi=>a (i+1):=by funext i;simp[zgp]
 rw[e]
 have hj:a j∈zcg (λi=>a (i+1)) n:=by
  simp only[zcg,List.mem_map,List.mem_range];exact⟨j-1,by omega,by rw[Nat.sub_add_cancel h1]⟩
 obtain⟨M,L2,hM⟩:=zK hj;have hl:=zjp (zcw (n+1)) [] (zcg (λi=>a (i+1)) n) 1 c (a 0) (a j);simp only[xW]at hl;have hz:=zzz (zjp (zcw (n+1))) (zpi (zcw (n+1))) (a j) M [] L2;rw[<-hM]at hz;simp only[xW]at hz
 show det _ ((λk=>1*a 0 k+c*a j k)::_)=_
 rw[hl,hz];simp
theorem zrv{F G H:List Row->Int}{μ:Row->Row}{c:Int}{d:Nat}(hd:∀r,μ r d=r d)(h:∀R,F (R.map μ)=G R+c*H R):∀L pre,zav F d (pre.map μ) (L.map μ)=zav G d pre L+c*zav H d pre L
 | [],_=>by simp[zav]
 |v::L,pre=>by
  have:=zrv hd h L (pre++[v]);simp only[qM,qP,yC]at this;simp only[zav,qP,xK,hd];rw[this,<-qM,h];grind
theorem zrw{F G:List Row->Int}{c:Int}{j:Nat}(h:∀R,F (R.map (zgq c j))=G R):∀L pre,zav F 0 (pre.map (zgq c j)) (L.map (zgq c j))=zav G 0 pre L+c*zav G j pre L
 | [],_=>by simp[zav]
 |v::L,pre=>by
  have:=zrw h L (pre++[v]);simp only[qM,qP,yC]at this;simp only[zav,qP,xK];rw[this,<-qM,h];simp only[zgq,if_pos];grind
theorem qms{c:Int}{j:Nat}:∀(cs:List Nat) (R:List Row),(∀x∈cs,x≠0)->det (cs++[0]) (R.map (zgq c j))=det (cs++[0]) R+c*det (cs++[j]) R
 | [],R,_=>zrw (F:=det []) (G:=det []) (λR=>by cases R<;>rfl) R []
 |d::cs,R,h=>zrv (λr=>by simp[zgq,h d (by simp)]) (λR=>qms cs R λx hx=>h x (by simp[hx])) R []
theorem znp{c:Int}{j n:Nat}(a:Nat->Row)(h1:1<=j)(h2:j<=n):lead (bas c j a) (n+1)=lead a (n+1):=by
 rw[<-qsu (c:=c) a h1 h2];unfold lead;have e:zcg (bas c j a) (n+1)=(zcg (zgp c j a) (n+1)).map (zgq c j):=by simp[zcg,bas,Function.comp_def]
 rw[e,zju,qms _ _ (by simp),jaa (n:=n) (cs:=(zcw n).map (· + 1)++[j]) (λx hx=>?_) (by rw[zbw];omega)]
 ·simp
 ·rcases List.mem_append.1 hx with h | h
  ·obtain⟨y,hy,rfl⟩:=List.mem_map.1 h;have:=zic hy;omega
  ·simp at h;omega
theorem zun{p:Int}{n:Nat}(a:Nat->Row)(h:∀k,k<=n->p∣a 0 k):p∣lead a (n+1):=by
 unfold lead;rw[zhg];have e:a 0=λk=>p*(a 0 k/p)+1*(a 0 k-p*(a 0 k/p)):=by funext k;omega
 have hl:=zjp (zcw (n+1)) [] (zcg (λi=>a (i+1)) n) p 1 (λk=>a 0 k/p) (λk=>a 0 k-p*(a 0 k/p));simp only[xW]at hl;rw[<-e]at hl
 have hz:=ztv (u:=λk=>a 0 k-p*(a 0 k/p)) (zcw (n+1)) (λc hc=>by
  have:=Int.mul_ediv_cancel' (h c (by have:=zic hc;omega));omega) [] (zcg (λi=>a (i+1)) n)
 simp only[xW]at hz;rw[hl,hz];exact⟨_,by rw[yD,xR]⟩
end Go.Det
namespace Go.QR
open Nat renaming le_refl -> qE, dvd_of_mod_eq_zero -> qO, mod_lt -> xX, lt_or_ge -> xZ, mul_le_mul_left -> xB, mul_mod_right -> yJ, mul_mod -> yK, mul_assoc -> yW, mod_eq_of_lt -> yU, succ_mul -> yE, div_add_mod -> yL, le_of_dvd -> zZ, mul_left_comm -> zA, mul_add -> zG
open List renaming map_append -> qM, foldr_cons -> qN, cons_append -> xU, map_map -> xH, length_cons -> xL, map_singleton -> yQ, pairwise_lt_range -> yG, range_succ -> yI, mem_erase_of_ne -> yR, perm_cons_erase -> yS
open Int renaming pow_succ -> qD, one_mul -> qG, natCast_mul -> qI, natCast_emod -> xA, mul_comm -> xI, mul_one -> xN, natCast_add -> xP, mul_assoc -> zX, emod_eq_of_lt -> zB, mul_add -> zI, sub_mul -> zL, natCast_pow -> zN
def prod(f:Nat->Int):Nat->Int
 |0=>1
 |k+1=>prod f k*f (k+1)
def sum(f:Nat->Nat):Nat->Nat
 |0=>0
 |k+1=>sum f k+f (k+1)
def sgn(n x:Nat):Int:=if 2*(x%n)<n then 1 else -1
def ab(n x:Nat):Nat:=if 2*(x%n)<n then x%n else n-x%n
def GS(a n:Nat):Int:=prod (λk=>sgn n (a*k)) (n/2)
theorem prod_congr{f g:Nat->Int}:∀h,(∀k,1<=k->k<=h->f k=g k)->prod f h=prod g h
 |0,_=>rfl
 |h+1,e=>by rw[prod,prod,prod_congr h λk h1 h2=>e k h1 (by omega),e (h+1) (by omega) (qE _)]
theorem zlb{f g:Nat->Nat}:∀h,(∀k,1<=k->k<=h->f k=g k)->sum f h=sum g h
 |0,_=>rfl
 |h+1,e=>by rw[sum,sum,zlb h λk h1 h2=>e k h1 (by omega),e (h+1) (by omega) (qE _)]
theorem zuo(f g:Nat->Int):∀h,prod (λk=>f k*g k) h=prod f h*prod g h
 |0=>rfl
 |h+1=>by
  have:=zuo f g h;simp only[prod]at this ⊢;rw[this];grind
theorem zjv(f g:Nat->Nat):∀h,sum (λk=>f k+g k) h=sum f h+sum g h
 |0=>rfl
 |h+1=>by
  have:=zjv f g h;simp only[sum]at this ⊢;omega
theorem zlc(c:Nat):∀h,sum (λ_=>c) h=h*c
 |0=>by simp[sum]
 |h+1=>by
  have:=zlc c h;simp only[sum]at this ⊢;rw[this,yE]
theorem qdh(f:Nat->Nat->Nat)(g:Nat):∀h,sum (λk=>sum (f k) g) h=sum (λj=>sum (λk=>f k j) h) g
 |0=>by
  have:=zlc 0 g;simp only[sum]at this ⊢;omega
 |h+1=>by
  have:=qdh f g h;simp only[sum]at this ⊢;rw[this,<-zjv]
theorem zjw{α:Type}[BEq α][LawfulBEq α]:∀{l L:List α},l.Nodup->(∀x∈l,x∈L)->l.length=L.length->l.Perm L
 | [],L,_,_,h=>by
  have:L=[]:=List.length_eq_zero_iff.1 h.symm;rw[this]
 |x::l,L,hn,hs,hl=>by
  have hx:x∈L:=hs x (by simp);have p:=yS hx;have hn':=List.nodup_cons.1 hn;refine((zjw hn'.2 (λy hy=>?_) ?_).cons x).trans p.symm
  ·exact(yR (λe=>hn'.1 (by rw[<-e];exact hy))).2 (hs y (by simp[hy]))
  ·have:=p.length_eq;simp only[xL]at this hl;omega
theorem qgk{l L:List Int}(p:l.Perm L):l.foldr (· * ·) 1=L.foldr (· * ·) 1:=by
 induction p with
 |nil=>rfl
 |cons x _ ih=>simp only[qN,ih]
 |swap x y l=>simp only[qN];exact Int.mul_left_comm _ _ _
 |trans _ _ h1 h2=>exact h1.trans h2
theorem qmt{l L:List Nat}(p:l.Perm L):l.foldr (· + ·) 0=L.foldr (· + ·) 0:=by
 induction p with
 |nil=>rfl
 |cons x _ ih=>simp only[qN,ih]
 |swap x y l=>simp only[qN];omega
 |trans _ _ h1 h2=>exact h1.trans h2
theorem zmy(l:List Int)(x:Int):(l++[x]).foldr (· * ·) 1=l.foldr (· * ·) 1*x:=by
 induction l with
 |nil=>simp
 |cons a l ih=>simp only[xU,qN,ih,zX]
theorem zmz(l:List Nat)(x:Nat):(l++[x]).foldr (· + ·) 0=l.foldr (· + ·) 0+x:=by
 induction l with
 |nil=>simp
 |cons a l ih=>simp only[xU,qN,ih];omega
theorem zqc(f:Nat->Int):∀h,prod f h=((List.range h).map λk=>f (k+1)).foldr (· * ·) 1
 |0=>rfl
 |h+1=>by rw[yI,qM,yQ,zmy,<-zqc f h];rfl
theorem zup(f:Nat->Nat):∀h,sum f h=((List.range h).map λk=>f (k+1)).foldr (· + ·) 0
 |0=>rfl
 |h+1=>by rw[yI,qM,yQ,zmz,<-zup f h];rfl
section
variable{h:Nat}{σ:Nat->Nat}(hr:∀k,1<=k->k<=h->1<=σ k/\σ k<=h)(hi:∀j k,1<=j->j<k->k<=h->σ j≠σ k)
include hr hi
theorem zrx:((List.range h).map λk=>σ (k+1)).Perm ((List.range h).map λk=>k+1):=by
 refine zjw ?_ (λx hx=>?_) (by simp)
 ·refine List.pairwise_map.2 (List.Pairwise.imp_of_mem (λha hb hab=>?_) yG);exact hi _ _ (by omega) (by omega) (by have:=List.mem_range.1 hb;omega)
 ·obtain⟨k,hk,rfl⟩:=List.mem_map.1 hx;have:=hr (k+1) (by omega) (by have:=List.mem_range.1 hk;omega);exact List.mem_map.2 ⟨σ (k+1)-1,List.mem_range.2 (by omega),by omega⟩
theorem zxf(f:Nat->Int):prod (λk=>f (σ k)) h=prod f h:=by
 rw[zqc,zqc];have:=(zrx hr hi).map f;rw[xH,xH]at this;exact qgk this
theorem qsv(f:Nat->Nat):sum (λk=>f (σ k)) h=sum f h:=by
 rw[zup,zup];have:=(zrx hr hi).map f;rw[xH,xH]at this;exact qmt this
end
theorem jab{n u v:Nat}(hn:0<n)(h:(u+v)%n=0)(hv:v%n≠0):u%n=n-v%n:=by
 rw[Nat.add_mod]at h;have h1:=xX u hn;have h2:=xX v hn;rcases xZ (u%n+v%n) n with h3 | h3
 ·rw[yU h3]at h;omega
 ·rw[Nat.mod_eq_sub_mod h3,yU (by omega)]at h;omega
theorem ndvd{n b k:Nat}(hc:Nat.Coprime n b)(h1:1<=k)(h2:k<n):(b*k)%n≠0:=λh=>by
 have:=hc.dvd_of_dvd_mul_left (qO h);exact absurd (zZ (by omega) this) (by omega)
theorem qal{n y:Nat}(hn:n%2=1)(hy:y%n≠0):1<=ab n y/\ab n y<=n/2:=by
 have:=xX y (show 0<n by omega);unfold ab;split<;>omega
theorem qam{n y:Nat}(hn:0<n)(a:Nat):(a*(n-y%n)+a*y)%n=0:=by
 have h1:=xX y hn;have h2:=yL y n
 have:a*(n-y%n)+a*y=n*(a*(y/n+1)):=by
  rw[<-zG,show n-y%n+y=n*(y/n+1) by rw[zG];omega];exact zA _ _ _
 rw[this];exact yJ _ _
theorem jdu{n a y:Nat}(hn:n%2=1)(h:(a*y)%n≠0):sgn n (a*y)=sgn n y*sgn n (a*ab n y):=by
 have hn0:0<n:=by omega
 unfold ab;by_cases hl:2*(y%n)<n
 ·rw[if_pos hl,show sgn n y=1 from if_pos hl,qG];unfold sgn;rw[yK,yK a (y%n),Nat.mod_mod]
 ·rw[if_neg hl,show sgn n y= -1 from if_neg hl];have e:=jab hn0 (qam hn0 a) h;have h1:=xX (a*y) hn0;unfold sgn;rw[e];by_cases h2:2*(a*y%n)<n
  ·rw[if_pos h2,if_neg (by omega)];rfl
  ·rw[if_neg h2,if_pos (by omega)];rfl
theorem qmu{n b j k:Nat}(hn:n%2=1)(hc:Nat.Coprime n b)(h1:1<=j)(h2:j<k)(h3:k<=n/2):ab n (b*j)≠ab n (b*k):=λh=>by
 have a1:=ndvd hc h1 (by omega);have a2:=ndvd hc (show 1<=k by omega) (by omega);have b1:=xX (b*j) (show 0<n by omega);have b2:=xX (b*k) (show 0<n by omega)
 have hor:b*j%n=b*k%n\/b*j%n+b*k%n=n:=by
  unfold ab at h;split at h<;>split at h<;>omega
 rcases hor with e | e
 ·have:(b*(k-j))%n=0:=by rw[Nat.mul_sub];exact Nat.sub_mod_eq_zero_of_mod_eq e.symm
  exact ndvd hc (by omega) (by omega) this
 ·have:(b*(j+k))%n=0:=by rw[zG,Nat.add_mod,e,Nat.mod_self]
  exact ndvd hc (by omega) (by omega) this
theorem qvl{n a b:Nat}(hn:n%2=1)(ha:Nat.Coprime n a)(hb:Nat.Coprime n b):GS (a*b) n=GS a n*GS b n:=by
 have hab:Nat.Coprime n (a*b):=Nat.Coprime.mul_right ha hb;unfold GS;rw[<-zxf (f:=λk=>sgn n (a*k)) (σ:=λk=>ab n (b*k)) (λk h1 h2=>qal hn (ndvd hb h1 (by omega))) (λj k h1 h2 h3=>qmu hn hb h1 h2 h3),<-zuo];refine prod_congr _ λk h1 h2=>?_
 have:=ndvd hab h1 (by omega);rw[yW]at this ⊢;rw[jdu hn this,xI]
theorem qdi{n a:Nat}:GS (a%n) n=GS a n:=by
 unfold GS sgn;refine prod_congr _ λk _ _=>?_
 rw[yK,Nat.mod_mod,<-yK]
theorem pow_two_mod(m:Nat):(-1:Int)^m=if m%2=0 then 1 else -1:=by
 induction m with
 |zero=>rfl
 |succ m ih=>rw[qD,ih];split<;>split<;>omega
theorem zmp(n:Nat):∀h,prod (λk=>if 4*k<n then 1 else -1) h=(-1)^(h-min h ((n-1)/4))
 |0=>rfl
 |h+1=>by
  have:=zmp n h;simp only[prod]at this ⊢;rw[this];by_cases e:4*(h+1)<n
  ·rw[if_pos e,xN,show h+1-min (h+1) ((n-1)/4)=h-min h ((n-1)/4) by omega]
  ·rw[if_neg e,show h+1-min (h+1) ((n-1)/4)=h-min h ((n-1)/4)+1 by omega,qD]
theorem qvm{n:Nat}(hn:n%2=1):GS 2 n=if n%8=3\/n%8=5 then -1 else 1:=by
 have e:GS 2 n=prod (λk=>if 4*k<n then 1 else -1) (n/2):=by
  refine prod_congr _ λk h1 h2=>?_
  unfold sgn;rw[yU (by omega),<-yW]
 rw[e,zmp,pow_two_mod];split<;>split<;>omega
def neg(n x:Nat):Nat:=if 2*(x%n)<n then 0 else 1
theorem qdj(a n:Nat):∀h,prod (λk=>sgn n (a*k)) h=(-1)^sum (λk=>neg n (a*k)) h
 |0=>rfl
 |h+1=>by
  have:=qdj a n h;simp only[prod,sum]at this ⊢;rw[this];unfold sgn neg;split
  ·rw[xN,Nat.add_zero]
  ·rw[qD]
theorem qdk(f:Nat->Nat):∀h,(∀k,1<=k->k<=h->f k%2=0)->sum f h%2=0
 |0,_=>rfl
 |h+1,e=>by
  have h1:=qdk f h λk a b=>e k a (by omega)
  have h2:=e (h+1) (by omega) (qE _);simp only[sum];omega
theorem zxg{a n:Nat}(ha:a%2=1)(hn:n%2=1)(hc:Nat.Coprime n a):(sum (λk=>neg n (a*k)) (n/2)+sum (λk=>a*k/n) (n/2))%2=0:=by
 have hp:=qsv (f:=λk=>k) (σ:=λk=>ab n (a*k)) (λk h1 h2=>qal hn (ndvd hc h1 (by omega))) (λj k h1 h2 h3=>qmu hn hc h1 h2 h3)
 have he:=qdk (λk=>neg n (a*k)+a*k/n+(ab n (a*k)+k)) (n/2) λk h1 h2=>by
  have hd:=yL (a*k) n;have hm:=xX (a*k) (show 0<n by omega)
  have e1:a*k=2*(a/2*k)+k:=by
   rw[<-yW,<-yE];congr 1;omega
  have e2:n*(a*k/n)=2*(n/2*(a*k/n))+a*k/n:=by
   rw[<-yW,<-yE];congr 1;omega
  unfold neg ab;generalize a/2*k=u at*;generalize n/2*(a*k/n)=v at*;generalize a*k/n=q at*;generalize a*k%n=r at*;split<;>omega
 rw[zjv,zjv,zjv,hp]at he;omega
theorem zxh{n:Nat}(hn:0<n)(x:Nat):∀g,sum (λj=>if n*j<=x then 1 else 0) g=min g (x/n)
 |0=>by simp[sum]
 |g+1=>by
  have:=zxh hn x g;simp only[sum]at this ⊢;rw[this];have e:n*(g+1)<=x↔g+1<=x/n:=by rw[Nat.le_div_iff_mul_le hn,Nat.mul_comm]
  by_cases h:n*(g+1)<=x
  ·rw[if_pos h];have:=e.1 h;omega
  ·rw[if_neg h];have:=mt e.2 h;omega
theorem qmv{a n:Nat}(ha:a%2=1)(hn:n%2=1)(hc:Nat.Coprime n a):sum (λk=>a*k/n) (n/2)+sum (λj=>n*j/a) (a/2)=n/2*(a/2):=by
 have key:∀{a n:Nat},a%2=1->n%2=1->sum (λk=>a*k/n) (n/2)=sum (λk=>sum (λj=>if n*j<=a*k then 1 else 0) (a/2)) (n/2):=by
  intro a n ha hn;refine zlb _ λk h1 h2=>?_
  rw[zxh (by omega)]
  have:a*k/n<a/2+1:=by
   rw[Nat.div_lt_iff_lt_mul (by omega)];have h3:2*(a*k)<=a*(n-1):=by rw[zA];exact xB a (by omega)
   have h4:a*(n-1)<(a+1)*n:=by
    have:a*(n-1)<=a*n:=xB a (by omega);rw[yE];omega
   have h5:(a/2+1)*n*2=(a+1)*n:=by rw[Nat.mul_right_comm];congr 1;omega
   omega
  omega
 rw[key ha hn,key hn ha,qdh (λj k=>if a*k<=n*j then 1 else 0),<-zjv,<-zlc (a/2)];refine zlb _ λk h1 h2=>?_
 rw[<-zjv]
 have:∀j,1<=j->j<=a/2->((if n*j<=a*k then 1 else 0)+if a*k<=n*j then 1 else 0:Nat)=1:=by
  intro j j1 j2;have:n*j≠a*k:=λe=>ndvd hc h1 (by omega) (by rw[<-e];exact yJ _ _)
  split<;>split<;>omega
 rw[zlb _ this,zlc,Nat.mul_one]
theorem qdl{a n:Nat}(ha:a%2=1)(hn:n%2=1)(hc:Nat.Coprime n a):GS a n=(if a%4=3/\n%4=3 then -1 else 1)*GS n a:=by
 have h1:=zxg ha hn hc;have h2:=zxg hn ha hc.symm;have h3:=qmv ha hn hc;have hh:n/2*(a/2)%2=(n/2%2)*(a/2%2)%2:=yK _ _ _;unfold GS;rw[qdj,qdj,pow_two_mod,pow_two_mod];have c1:n/2%2=if n%4=3 then 1 else 0:=by split<;>omega
 have c2:a/2%2=if a%4=3 then 1 else 0:=by split<;>omega
 rw[c1,c2]at hh;generalize sum (λk=>neg n (a*k)) (n/2)=u at*;generalize sum (λk=>neg a (n*k)) (a/2)=v at*;generalize n/2*(a/2)=w at*;by_cases e1:a%4=3<;>by_cases e2:n%4=3<;>simp only[e1,e2,if_true,if_false,and_true,and_false,true_and,false_and]at hh ⊢ <;> split<;>split<;>omega
theorem qdm{p:Int}{f g:Nat->Int}:∀h,(∀k,1<=k->k<=h->p∣f k-g k)->p∣prod f h-prod g h
 |0,_=>by simp[prod]
 |h+1,e=>by
  obtain⟨x,hx⟩:=qdm h λk a b=>e k a (by omega)
  obtain⟨y,hy⟩:=e (h+1) (by omega) (qE _);refine⟨x*f (h+1)+prod g h*y,?_⟩;simp only[prod];grind
theorem zry(a:Int)(f:Nat->Int):∀h,prod (λk=>a*f k) h=a^h*prod f h
 |0=>by simp[prod]
 |h+1=>by
  have:=zry a f h;simp only[prod]at this ⊢;rw[this,qD];grind
theorem zxi{p:Nat}(hp:∀d,1<=d->d<p->Nat.Coprime p d)(h1:1<p):∀h,h<p->∀x:Int,(p:Int)∣x*prod (λk=>(k:Int)) h->(p:Int)∣x
 |0,_,x,h=>by simpa[prod]using h
 |h+1,hh,x,hd=>by
  simp only[prod]at hd;rw[<-zX]at hd;refine zxi hp h1 h (by omega) x ?_;have hc:=hp (h+1) (by omega) hh;have:=Int.natAbs_dvd_natAbs.2 hd;rw[Int.natAbs_mul]at this;exact Int.natAbs_dvd_natAbs.1 (hc.dvd_of_dvd_mul_right this)
theorem jgh{a p:Nat}(hp:∀d,1<=d->d<p->Nat.Coprime p d)(h2:p%2=1)(h1:1<p)(ha:Nat.Coprime p a):(p:Int)∣(a:Int)^(p/2)-GS a p:=by
 have hd:=qdm (p:=p) (f:=λk=>(a:Int)*(k:Int)) (g:=λk=>sgn p (a*k)*(ab p (a*k):Int)) (p/2) λk k1 k2=>by
  have hm:=xX (a*k) (show 0<p by omega);have e:=yL (a*k) p
  have e':(a:Int)*(k:Int)=(p:Int)*((a*k/p:Nat):Int)+((a*k%p:Nat):Int):=by
   rw[<-qI,<-qI,<-xP,e]
  unfold sgn ab;split
  ·exact⟨((a*k/p:Nat):Int),by rw[e'];omega⟩
  ·refine⟨((a*k/p:Nat):Int)+1,?_⟩;rw[e',zI];omega
 rw[zry,zuo]at hd;have hperm:=zxf (f:=λk=>(k:Int)) (σ:=λk=>ab p (a*k)) (λk k1 k2=>qal h2 (ndvd ha k1 (by omega))) (λj k h1 h2' h3=>qmu h2 ha h1 h2' h3);rw[hperm]at hd;refine zxi hp h1 (p/2) (by omega) _ ?_;rw[zL];exact hd
theorem jac(a n:Nat):GS a n=1\/GS a n= -1:=by
 unfold GS;rw[qdj,pow_two_mod];split
 ·exact .inl rfl
 ·exact .inr rfl
theorem qmw{a p:Nat}(hp:∀d,1<=d->d<p->Nat.Coprime p d)(h2:p%2=1)(h1:1<p)(ha:Nat.Coprime p a):GS a p=if a^(p/2)%p=1 then 1 else -1:=by
 obtain⟨x,hx⟩:=jgh hp h2 h1 ha;have hm:((a^(p/2)%p:Nat):Int)=((a:Int)^(p/2))%(p:Int):=by rw[xA,zN]
 have e:(a:Int)^(p/2)=GS a p+(p:Int)*x:=by omega
 rw[e,Int.add_mul_emod_self_left]at hm;rcases jac a p with g | g
 ·rw[g]at hm ⊢;rw[zB (by omega) (by omega)]at hm;rw[if_pos (by omega)]
 ·rw[g]at hm ⊢
  have:(-1:Int)%(p:Int)=(p:Int)-1:=by
   rw[<-Int.add_emod_right,zB (by omega) (by omega)];omega
  rw[this]at hm;rw[if_neg (by omega)]
end Go.QR
namespace Go.QR
open Nat renaming dvd_of_mod_eq_zero -> qO, mod_lt -> xX, lt_or_ge -> xZ, le_of_dvd -> zZ
open List renaming map_append -> qM, foldr_cons -> qN, cons_append -> xU, map_map -> xH, map_singleton -> yQ, pairwise_lt_range -> yG, range_succ -> yI
open Int renaming dvd_mul_of_dvd_right -> qU, toNat_of_nonneg -> qA, toNat_natCast -> qB, one_mul -> qG, dvd_mul_of_dvd_left -> qH, natCast_mul -> qI, emod_nonneg -> qL, dvd_sub -> qR, dvd_add -> qS, emod_lt_of_pos -> xJ, natCast_emod -> xA, mul_comm -> xI, mul_one -> xN, mul_le_mul_of_nonneg_left -> xO, natCast_add -> xP, add_zero -> xR, dvd_iff_emod_eq_zero -> yV, le_of_dvd -> yY, mul_zero -> yD, zero_mul -> yH, mul_sub -> yT, sub_zero -> zU, natCast_zero -> zE, mul_add -> zI
open Bool renaming and_eq_true -> zD
open Go.Det (sumR zae zcl)
theorem sumR_add(f g:Nat->Int):∀n,sumR (λi=>f i+g i) n=sumR f n+sumR g n
 |0=>rfl
 |n+1=>by simp only[sumR,sumR_add f g n];omega
theorem sumR_mul(c:Int)(f:Nat->Int):∀n,sumR (λi=>c*f i) n=c*sumR f n
 |0=>by simp[sumR]
 |n+1=>by simp only[sumR,sumR_mul c f n,zI]
theorem zmd(c:Int):∀n,sumR (λ_=>c) n=(n:Int)*c
 |0=>by simp[sumR]
 |n+1=>by simp only[sumR,zmd c n];rw[xP,Int.add_mul];simp
theorem zii(f:Nat->Nat->Int)(m:Nat):∀n,sumR (λi=>sumR (f i) m) n=sumR (λj=>sumR (λi=>f i j) n) m
 |0=>by simp only[sumR];exact(zcl λ_ _=>rfl).symm
 |n+1=>by simp only[sumR,zii f m n,<-sumR_add]
theorem sumR_one{g:Nat->Int}{i:Nat}:∀{n},i<n->(∀j,j<n->j≠i->g j=0)->sumR g n=g i
 |n+1,hi,e=>by
  simp only[sumR];by_cases h:i=n
  ·subst h;rw[zcl λj hj=>e j (by omega) (by omega),Int.zero_add]
  ·rw[sumR_one (by omega) λj hj=>e j (by omega),e n (by omega) (by omega),xR]
theorem sumR_le{f g:Nat->Int}:∀{n},(∀i,i<n->f i<=g i)->sumR f n<=sumR g n
 |0,_=>Int.le_refl _
 |n+1,h=>by
  have:=sumR_le λi (hi:i<n)=>h i (by omega)
  have:=h n (by omega);simp only[sumR];omega
theorem qmx{f g:Nat->Int}:∀{n},(∀i,i<n->f i<=g i)->sumR f n=sumR g n->∀i,i<n->f i=g i
 |n+1,h,e,i,hi=>by
  have h1:=sumR_le λi (hi:i<n)=>h i (by omega)
  have h2:=h n (by omega);simp only[sumR]at e;rcases xZ i n with hin | hin
  ·exact qmx (λi hi=>h i (by omega)) (by omega) i hin
  ·obtain rfl:i=n:=by omega
   omega
theorem qmy{l L:List Int}(p:l.Perm L):l.foldr (· + ·) 0=L.foldr (· + ·) 0:=by
 induction p with
 |nil=>rfl
 |cons x _ ih=>simp only[qN,ih]
 |swap x y l=>simp only[qN];omega
 |trans _ _ h1 h2=>exact h1.trans h2
theorem qgl(l:List Int)(x:Int):(l++[x]).foldr (· + ·) 0=l.foldr (· + ·) 0+x:=by
 induction l with
 |nil=>simp
 |cons a l ih=>simp only[xU,qN,ih];omega
theorem zqd(f:Nat->Int):∀n,sumR f n=((List.range n).map f).foldr (· + ·) 0
 |0=>rfl
 |n+1=>by rw[yI,qM,yQ,qgl,<-zqd f n];rfl
theorem qmz{n:Nat}{σ:Nat->Nat}(hr:∀k,k<n->σ k<n)(hi:∀j k,j<k->k<n->σ j≠σ k)(f:Nat->Int):sumR (λk=>f (σ k)) n=sumR f n:=by
 rw[zqd,zqd]
 have:((List.range n).map σ).Perm (List.range n):=by
  refine zjw ?_ (λx hx=>?_) (by simp)
  ·refine List.pairwise_map.2 (List.Pairwise.imp_of_mem (λha hb hab=>?_) yG);exact hi _ _ hab (List.mem_range.1 hb)
  ·obtain⟨k,hk,rfl⟩:=List.mem_map.1 hx;exact List.mem_range.2 (hr k (List.mem_range.1 hk))
 have:=this.map f;rw[xH]at this;exact qmy this
structure Pr(p:Nat):Prop where
 one:1<p
 odd:p%2=1
 cop:∀d,1<=d->d<p->Nat.Coprime p d
theorem Pr.coprime{p:Nat}(h:Pr p){x:Nat}(hx:¬p∣x):Nat.Coprime p x:=by
 have h1:=h.one;have h2:=xX x (show 0<p by omega);have h3:x%p≠0:=λe=>hx (qO e)
 have:=h.cop (x%p) (by omega) h2;unfold Nat.Coprime at this ⊢;rw[Nat.gcd_rec,Nat.gcd_comm];exact this
theorem Pr.euclid{p:Nat}(h:Pr p){a b:Int}(hab:(p:Int)∣a*b)(ha:¬(p:Int)∣a):(p:Int)∣b:=by
 have hc:Nat.Coprime p a.natAbs:=h.coprime λhd=>ha (Int.ofNat_dvd_left.2 hd)
 have:=Int.ofNat_dvd_left.1 hab;rw[Int.natAbs_mul]at this;exact Int.ofNat_dvd_left.2 (hc.dvd_of_dvd_mul_left this)
def Per(p:Nat)(φ:Int->Int):Prop:= ∀x y,(p:Int)∣x-y->φ x=φ y
def SR(p:Nat)(φ:Int->Int):Int:=sumR (λu=>φ (u:Int)) p
theorem zxj{p u v:Nat}(hu:u<p)(hv:v<p)(h:(p:Int)∣(u:Int)-v):u=v:=by
 obtain⟨k,hk⟩:=h
 have h1:¬0<k:=λhh=>by
  have:=xO (show 1<=k from hh) (show(0:Int)<=p by omega);omega
 have h2:¬k<0:=λhh=>by
  have:=xO (show k<= -1 by omega) (show(0:Int)<=p by omega);omega
 have:k=0:=by omega
 subst this;omega
theorem emod_dvd(x:Int)(p:Nat):(p:Int)∣x-x%(p:Int):=⟨x/p,by have:=Int.mul_ediv_add_emod x p;omega⟩
theorem qan{p:Nat}(x v:Int):(p:Int)∣x-v↔(p:Int)∣x%(p:Int)-v:=by
 have hd:=emod_dvd x p;constructor
 ·intro h;have:=qR h hd
  rwa[show x-v-(x-x%(p:Int))=x%(p:Int)-v by omega]at this
 ·intro h;have:=qS h hd
  rwa[show x%(p:Int)-v+(x-x%(p:Int))=x-v by omega]at this
section
variable{p:Nat}(P:Pr p)
include P
theorem zrz{A l:Int}(hA:¬(p:Int)∣A){φ:Int->Int}(hφ:Per p φ):SR p (λu=>φ (A*u+l))=SR p φ:=by
 have h0:=P.one;have hn:∀x:Int,0<=x%(p:Int):=λx=>qL _ (by omega)
 have hl:∀x:Int,x%(p:Int)<p:=λx=>xJ _ (by omega)
 have key:=qmz (n:=p) (σ:=λu=>((A*(u:Int)+l)%(p:Int)).toNat) (λk _=>by have:=hn (A*(k:Int)+l);have:=hl (A*(k:Int)+l);omega) (λj k hjk hk e=>by
  have e2:(A*(j:Int)+l)%(p:Int)=(A*(k:Int)+l)%(p:Int):=by have:=hn (A*(k:Int)+l);have:=hn (A*(j:Int)+l);omega
  have d1:=emod_dvd (A*(j:Int)+l) p;have d2:=emod_dvd (A*(k:Int)+l) p;rw[e2]at d1;have d3:=qR d1 d2
  have d4:(p:Int)∣A*((j:Int)-k):=by
   rw[yT];have e3:A*(j:Int)+l-(A*(k:Int)+l)%(p:Int)-(A*(k:Int)+l-(A*(k:Int)+l)%(p:Int))=A*(j:Int)-A*(k:Int):=by omega
   rwa[e3]at d3
  have:=zxj (by omega) hk (P.euclid d4 hA);omega) (λu=>φ (u:Int))
 refine Eq.trans (zae λu _=>?_) key;refine hφ _ _ ?_;rw[qA (hn _)];exact emod_dvd _ p
def chi(p:Nat)(v:Int):Int:=if(p:Int)∣v then 0 else GS (v%(p:Int)).toNat p
omit P in
theorem zhh:Per p (chi p):=by
 intro x y h;unfold chi;have e:x%(p:Int)=y%(p:Int):=Int.emod_eq_emod_iff_emod_sub_eq_zero.2 (Int.emod_eq_zero_of_dvd h);have:(p:Int)∣x↔(p:Int)∣y:=by rw[yV,yV,e]
 simp only[this,e]
omit P in
theorem chi_zero{v:Int}(h:(p:Int)∣v):chi p v=0:=if_pos h
omit P in
theorem chi_pm{v:Int}(h:¬(p:Int)∣v):chi p v=1\/chi p v= -1:=by
 unfold chi;rw[if_neg h];exact jac _ _
theorem zen(a b:Int):chi p (a*b)=chi p a*chi p b:=by
 have h0:=P.one;by_cases ha:(p:Int)∣a
 ·rw[chi_zero ha,chi_zero (qH ha),yH]
 by_cases hb:(p:Int)∣b
 ·rw[chi_zero hb,chi_zero (qU hb),yD]
 have hab:¬(p:Int)∣a*b:=λh=>hb (P.euclid h ha)
 unfold chi;rw[if_neg ha,if_neg hb,if_neg hab];have hna:0<=a%(p:Int):=qL _ (by omega);have hnb:0<=b%(p:Int):=qL _ (by omega)
 have hc:∀x:Int,¬(p:Int)∣x->0<=x%(p:Int)->Nat.Coprime p (x%(p:Int)).toNat:=λx hx h=>P.coprime λhd=>hx (by
  have:(p:Int)∣((x%(p:Int)).toNat:Int):=Int.natCast_dvd_natCast.2 hd;rw[qA h]at this;have h2:=qS (emod_dvd x p) this
  rwa[show x-x%(p:Int)+x%(p:Int)=x by omega]at h2)
 have e:(a*b%(p:Int)).toNat=(a%(p:Int)).toNat*(b%(p:Int)).toNat%p:=by
  have:((a%(p:Int)).toNat*(b%(p:Int)).toNat%p:Nat)=((a*b%(p:Int)).toNat:Int):=by
   rw[xA,qI,qA hna,qA hnb,qA (qL _ (by omega)),<-Int.mul_emod]
  omega
 rw[e,qdi,qvl P.odd (hc a ha hna) (hc b hb hnb)]
theorem qna{u:Int}(h:¬(p:Int)∣u):chi p (u*u)=1:=by
 rw[zen P];rcases chi_pm h with e | e<;>rw[e]<;>rfl
theorem jdv{u:Int}(h:(p:Int)∣u*u):(p:Int)∣u:=by
 by_cases hu:(p:Int)∣u
 ·exact hu
 ·exact P.euclid h hu
omit P in
theorem jdw(v:Int): -1<=chi p v:=by
 by_cases h:(p:Int)∣v
 ·rw[chi_zero h];omega
 ·rcases chi_pm h with e | e<;>omega
end
def nonB(p:Nat):Bool:=p%8 == 3 || p%8 == 5 || [3,5,7,11,13,17,19].any (λq=>decide (q<p) && (if q%4=3/\p%4=3 then -1 else 1)*GS (p%q) q == -1) || (List.range 26).any λd=>decide (2*d+3<p) && p%(2*d+3) == 0
theorem qsw:(List.range 1500).all (λk=>nonB (2*k+3))=true:=by decide +kernel
theorem jdx{p:Nat}(P:Pr p)(hb:p<=3000):∃b:Int,chi p b= -1:=by
 have h1:=P.one;have h2:=P.odd;have h:=List.all_eq_true.1 qsw ((p-3)/2) (List.mem_range.2 (by omega));rw[show 2*((p-3)/2)+3=p by omega]at h
 have fromGS:∀q:Nat,q<p->1<=q->GS q p= -1->∃b:Int,chi p b= -1:=λq hq h1 e=>by
  refine⟨(q:Int),?_⟩;unfold chi;rw[if_neg λhd=>by have:=zZ (by omega) (Int.natCast_dvd_natCast.1 hd);omega,<-xA,qB,qdi,e]
 have two:p%8=3\/p%8=5->∃b:Int,chi p b= -1:=λh=>fromGS 2 (by omega) (by omega) (by rw[qvm h2,if_pos h])
 simp only[nonB,Bool.or_eq_true,beq_iff_eq]at h;rcases h with((h | h) | h) | h
 ·exact two (.inl h)
 ·exact two (.inr h)
 ·obtain⟨q,hq,h⟩:=List.any_eq_true.1 h;simp only[zD,decide_eq_true_eq,beq_iff_eq]at h
  have hq3:q%2=1/\1<=q:=by
   simp only[List.mem_cons,List.not_mem_nil,or_false]at hq;omega
  refine fromGS q h.1 hq3.2 ?_;rw[qdl hq3.1 h2 (P.cop q hq3.2 h.1),<-qdi (a:=p)];exact h.2
 ·obtain⟨d,hd,h⟩:=List.any_eq_true.1 h;simp only[zD,decide_eq_true_eq,beq_iff_eq]at h;have:=P.cop (2*d+3) (by omega) h.1;have h3:=this.symm.eq_one_of_dvd (qO h.2);omega
section
variable{p:Nat}(P:Pr p)
include P
omit P in
theorem qvn(w:Nat)(hw:w<p)(f:Nat->Int):sumR (λv=>(if(p:Int)∣(w:Int)-v then 1 else 0)*f v) p=f w:=by
 rw[sumR_one hw λj hj hne=>by rw[if_neg λh=>hne (zxj hw hj h).symm,yH],if_pos (by rw[Int.sub_self];exact Int.dvd_zero _),qG]
theorem zxk(hb:p<=3000):SR p (chi p)=0:=by
 obtain⟨b,h⟩:=jdx P hb;have hu:¬(p:Int)∣b:=λhd=>by rw[chi_zero hd]at h;omega
 have e:=zrz P (l:=0) hu zhh
 have e2:SR p (λu=>chi p (b*u+0))= -1*SR p (chi p):=by
  unfold SR;rw[<-sumR_mul];refine zae λu _=>?_
  show chi p (b*u+0)=_
  rw[xR,zen P,h]
 omega
theorem jgi(hb:p<=3000)(v:Nat)(hv:v<p):sumR (λu=>if(p:Int)∣(u:Int)*u-v then 1 else 0) p=1+chi p v:=by
 have h0:=P.one;refine qmx (f:=λv=>sumR (λu=>if(p:Int)∣(u:Int)*u-v then 1 else 0) p) (g:=λv=>1+chi p v) (n:=p) (λv hv=>?_) ?_ v hv
 ·by_cases hx:∃u0,u0<p/\(p:Int)∣(u0:Int)*u0-v
  ·obtain⟨u0,hu0,hd⟩:=hx;by_cases hv0:(p:Int)∣(v:Int)
   ·show sumR _ p<=1+chi p v
    rw[chi_zero hv0]
    have:sumR (λu=>if(p:Int)∣(u:Int)*u-v then 1 else 0) p=if(p:Int)∣((0:Nat):Int)*(0:Nat)-v then 1 else 0:=by
     refine sumR_one (i:=0) (by omega) λj hj hne=>if_neg λh=>hne ?_
     have h2:=qS h hv0;rw[Int.sub_add_cancel]at h2;exact zxj hj (by omega) (by simpa using jdv P h2)
    rw[this];split<;>omega
   ·have hcv:chi p v=1:=by
     rw[<-zhh _ _ hd,qna P λh=>hv0 ?_];have:=qR (qH (c:=(u0:Int)) h) hd
     rwa[show(u0:Int)*u0-((u0:Int)*u0-v)=v by omega]at this
    show sumR _ p<=1+chi p v
    rw[hcv]
    have hle:sumR (λu=>if(p:Int)∣(u:Int)*u-v then 1 else 0) p<=sumR (λu=>(if u=u0 then 1 else 0)+if u=p-u0 then 1 else 0) p:=by
     refine sumR_le λu hu=>?_
     by_cases h:(p:Int)∣(u:Int)*u-v
     ·rw[if_pos h];have h3:=qR h hd;rw[show(u:Int)*u-v-((u0:Int)*u0-v)=((u:Int)-u0)*((u:Int)+u0) by grind]at h3;by_cases h4:(p:Int)∣(u:Int)-u0
      ·rw[if_pos (zxj hu hu0 h4)];split<;>omega
      ·have h5:=P.euclid h3 h4;have hne:u0≠0:=λe=>h4 (by subst e;simpa using h5)
       have:u=p-u0:=zxj hu (by omega) (by
        have:=qR h5 (Int.dvd_refl (p:Int))
        rwa[show(u:Int)+u0-p=(u:Int)-((p-u0:Nat):Int) by omega]at this)
       rw[if_pos this];split<;>omega
     ·rw[if_neg h];split<;>split<;>omega
    rw[sumR_add]at hle
    have one:∀w:Nat,sumR (λu=>if u=w then 1 else 0) p<=1:=λw=>by
     by_cases hw:w<p
     ·rw[sumR_one hw λj _ hne=>if_neg hne,if_pos rfl];omega
     ·rw[zcl λj hj=>if_neg (by omega)];omega
    have:=one u0;have:=one (p-u0);omega
  ·show sumR _ p<=1+chi p v
   rw[zcl λu hu=>if_neg λh=>hx ⟨u,hu,h⟩];have:=jdw (p:=p) (v:Int);omega
 ·show sumR (λv=>sumR (λu=>if(p:Int)∣(u:Int)*u-v then 1 else 0) p) p=sumR (λv=>1+chi p v) p
  rw[zii,sumR_add];have h1:=zxk P hb;unfold SR at h1;rw[h1,xR];refine zae λu _=>?_
  have hn:0<=(u:Int)*u%(p:Int):=qL _ (by omega);have hl:(u:Int)*u%(p:Int)<p:=xJ _ (by omega);obtain⟨w,hw⟩:∃w:Nat,(w:Int)=(u:Int)*u%(p:Int):=⟨_,qA hn⟩
  rw[<-hw]at hl;have:=qvn w (by omega) (p:=p) (λ_=>1);refine Eq.trans (zae λv _=>?_) this;rw[xN,hw];have:=qan (p:=p) ((u:Int)*u) v;simp only[this]
theorem jgj(hb:p<=3000){ψ:Int->Int}(hψ:Per p ψ):SR p (λu=>ψ (u*u))=SR p (λv=>(1+chi p v)*ψ v):=by
 have h0:=P.one
 have e:SR p (λu=>ψ (u*u))=sumR (λu=>sumR (λv=>(if(p:Int)∣(u:Int)*u-v then 1 else 0)*ψ v) p) p:=by
  refine zae λu _=>?_
  have hn:0<=(u:Int)*u%(p:Int):=qL _ (by omega);have hl:(u:Int)*u%(p:Int)<p:=xJ _ (by omega);have hd:=emod_dvd ((u:Int)*u) p;rw[sumR_one (i:=((u:Int)*u%(p:Int)).toNat) (by omega) λj hj hne=>?_,qA hn,if_pos hd,qG]
  ·exact hψ _ _ hd
  ·rw[if_neg λh=>hne ?_,yH];refine zxj hj (by omega) ?_;rw[qA hn];have:=qR hd h
   rwa[show(u:Int)*u-(u:Int)*u%(p:Int)-((u:Int)*u-j)=(j:Int)-(u:Int)*u%(p:Int) by omega]at this
 rw[e,zii];refine zae λv hv=>?_
 show _=(1+chi p v)*ψ v
 rw[<-jgi P hb v hv,xI,<-sumR_mul];exact zae λu _=>xI _ _
theorem jdy(a b:Int):SR p (λw=>if(p:Int)∣w then a else b)=(p:Int)*b+(a-b):=by
 have h0:=P.one
 have e:SR p (λw=>if(p:Int)∣w then a else b)=sumR (λw=>b+(if w=0 then a-b else 0)) p:=by
  refine zae λw hw=>?_
  show(if(p:Int)∣(w:Int)then a else b)=_
  by_cases h:w=0
  ·subst h;rw[if_pos (show(p:Int)∣((0:Nat):Int)from Int.dvd_zero _),if_pos rfl];omega
  ·rw[if_neg λhd=>h (zxj hw (v:=0) (by omega) (by rw[zE,zU];exact hd)),if_neg h];omega
 rw[e,sumR_add,zmd,sumR_one (i:=0) (by omega) λj _ hne=>if_neg hne,if_pos rfl]
theorem jdz(hb:p<=3000)(w:Int):SR p (λv=>chi p v*chi p (w-v))=chi p (-1)*if(p:Int)∣w then(p:Int)-1 else -1:=by
 have h0:=P.one
 have per:∀w,Per p λv=>chi p v*chi p (w-v):=λw x y h=>by
  have e2:chi p (w-x)=chi p (w-y):=zhh _ _ (by
   have:=(Int.dvd_neg).2 h
   rwa[show -(x-y)=w-x-(w-y) by omega]at this)
  show chi p x*chi p (w-x)=_
  rw[zhh _ _ h,e2]
 have j0:∀w:Int,(p:Int)∣w->SR p (λv=>chi p v*chi p (w-v))=chi p (-1)*((p:Int)-1):=λw hw=>by
  have e:SR p (λv=>chi p v*chi p (w-v))=SR p λv=>if(p:Int)∣v then 0 else chi p (-1):=by
   refine zae λv _=>?_
   have e1:chi p (w-(v:Int))=chi p (-1)*chi p v:=by
    rw[<-zen P];refine zhh _ _ ?_
    rwa[show w-(v:Int) - -1*(v:Int)=w by omega]
   show chi p v*chi p (w-(v:Int))=if(p:Int)∣(v:Int)then 0 else chi p (-1)
   rw[e1];split
   ·rename_i h;rw[chi_zero h,yH]
   ·rename_i h;rcases chi_pm h with e | e<;>rw[e]<;>omega
  rw[e,jdy P];grind
 have j1:∀w:Int,¬(p:Int)∣w->SR p (λv=>chi p v*chi p (w-v))=SR p (λv=>chi p v*chi p (1-v)):=λw hw=>by
  rw[<-zrz P (l:=0) hw (per w)];refine zae λv _=>?_
  have e1:w-(w*(v:Int)+0)=w*(1-v):=by rw[yT];omega
  show chi p (w*v+0)*chi p (w-(w*(v:Int)+0))=chi p v*chi p (1-v)
  rw[e1,xR,zen P,zen P];rcases chi_pm hw with e | e<;>rw[e]<;>grind
 have tot:SR p (λw=>SR p (λv=>chi p v*chi p (w-v)))=0:=by
  show sumR (λw=>sumR (λv=>chi p (v:Int)*chi p ((w:Int)-v)) p) p=0
  rw[zii];refine zcl λv _=>?_
  rw[sumR_mul];have:=zrz P (A:=1) (l:= -(v:Int)) (λh=>by have:=yY (by omega) h;omega) (zhh (p:=p));rw[zxk P hb]at this;have e:sumR (λi=>chi p ((i:Int)-v)) p=SR p λu=>chi p (1*u+ -(v:Int)):=zae λi _=>by congr 1;omega
  rw[e,this,yD]
 have tot2:SR p (λw=>SR p (λv=>chi p v*chi p (w-v)))=SR p (λw=>if(p:Int)∣w then chi p (-1)*((p:Int)-1)else SR p (λv=>chi p v*chi p (1-v))):=by
  refine zae λw _=>?_
  show _=if _ then _ else _
  split
  ·rename_i h;exact j0 _ h
  ·rename_i h;exact j1 _ h
 rw[jdy P,tot]at tot2;have key:((p:Int)-1)*(SR p (λv=>chi p v*chi p (1-v))+chi p (-1))=0:=by grind
 have key2:SR p (λv=>chi p v*chi p (1-v))= -chi p (-1):=by
  rcases Int.mul_eq_zero.1 key with h | h<;>omega
 split
 ·rename_i h;exact j0 w h
 ·rename_i h;rw[j1 w h,key2];omega
end
end Go.QR
namespace Go.QR
open Nat renaming one_ne_zero -> yM
open Int renaming mul_comm -> xI, le_of_dvd -> yY, mul_zero -> yD, mul_add -> zI
open Go.Det (Row sumR zae zcl zeg lead el bas zgp zgq zqb znp zun)
open Go.Count (allV zjr sumN ent gx nrm)
def cons(a:Int)(x:Nat->Int):Nat->Int
 |0=>a
 |i+1=>x i
def SX(p:Nat):Nat->((Nat->Int)->Int)->Int
 |0,G=>G λ_=>0
 |n+1,G=>SX p n λx=>SR p λu=>G (cons u x)
theorem jad(p q:Nat)(F:Int->Int->Int):SR p (λu=>SR q λv=>F u v)=SR q λv=>SR p λu=>F u v:=zii _ _ _
theorem zqe(p q:Nat):∀n (F:(Nat->Int)->Int->Int),SX p n (λx=>SR q λu=>F x u)=SR q λu=>SX p n λx=>F x u
 |0,F=>rfl
 |n+1,F=>by
  show SX p n (λx=>SR p λw=>SR q λu=>F (cons w x) u)=_
  rw[funext λx=>jad p q λw u=>F (cons w x) u,zqe p q n];rfl
theorem qvo(p:Nat)(c:Int):∀n (F:(Nat->Int)->Int),SX p n (λx=>c*F x)=c*SX p n F
 |0,F=>rfl
 |n+1,F=>by
  show SX p n (λx=>SR p λw=>c*F (cons w x))=_
  have e:(λx=>SR p λw=>c*F (cons w x))=λx=>c*SR p λw=>F (cons w x):=funext λx=>sumR_mul c (λw:Nat=>F (cons (w:Int) x)) p
  rw[e,qvo p c n];rfl
def qf(a:Nat->Row)(n:Nat)(x:Nat->Int):Int:=sumR (λi=>sumR (λj=>a i j*x j) n*x i) n
theorem jae{a:Nat->Row}{n:Nat}(hs:∀i j,i<=n->j<=n->a i j=a j i)(u:Int)(x:Nat->Int):
  a 0 0*qf a (n+1) (cons u x)=(a 0 0*u+sumR (λj=>a 0 (j+1)*x j) n)*(a 0 0*u+sumR (λj=>a 0 (j+1)*x j) n)+qf (el a) n x:=by
 have h1:qf a (n+1) (cons u x)=(a 0 0*u+sumR (λj=>a 0 (j+1)*x j) n)*u+(u*sumR (λj=>a 0 (j+1)*x j) n+sumR (λi=>sumR (λj=>a (i+1) (j+1)*x j) n*x i) n):=by
  unfold qf;rw[zeg,zeg];congr 1;rw[<-sumR_mul,<-sumR_add];refine zae λi hi=>?_
  rw[zeg];show(a (i+1) 0*u+sumR (λj=>a (i+1) (j+1)*x j) n)*x i=_
  rw[hs (i+1) 0 (by omega) (by omega)];grind
 have h2:qf (el a) n x=a 0 0*sumR (λi=>sumR (λj=>a (i+1) (j+1)*x j) n*x i) n+ -(sumR (λj=>a 0 (j+1)*x j) n)*sumR (λj=>a 0 (j+1)*x j) n:=by
  unfold qf el;rw[<-sumR_mul,<-sumR_mul,<-sumR_add];refine zae λi hi=>?_
  have:sumR (λj=>(a 0 0*a (i+1) (j+1)+ -a (i+1) 0*a 0 (j+1))*x j) n=a 0 0*sumR (λj=>a (i+1) (j+1)*x j) n+ -a (i+1) 0*sumR (λj=>a 0 (j+1)*x j) n:=by
   rw[<-sumR_mul,<-sumR_mul,<-sumR_add];exact zae λj _=>by grind
  rw[this,hs (i+1) 0 (by omega) (by omega)];grind
 rw[h1,h2];grind
theorem qao{j:Nat}(f y:Nat->Int)(d:Int):∀{m},j<m->sumR (λk=>f k*(y k+if k=j then d else 0)) m=sumR (λk=>f k*y k) m+f j*d:=λ{m} h=>by
 have:sumR (λk=>f k*if k=j then d else 0) m=f j*d:=by
  rw[sumR_one h λk _ hne=>by rw[if_neg hne,yD],if_pos rfl]
 rw[<-this,<-sumR_add];exact zae λk _=>zI _ _ _
theorem jea{a:Nat->Row}{n j:Nat}(c u:Int)(x:Nat->Int)(hj:j<n):qf (bas c (j+1) a) (n+1) (cons u x)=qf a (n+1) (cons u λi=>x i+if i=j then c*u else 0):=by
 have hy:∀k,cons u (λi=>x i+if i=j then c*u else 0) k=cons u x k+if k=j+1 then c*u else 0
  |0=>by show u=u+_;rw[if_neg (by omega)];omega
  |k+1=>by simp only[cons,Nat.add_right_cancel_iff]
 have hrow:∀i,sumR (λk=>bas c (j+1) a i k*cons u x k) (n+1)=sumR (λk=>zgp c (j+1) a i k*cons u (λi=>x i+if i=j then c*u else 0) k) (n+1):=λi=>by
  simp only[hy];rw[qao _ _ _ (show j+1<n+1 by omega)];rw[zeg,zeg];simp only[bas,zgq,if_pos,Nat.add_eq_zero_iff,yM,and_false,if_false,cons];grind
 unfold qf;simp only[hrow];generalize cons u (λi=>x i+if i=j then c*u else 0)=y at*
 have hT:∀i,sumR (λk=>zgp c (j+1) a i k*y k) (n+1)=sumR (λk=>a i k*y k) (n+1)+if i=0 then c*sumR (λk=>a (j+1) k*y k) (n+1)else 0
  |0=>by
   rw[if_pos rfl,<-sumR_mul,<-sumR_add];refine zae λk _=>?_
   simp only[zgp,if_pos];grind
  |i+1=>by simp[zgp]
 simp only[hT];have hf:=qao (λi=>sumR (λk=>a i k*y k) (n+1)) (cons u x) (c*u) (show j+1<n+1 by omega);have hg:=qao (cons u x) (λi=>sumR (λk=>a i k*y k) (n+1)) (c*sumR (λk=>a (j+1) k*y k) (n+1)) (show 0<n+1 by omega);simp only[<-hy]at hf;rw[hf];refine Eq.trans (zae λi _=>xI _ _) (hg.trans ?_);rw[zae (h:=λi=>sumR (λk=>a i k*y k) (n+1)*cons u x i) λi _=>xI _ _]
 show _+u*_=_
 grind
theorem qdn{p:Nat}(P:Pr p)(s:Int):∀(n j:Nat),j<n->∀(G:(Nat->Int)->Int),(∀x y,(∀i,(p:Int)∣x i-y i)->G x=G y)->SX p n (λx=>G λi=>x i+if i=j then s else 0)=SX p n G
 |n+1,j,hj,G,hG=>by
  cases j with
  |zero=>
   show SX p n (λx=>SR p λu=>G λi=>cons u x i+if i=0 then s else 0)=SX p n λx=>SR p λu=>G (cons u x)
   congr 1;funext x;have h1:¬(p:Int)∣1:=λh=>by have:=yY (by omega) h;have:=P.one;omega
   rw[<-zrz P (A:=1) (l:=s) h1 (φ:=λu=>G (cons u x)) λy z h=>hG _ _ λi=>by
    cases i with
    |zero=>exact h
    |succ i=>exact⟨0,by show x i-x i=_;omega⟩]
   congr 1;funext u;congr 1;funext i;cases i with
   |zero=>simp[cons]
   |succ i=>simp[cons]
  |succ j=>
   show SX p n (λx=>SR p λu=>G λi=>cons u x i+if i=j+1 then s else 0)=SX p n λx=>SR p λu=>G (cons u x)
   rw[<-qdn P s n j (by omega) (λx=>SR p λu=>G (cons u x)) λx y h=>by
    congr 1;funext u
    exact hG _ _ λi=>by
     cases i with
     |zero=>exact⟨0,by show u-u=_;omega⟩
     |succ i=>exact h i]
   congr 1;funext x;congr 1;funext u;congr 1;funext i;cases i with
   |zero=>simp[cons]
   |succ i=>simp[cons]
end Go.QR
namespace Go.QR
open Nat renaming mod_lt -> xX, mod_two_eq_zero_or_one -> yX, one_ne_zero -> yM
open Int renaming dvd_mul_of_dvd_right -> qU, toNat_of_nonneg -> qA, pow_succ -> qD, one_mul -> qG, dvd_mul_of_dvd_left -> qH, natCast_mul -> qI, emod_nonneg -> qL, dvd_sub -> qR, dvd_add -> qS, emod_lt_of_pos -> xJ, natCast_emod -> xA, mul_comm -> xI, natCast_add -> xP, pow_zero -> xS, le_of_dvd -> yY, mul_sub -> yT, natCast_zero -> zE, sub_mul -> zL
open Go.Det (Row sumR zae zcl zeg lead el bas zgp zgq zqb znp zun)
open Go.Count (allV zjr sumN ent gx nrm)
def NS(p:Nat)(a:Nat->Row)(n:Nat)(t:Int):Int:=SX p n λx=>if(p:Int)∣qf a n x-t then 1 else 0
def valF(p n:Nat)(d t:Int):Int:=
 if n%2=0 then(p:Int)^n+(p:Int)^(n/2)*chi p ((-1)^(n/2)*d)*(if(p:Int)∣t then(p:Int)-1 else -1)
 else(p:Int)^n+(p:Int)^(n/2+1)*chi p ((-1)^(n/2)*d*t)
section
variable{p:Nat}(P:Pr p)
include P
theorem qsx(hb:p<=3000){a:Nat->Row}{n:Nat}(hs:∀i j,i<=n->j<=n->a i j=a j i)(hA:¬(p:Int)∣a 0 0)(t:Int):NS p a (n+1) t=SR p λv=>(1+chi p v)*NS p (el a) n (a 0 0*t-v):=by
 have e:∀x,SR p (λu=>if(p:Int)∣qf a (n+1) (cons u x)-t then 1 else 0)=SR p λv=>(1+chi p v)*if(p:Int)∣qf (el a) n x-(a 0 0*t-v)then 1 else 0:=λx=>by
  have hper:Per p λv=>if(p:Int)∣v+qf (el a) n x-a 0 0*t then(1:Int)else 0:=λy z h=>by
   have:(p:Int)∣y+qf (el a) n x-a 0 0*t↔(p:Int)∣z+qf (el a) n x-a 0 0*t:=by
    constructor
    ·intro h2;have:=qR h2 h
     rwa[show y+qf (el a) n x-a 0 0*t-(y-z)=z+qf (el a) n x-a 0 0*t by omega]at this
    ·intro h2;have:=qS h2 h
     rwa[show z+qf (el a) n x-a 0 0*t+(y-z)=y+qf (el a) n x-a 0 0*t by omega]at this
   simp only[this]
  have hper2:Per p λy=>(λv=>if(p:Int)∣v+qf (el a) n x-a 0 0*t then(1:Int)else 0) (y*y):=λy z h=>hper _ _ (by
   rw[show y*y-z*z=(y-z)*(y+z) by grind];exact qH h)
  refine Eq.trans ?_ ((zrz P (l:=sumR (λj=>a 0 (j+1)*x j) n) hA hper2).trans ((jgj P hb hper).trans ?_))
  ·congr 1;funext u;have e2:(a 0 0*u+sumR (λj=>a 0 (j+1)*x j) n)*(a 0 0*u+sumR (λj=>a 0 (j+1)*x j) n)+qf (el a) n x-a 0 0*t=a 0 0*(qf a (n+1) (cons u x)-t):=by rw[yT,jae hs]
   have:(p:Int)∣(a 0 0*u+sumR (λj=>a 0 (j+1)*x j) n)*(a 0 0*u+sumR (λj=>a 0 (j+1)*x j) n)+qf (el a) n x-a 0 0*t↔(p:Int)∣qf a (n+1) (cons u x)-t:=by
    rw[e2];exact⟨λh=>P.euclid h hA,λh=>qU h⟩
   simp only[this]
  ·congr 1;funext v;rw[show v+qf (el a) n x-a 0 0*t=qf (el a) n x-(a 0 0*t-v) by omega]
 show SX p n (λx=>SR p λu=>if(p:Int)∣qf a (n+1) (cons u x)-t then 1 else 0)=_
 rw[funext e,zqe];congr 1;funext v;exact qvo p _ n _
theorem jeb{a:Nat->Row}{n j:Nat}(c t:Int)(hj:j<n):NS p (bas c (j+1) a) (n+1) t=NS p a (n+1) t:=by
 show SX p n (λx=>SR p λu=>if(p:Int)∣qf (bas c (j+1) a) (n+1) (cons u x)-t then 1 else 0)=SX p n λx=>SR p λu=>if(p:Int)∣qf a (n+1) (cons u x)-t then 1 else 0
 rw[zqe,zqe];congr 1;funext u
 have:=qdn P (c*u) n j hj (λx=>if(p:Int)∣qf a (n+1) (cons u x)-t then 1 else 0) λx y h=>by
  have e:(p:Int)∣qf a (n+1) (cons u x)-qf a (n+1) (cons u y):=by
   have hc:∀i,(p:Int)∣cons u x i-cons u y i
    |0=>⟨0,by show u-u=_;omega⟩
    |i+1=>h i
   unfold qf;generalize cons u x=x at*;generalize cons u y=y at*
   have d1:∀f g:Nat->Int,(∀i,(p:Int)∣f i-g i)->∀m,(p:Int)∣sumR f m-sumR g m:=λf g hfg m=>by
    induction m with
    |zero=>exact⟨0,by simp[sumR]⟩
    |succ m ih=>
     have:=qS ih (hfg m);simp only[sumR]
     rwa[show sumR f m-sumR g m+(f m-g m)=sumR f m+f m-(sumR g m+g m) by omega]at this
   refine d1 _ _ (λi=>?_) _;have h1:=d1 (λj=>a i j*x j) (λj=>a i j*y j) (λj=>by rw[<-yT];exact qU (hc j)) (n+1);have h2:=qS (qH (c:=x i) h1) (qU (b:=sumR (λj=>a i j*y j) (n+1)) (hc i));have e3:(sumR (λj=>a i j*x j) (n+1)-sumR (λj=>a i j*y j) (n+1))*x i+sumR (λj=>a i j*y j) (n+1)*(x i-y i)=sumR (λj=>a i j*x j) (n+1)*x i-sumR (λj=>a i j*y j) (n+1)*y i:=by grind
   rwa[e3]at h2
  have:(p:Int)∣qf a (n+1) (cons u x)-t↔(p:Int)∣qf a (n+1) (cons u y)-t:=by
   constructor
   ·intro h2;have:=qR h2 e
    rwa[show qf a (n+1) (cons u x)-t-(qf a (n+1) (cons u x)-qf a (n+1) (cons u y))=qf a (n+1) (cons u y)-t by omega]at this
   ·intro h2;have:=qS h2 e
    rwa[show qf a (n+1) (cons u y)-t+(qf a (n+1) (cons u x)-qf a (n+1) (cons u y))=qf a (n+1) (cons u x)-t by omega]at this
  simp only[this]
 refine Eq.trans ?_ this;congr 1;funext x;rw[jea c u x hj]
omit P in
theorem zxl(f g:Int->Int):SR p (λv=>f v+g v)=SR p f+SR p g:=sumR_add _ _ _
omit P in
theorem zsa(c:Int)(f:Int->Int):SR p (λv=>c*f v)=c*SR p f:=sumR_mul _ _ _
omit P in
theorem qdo(c:Int):SR p (λ_=>c)=(p:Int)*c:=zmd _ _
theorem zuq:¬(p:Int)∣1:=λh=>by have:=yY (by omega) h;have:=P.one;omega
omit P in
theorem jaf{v:Int}(h:¬(p:Int)∣v):¬(p:Int)∣ -v:=λhd=>h (Int.dvd_neg.1 hd)
theorem zmq{A:Int}(hA:¬(p:Int)∣A)(s:Nat):chi p (A^(2*s))=1:=by
 rw[Nat.mul_comm,Int.pow_mul,show(A^s)^2=A^s*A^s by rw[qD,qD,xS,qG]];refine qna P ?_
 induction s with
 |zero=>rw[xS];exact zuq P
 |succ s ih=>rw[qD];exact λh=>hA (P.euclid h ih)
theorem qnb(hb:p<=3000)(K Y w:Int):SR p (λv=>(1+chi p v)*(K+Y*if(p:Int)∣w-v then(p:Int)-1 else -1))=(p:Int)*K+(p:Int)*Y*chi p w:=by
 have e:∀v,(1+chi p v)*(K+Y*if(p:Int)∣w-v then(p:Int)-1 else -1)=(K-Y)+(K-Y)*chi p v+Y*(p:Int)*((1+chi p v)*if(p:Int)∣w-v then 1 else 0):=λv=>by
  split<;>grind
 rw[funext e,zxl,zxl,zsa,zsa,qdo,zxk P hb]
 have h:SR p (λv=>(1+chi p v)*if(p:Int)∣w-v then 1 else 0)=1+chi p w:=by
  have h0:=P.one;have hn:0<=w%(p:Int):=qL _ (by omega);have hl:w%(p:Int)<p:=xJ _ (by omega);obtain⟨z,hz⟩:∃z:Nat,(z:Int)=w%(p:Int):=⟨_,qA hn⟩
  rw[<-hz]at hl;have:=qvn (p:=p) z (by omega) (λv=>1+chi p v);have e4:chi p w=chi p (z:Int):=zhh _ _ (by rw[hz];exact emod_dvd _ _);rw[e4,<-this];refine zae λv _=>?_
  rw[xI];have:=qan (p:=p) w v;rw[<-hz]at this;simp only[this]
 rw[h];grind
theorem qsy(hb:p<=3000)(K Y w D:Int):SR p (λv=>(1+chi p v)*(K+Y*chi p (D*(w-v))))=(p:Int)*K+Y*chi p D*(chi p (-1)*if(p:Int)∣w then(p:Int)-1 else -1):=by
 have e:∀v,(1+chi p v)*(K+Y*chi p (D*(w-v)))=K+K*chi p v+(Y*chi p D*chi p (-1*v+w)+Y*chi p D*(chi p v*chi p (w-v))):=λv=>by
  rw[zen P,show -1*v+w=w-v by omega];grind
 rw[funext e,zxl,zxl,zxl,zsa,zsa,zsa,qdo,zxk P hb,jdz P hb,zrz P (A:= -1) (l:=w) (λh=>jaf (p:=p) (zuq P) h) zhh,zxk P hb];grind
theorem qsz(hb:p<=3000){A D d t:Int}{n:Nat}(hA:¬(p:Int)∣A)(h:A*D=A^n*d):SR p (λv=>(1+chi p v)*valF p n D (A*t-v))=valF p (n+1) d t:=by
 rcases yX n with h2 | h2
 ·obtain⟨s,rfl⟩:∃s,n=2*s:=⟨n/2,by omega⟩
  simp only[valF,h2,if_pos,show 2*s/2=s by omega,show(2*s+1)/2=s by omega,show(2*s+1)%2=1 by omega,yM,if_false];rw[qnb P hb,qD,qD]
  have:chi p ((-1)^s*D)*chi p (A*t)=chi p ((-1)^s*d*t):=by
   rw[<-zen P,show(-1)^s*D*(A*t)=A*D*((-1)^s*t) by grind,h,show A^(2*s)*d*((-1)^s*t)=A^(2*s)*((-1)^s*d*t) by grind,zen P,zmq P hA,qG]
  rw[<-this];grind
 ·obtain⟨s,rfl⟩:∃s,n=2*s+1:=⟨n/2,by omega⟩
  simp only[valF,h2,show(2*s+1)/2=s by omega,show(2*s+1+1)/2=s+1 by omega,show(2*s+1+1)%2=0 by omega,yM,if_false,if_pos];rw[qsy P hb,qD (p:Int) (2*s+1),qD (-1:Int) s]
  have e1:chi p ((-1)^s*D)*chi p (-1)=chi p ((-1)^s* -1*d):=by
   have e2:chi p A*chi p D=chi p A*chi p d:=by
    rw[<-zen P,h,qD,show A^(2*s)*A*d=A^(2*s)*(A*d) by grind,zen P,zmq P hA,qG,zen P]
   have e3:chi p D=chi p d:=by rcases chi_pm hA with e | e<;>rw[e]at e2<;>omega
   rw[zen P,zen P _ d,zen P _ (-1),e3];grind
  have e5:((p:Int)∣A*t)↔(p:Int)∣t:=⟨λh=>P.euclid h hA,λh=>qU h⟩
  rw[<-e1];simp only[e5];grind
theorem qvp(hb:p<=3000):∀(n:Nat) (a:Nat->Row),(∀i j,i<n->j<n->a i j=a j i)->¬(p:Int)∣lead a n->∀t,(p:Int)*NS p a n t=valF p n (lead a n) t
 |0,a,_,_,t=>by
  have h0:=P.one;have e:((p:Int)∣0-t)↔(p:Int)∣t:=by rw[Int.zero_sub];exact Int.dvd_neg
  have c1:chi p 1=1:=by have:=qna P (zuq P);rwa[qG]at this
  show(p:Int)*(if(p:Int)∣0-t then 1 else 0)=(p:Int)^0+(p:Int)^0*chi p ((-1)^0*1)*_
  rw[xS,xS,qG,qG,c1];simp only[e];split<;>omega
 |n+1,a,hs,hd,t=>by
  have pivot:∀a:Nat->Row,(∀i j,i<n+1->j<n+1->a i j=a j i)->¬(p:Int)∣lead a (n+1)->¬(p:Int)∣a 0 0->(p:Int)*NS p a (n+1) t=valF p (n+1) (lead a (n+1)) t:=λa hs hd hA=>by
   have hst:=zqb a n;rw[qsx P hb (λi j hi hj=>hs i j (by omega) (by omega)) hA,<-zsa]
   have hnd:¬(p:Int)∣lead (el a) n:=λh=>by
    have h2:=qU (b:=a 0 0) h;rw[hst]at h2
    have hp:∀k,¬(p:Int)∣a 0 0^k:=λk=>by
     induction k with
     |zero=>rw[xS];exact zuq P
     |succ k ih=>rw[qD];exact λh=>hA (P.euclid h ih)
    exact hd (P.euclid h2 (hp n))
   have hsym:∀i j,i<n->j<n->el a i j=el a j i:=λi j hi hj=>by
    unfold el;rw[hs (i+1) (j+1) (by omega) (by omega),hs (i+1) 0 (by omega) (by omega),hs 0 (j+1) (by omega) (by omega)];grind
   rw[<-qsz P hb hA hst];congr 1;funext v;rw[<-qvp hb n (el a) hsym hnd];grind
  by_cases hA:(p:Int)∣a 0 0
  ·obtain⟨k,hk,hak⟩:∃k,k<=n/\¬(p:Int)∣a 0 k:=by
    refine Classical.byContradiction λhc=>hd (zun a λk hk=>Classical.byContradiction λhh=>hc ⟨k,hk,hh⟩)
   obtain⟨j,rfl⟩:∃j,k=j+1:=by
    cases k with
    |zero=>exact absurd hA hak
    |succ j=>exact⟨j,rfl⟩
   have hbas:∀c:Int,¬(p:Int)∣bas c (j+1) a 0 0->(p:Int)*NS p a (n+1) t=valF p (n+1) (lead a (n+1)) t:=λc hc=>by
    rw[<-jeb P c t (show j<n by omega),<-znp (c:=c) a (show 1<=j+1 by omega) hk];refine pivot _ (λi k hi hk'=>?_) (by rw[znp a (by omega) hk];exact hd) hc;simp only[bas,zgq,zgp];have h1:=hs (j+1) k (by omega) hk';have h2:=hs i (j+1) hi (by omega);have h3:=hs i k hi hk';have h4:=hs (j+1) 0 (by omega) (by omega);by_cases hi0:i=0<;>by_cases hk0:k=0<;>simp only[hi0,hk0,if_true,if_false]at* <;> grind
   have ev:∀c:Int,bas c (j+1) a 0 0=a 0 0+2*c*a 0 (j+1)+c*c*a (j+1) (j+1):=λc=>by
    simp only[bas,zgq,zgp,if_pos];rw[hs (j+1) 0 (by omega) (by omega)];grind
   by_cases h1:(p:Int)∣bas 1 (j+1) a 0 0
   ·refine hbas (-1) λh2=>hak ?_
    rw[ev]at h1 h2;have h3:=qR h1 h2;rw[show a 0 0+2*1*a 0 (j+1)+1*1*a (j+1) (j+1)-(a 0 0+2* -1*a 0 (j+1)+ -1* -1*a (j+1) (j+1))=2*(2*a 0 (j+1)) by omega]at h3
    have two:¬(p:Int)∣2:=λh=>by
     have:=yY (by omega) h;have:=P.one;have:=P.odd;omega
    exact P.euclid (P.euclid h3 two) two
   ·exact hbas 1 h1
  ·exact pivot a hs hd hA
end
theorem qdp(p:Nat):∀(n:Nat) (Q:List Nat->Bool) (G:(Nat->Int)->Int),(∀y,(if Q y=true then(1:Int)else 0)=G λi=>(y.getD i 0:Nat))->(((allV p n).countP Q:Nat):Int)=SX p n G
 |0,Q,G,h=>by
  have:=h [];show(([[]].countP Q:Nat):Int)=G λ_=>0
  simp only[List.getD_nil,zE]at this;rw[<-this,List.countP_cons,List.countP_nil];split<;>rfl
 |n+1,Q,G,h=>by
  show(((List.flatMap _ _).countP Q:Nat):Int)=_
  rw[zjr]
  have cast:∀(f:Nat->Nat) m,((sumN f m:Nat):Int)=sumR (λi=>(f i:Int)) m:=λf m=>by
   induction m with
   |zero=>rfl
   |succ m ih=>simp only[sumN,sumR,xP,ih]
  rw[cast]
  show _=SX p n λx=>SR p λu=>G (cons u x)
  rw[zqe];refine zae λu _=>?_
  refine qdp p n _ (λx=>G (cons (u:Int) x)) λy=>?_
  rw[h (u::y)];congr 1;funext i;cases i<;>rfl
theorem zur(f:Nat->Nat):∀m,((sumN f m:Nat):Int)=sumR (λi=>(f i:Int)) m
 |0=>rfl
 |m+1=>by simp only[sumN,sumR,xP,zur f m]
theorem zus{p:Nat}{f g:Nat->Int}:∀{m},(∀i,i<m->(p:Int)∣f i-g i)->(p:Int)∣sumR f m-sumR g m
 |0,_=>⟨0,by simp[sumR]⟩
 |m+1,h=>by
  have:=qS (zus (m:=m) λi hi=>h i (by omega)) (h m (by omega));simp only[sumR]
  rwa[show sumR f m-sumR g m+(f m-g m)=sumR f m+f m-(sumR g m+g m) by omega]at this
theorem count_NS{p n t:Nat}{g:List (List Nat)}{a:Nat->Row}(ht:t<p)(hg:∀i j,i<n->j<n->(p:Int)∣(ent g i j:Int)-a j i):(((allV p n).countP λy=>decide (nrm g n y%p=t):Nat):Int)=NS p a n t:=by
 refine qdp p n _ _ λy=>?_
 have e:((nrm g n y:Nat):Int)=qf (λi j=>(ent g j i:Int)) n λi=>(y.getD i 0:Nat):=by
  unfold nrm gx qf;rw[zur];refine zae λi _=>?_
  rw[qI,zur];congr 1
 have h2:(p:Int)∣qf (λi j=>(ent g j i:Int)) n (λi=>(y.getD i 0:Nat))-qf a n λi=>(y.getD i 0:Nat):=by
  unfold qf;refine zus λi hi=>?_
  rw[<-zL];refine qH (zus λj hj=>?_);rw[<-zL];exact qH (hg j i hj hi)
 rw[<-e]at h2
 have:nrm g n y%p=t↔(p:Int)∣qf a n (λi=>(y.getD i 0:Nat))-(t:Int):=by
  have h3:nrm g n y%p=t↔(p:Int)∣(nrm g n y:Int)-t:=by
   constructor
   ·intro h;rw[<-h,xA];exact emod_dvd _ _
   ·intro h;have h5:=(qan (p:=p) (nrm g n y:Int) t).1 h;rw[<-xA]at h5;exact zxj (xX _ (by omega)) ht h5
  rw[h3];constructor
  ·intro h;have:=qR h h2
   rwa[show(nrm g n y:Int)-t-((nrm g n y:Int)-qf a n λi=>(y.getD i 0:Nat))=qf a n (λi=>(y.getD i 0:Nat))-t by omega]at this
  ·intro h;have:=qS h h2
   rwa[show qf a n (λi=>(y.getD i 0:Nat))-t+((nrm g n y:Int)-qf a n λi=>(y.getD i 0:Nat))=(nrm g n y:Int)-t by omega]at this
 simp only[decide_eq_true_eq,this]
end Go.QR
namespace Go.Proofs.YtpflahgcdgdkjaaGreatDoor
open Nat renaming lt_or_ge -> xZ, mul_le_mul_left -> xB, mod_two_eq_zero_or_one -> yX, mul_mod_right -> yJ, pow_pos -> yO, mul_le_mul_right -> yP, le_of_dvd -> zZ
open Int renaming dvd_mul_of_dvd_right -> qU, natCast_mul -> qI, dvd_add -> qS, mul_ediv_mul_of_pos -> yA, pow_add -> zQ, natCast_pow -> zN
open Go Go.AL Go.QR
open Go.Det (Row lead)
theorem zxm{k a b:Int}(hk:0<k)(hb:0<b):numR (k*a) (k*b)=numR a b/\denR (k*a) (k*b)=denR a b:=by
 have hg:(Int.gcd (k*a) (k*b):Int)=k*(Int.gcd a b:Int):=by
  rw[Int.gcd_mul_left,qI,Int.natAbs_of_nonneg (by omega)]
 unfold numR denR;rw[hg,yA _ _ hk,yA _ _ hk];exact⟨rfl,rfl⟩
theorem jec{p:Nat}(h2:2<=p)(hd:∀d,2<=d->d*d<=p->p%d≠0)(ho:p%2=1):Pr p:=by
 refine⟨by omega,ho,λd h1 hlt=>?_⟩;have g1:=Nat.gcd_dvd_left p d;have g2:=zZ h1 (Nat.gcd_dvd_right p d);have g0:=Nat.gcd_pos_of_pos_left d (show 0<p by omega);unfold Nat.Coprime;generalize Nat.gcd p d=g at*;refine Classical.byContradiction λhg=>?_
 obtain⟨q,hq⟩:=g1;rcases xZ p (g*g)with h | h
 ·have hqg:q<g:=Nat.lt_of_mul_lt_mul_left (a:=g) (by omega)
  have hq2:2<=q:=by
   rcases xZ q 2 with h3 | h3
   ·have:=xB g (show q<=1 by omega);omega
   ·exact h3
  have:=yP q (Nat.le_of_lt hqg);exact hd q hq2 (by omega) (by rw[hq];exact Nat.mul_mod_left g q)
 ·exact hd g (by omega) h (by rw[hq];exact yJ g q)
def regC(p n:Nat)(d t:Int):Int:=if n%2=0 then chi p ((-1)^(n/2)*d)else -chi p ((-1)^(n/2)*(t*d))
theorem qta{p n:Nat}(P:Pr p)(hb:p<=3000)(hn:1<=n){a:Nat->Row}(hs:∀i j,i<n->j<n->a i j=a j i)(hd:¬(p:Int)∣lead a n){t m:Int}(ht:(p:Int)∣m-t)(hm:¬(p:Int)∣m):
  numR (NS p a n t) ((p^(n-1):Nat):Int)=numR ((p^(n/2):Nat)-regC p n (lead a n) m) ((p^(n/2):Nat):Int)/\denR (NS p a n t) ((p^(n-1):Nat):Int)=denR ((p^(n/2):Nat)-regC p n (lead a n) m) ((p^(n/2):Nat):Int):=by
 have h:=qvp P hb n a hs hd t;have h0:=P.one;have hp:(0:Int)<p:=by omega
 have hP:((p^(n/2):Nat):Int)=(p:Int)^(n/2):=by simp
 have hP0:(0:Int)<(p:Int)^(n/2):=Int.pow_pos hp;have hA0:(0:Int)<((p^(n-1):Nat):Int):=Int.natCast_pos.2 (yO (by omega))
 have hA:(p:Int)*((p^(n-1):Nat):Int)=(p:Int)^n:=by
  rw[zN,<-Int.pow_succ',show n-1+1=n by omega]
 have htd:¬(p:Int)∣t:=λh=>hm (by have:=qS ht h;rwa[show m-t+t=m by omega]at this)
 have key:∃K:Int,0<K/\(p:Int)*NS p a n t=K*((p:Int)^(n/2)-regC p n (lead a n) m)/\(p:Int)^n=K*(p:Int)^(n/2):=by
  rcases yX n with e | e
  ·refine⟨(p:Int)^(n/2),hP0,?_,?_⟩
   ·rw[h];unfold valF regC;rw[if_pos e,if_pos e,if_neg htd,show(p:Int)^n=(p:Int)^(n/2)*(p:Int)^(n/2) by rw[<-zQ];congr 1;omega];grind
   ·rw[<-zQ];congr 1;omega
  ·refine⟨(p:Int)^(n/2+1),Int.pow_pos hp,?_,?_⟩
   ·rw[h];unfold valF regC
    have ec:chi p ((-1)^(n/2)*lead a n*t)=chi p ((-1)^(n/2)*(m*lead a n)):=zhh _ _ (by
     rw[show(-1)^(n/2)*lead a n*t-(-1)^(n/2)*(m*lead a n)=(-((-1)^(n/2)*lead a n))*(m-t) by grind];exact qU ht)
    rw[if_neg (by omega),if_neg (by omega),ec,show(p:Int)^n=(p:Int)^(n/2+1)*(p:Int)^(n/2) by rw[<-zQ];congr 1;omega];grind
   ·rw[<-zQ];congr 1;omega
 obtain⟨K,hK,e1,e2⟩:=key;have s1:=zxm (a:=NS p a n t) hp hA0;have s2:=zxm (a:=(p:Int)^(n/2)-regC p n (lead a n) m) hK hP0;rw[hA,e1,e2]at s1;rw[hP,<-s1.1,<-s1.2,<-s2.1,<-s2.2];exact⟨rfl,rfl⟩
