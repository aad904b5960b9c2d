/- A part of the proof. -/
import Derived.Test.YtgfbaioffpcelaaGreatDoorPH
import Derived.Lib.SmallJoins
import Derived.ChangeSlices
import Derived.WideKeyArgs
set_option linter.all false
set_option maxRecDepth 1000000
open Nat renaming reduceEqDiff -> qQ, reduceLeDiff -> qW, reduceAdd -> qY, le_refl -> qD, le_trans -> qI, pow_le_pow_right -> qN, sub_self -> qO, mul_le_mul -> xQ, lt_of_le_of_lt -> xK, zero_le -> xV, zero_add -> xU, mul_assoc -> xI, mul_one -> xO, pow_mul -> xP
open Go.AL.AV.closed renaming closedL -> qX
open List renaming replicate_zero -> qZ, getD_eq_getElem?_getD -> qJ, append_nil -> qK, getElem?_cons_zero -> qA, getElem?_cons_succ -> qB, getElem?_eq_getElem -> qC, getElem?_append_right -> qE, getElem?_append_left -> qG, getElem_range -> qH, getElem_map -> qL, take_of_length_le -> qP, length_map -> qS, getElem?_set_ne -> qT, getElem?_eq_none -> xX, ext_getElem -> xZ, nodup_cons -> xJ, getElem?_map -> xY, set_append_right -> xC, countP_le_length -> xD, drop_zero -> xE, mapM_cons -> xG, mem_cons -> xH, ext_getElem? -> xN, length_nil -> xS, nil_append -> xT, length_set -> yQ
open Int renaming toNat_natCast -> qV, tmod_eq_emod_of_nonneg -> qM, natAbs_mul -> xW, sign_eq_one_of_pos -> xA, emod_nonneg -> xB, emod_lt_of_pos -> xL, natCast_nonneg -> xM
open Bool renaming and_self -> qU
namespace Go.Proofs.YtgfbaioffpcelaaGreatDoor
open Go Go.AL Go.Proofs Go.Limb
set_option maxHeartbeats 4000000 in
theorem qyh{n:Nat}{fork:Bool}(hn:1<=n/\n<=8):Rt 79 [.int .i64 (n:Nat),.bool fork] [] (.sl 0 0 n 1 (some n)) (bH n n (zcu n fork)):=by
 refine oF o79 ?_;simp only[c79,r79_0,r79_1,SS,reduceCtorEq,reduceIte,qQ,qV];refine⟨by decide,⟨by omega,by omega,by omega,by omega⟩,?_⟩;simp only[r79_2,SS,reduceIte,qQ];have hb0:[some (List.replicate n (AV.vec [] 0 (some 0)))]=bH n n []:=rfl;rw[hb0]
 refine zaj (λq E H=>∃i R,i+q=n/\ChainR n fork i R/\H=bH n n R/\E 0= .int .i64 (n:Nat)/\E 1= .bool fork/\E 5= .sl 0 0 n 1 (some n)/\E 11= .int .i64 (n:Nat)/\E 12= .int .i64 (i:Nat)) (n:=n)
  ⟨0,[],by omega,⟨rfl,λs h=>absurd h (by omega),λs t h=>absurd h (by omega)⟩,rfl,by rfl,by rfl,by rfl,by rfl,by rfl⟩ ?_
 rintro q E H ⟨i,R,hiq,hR,rfl,e0,e1,e5,e11,e12⟩;refine wM ?_;simp only[l79_0,r79_3,SS,reduceCtorEq,reduceIte,e11,e12];refine⟨λhlt=>?_,λhge=>?_⟩
 ·obtain⟨q,rfl⟩:∃q',q=q'+1:=⟨q-1,by omega⟩
  have hi:i<n:=by omega
  have hRl:=hR.len;have w5:=wS1 i (by omega);have w6:IntKind.i64.wrap ((i:Int)-1)=(i:Int)-1:=w64 (by omega) (by omega);have w7:IntKind.i64.wrap ((i:Int)-2)=(i:Int)-2:=w64 (by omega) (by omega);have w8:IntKind.i64.wrap ((n:Int)-1)=(n:Int)-1:=w64 (by omega) (by omega);have hbl:(bH n n R).length=i+1:=by rw[qee,hRl]
  have go:getB (bH n n R++[some (i64z (List.replicate n 0))]) 0=some (outS n n i):=by
   have:getB (bH n n R) 0=some (outS n n i):=by rw[zen,hRl]
   exact this
  have gol:=zfl (N:=n) (n:=n) (i:=i) (by omega);have hnew:=qef (N:=n) (n:=n) (rows:=R) (List.replicate n 0) (by omega);rw[hRl]at hnew;simp only[r79_4,r79_5,SS,reduceCtorEq,reduceIte,qQ,e0,e5,e12,qV,hbl,zkd,go,gol];refine⟨by decide,⟨by omega,by omega,by omega,by omega⟩,⟨by omega,by omega⟩,by omega,?_⟩;rw[hnew];have hrl:(R++[List.replicate n 0]).length=i+1:=by simp[hRl]
  have g0:getB (bH n n (R++[List.replicate n 0])) 0=some (outS n n (i+1)):=by rw[zen,hrl]
  have gl:=zfl (N:=n) (n:=n) (i:=i+1) (by omega);have gg:=zfm (N:=n) (n:=n) (i:=i+1) (k:=i) (by omega);have gr:=zgq (N:=n) (n:=n) (i:=i) (rows:=R++[List.replicate n 0]) (by omega)
  have grr:(R++[List.replicate n 0]).getD i []=List.replicate n 0:=by
   rw[qJ,qE (by omega),hRl,qO];simp
  rw[grr]at gr
  have eset:(R++[List.replicate n 0]).set i ((List.replicate n 0).set i 2)=R++[zax n i]:=by
   rw[xC _ _ (by omega),hRl,qO];rfl
  simp only[r79_6,SS,fC,reduceIte,qQ,e5,qV,g0,gl,gg,gr,zbe,List.length_replicate,zdi,zii,eset];refine⟨⟨by omega,by omega⟩,by omega,⟨by omega,by omega⟩,by omega,?_⟩;simp only[r79_7,SS,reduceIte,qQ,w6];have hrl2:(R++[zax n i]).length=i+1:=by simp[hRl]
  have k0:getB (bH n n (R++[zax n i])) 0=some (outS n n (i+1)):=by rw[zen,hrl2]
  have tailS:∀k:Nat,zcx n fork i k=true->k<i/\outS n n (i+1)=outS n n (i+1):=λk h=>⟨zel h,rfl⟩
  rcases(by cases fork<;>simp<;>omega:fork=false\/(fork=true/\i+1≠n)\/(fork=true/\i+1=n/\¬3<n)\/(fork=true/\i+1=n/\3<n))with hf | ⟨hf,h1⟩ | ⟨hf,h1,h2⟩ | ⟨hf,h1,h2⟩
  ·subst hf;have hprev:zrn n false i=(i:Int)-1:=by unfold zrn;rw[if_neg (by simp)]
   simp only[r79_8,SS,fC,reduceCtorEq,reduceIte,qQ,e0,e1,w8];simp only[r79_10,SS,reduceIte,qQ];refine⟨λhk0=>?_,λhk0=>?_⟩
   ·obtain⟨k,hk⟩:∃k:Nat,(i:Int)-1=(k:Int):=⟨((i:Int)-1).toNat,by omega⟩
    have hlk:zcx n false i k=true:=zdl.2 (by rw[hprev];exact hk.symm);have hki:=zel hlk;have hnx:=zkh hR hi hlk;have gk:=zfm (N:=n) (n:=n) (i:=i+1) (k:=k) (by omega);have r1:=zgq (N:=n) (n:=n) (i:=i) (rows:=R++[zax n i]) (by omega);have r2:=zgq (N:=n) (n:=n) (i:=k) (rows:=setM (R++[zax n i]) i k (-1)) (by rw[zdd];omega)
    have l1:((R++[zax n i]).getD i []).length=n:=by
     rw[qJ,qE (by omega),hRl,qO];simp[zax]
    have l2:((setM (R++[zax n i]) i k (-1)).getD k []).length=n:=by
     unfold setM;rw[qJ,qT (by omega),qG (by omega),<-qJ];exact hR.row k hki
    have s1:=zii (N:=n) (n:=n) (i:=i) (rows:=R++[zax n i]) (((R++[zax n i]).getD i []).set k (-1));have s1e:(R++[zax n i]).set i (((R++[zax n i]).getD i []).set k (-1))=setM (R++[zax n i]) i k (-1):=rfl;rw[s1e]at s1;have s2:=zii (N:=n) (n:=n) (i:=k) (rows:=setM (R++[zax n i]) i k (-1)) (((setM (R++[zax n i]) i k (-1)).getD k []).set i (-1));have s2e:(setM (R++[zax n i]) i k (-1)).set k (((setM (R++[zax n i]) i k (-1)).getD k []).set i (-1))=setM (setM (R++[zax n i]) i k (-1)) k i (-1):=rfl;rw[s2e]at s2;simp only[r79_11,SS,fC,reduceIte,qQ,e5,hk,qV,k0,gl,gg,gk,r1,l1,zbe,zdi,s1,r2,l2,s2];refine⟨⟨by omega,by omega⟩,by omega,⟨by omega,by omega⟩,by omega,⟨by omega,by omega⟩,by omega,⟨by omega,by omega⟩,by omega,rfl,?_⟩;simp only[r79_12,SS,reduceIte,qQ,e12,w5];refine⟨q,_,_,by omega,⟨i+1,_,by omega,hnx,rfl,?_,?_,?_,?_,?_⟩,.refl⟩
    all_goals simp only[UU,qQ,reduceIte, *]
   ·have hno:∀t,zcx n false i t=false:=by
     intro t;cases hb:zcx n false i t with
     |false=>rfl
     |true=>have:=zdl.1 hb;rw[hprev]at this;omega
    have hnx:=zif hR hi hno;simp only[r79_12,SS,reduceIte,qQ,e12,w5];refine⟨q,_,_,by omega,⟨i+1,_,by omega,hnx,rfl,?_,?_,?_,?_,?_⟩,.refl⟩
    all_goals simp only[UU,qQ,reduceIte, *]
  ·subst hf;have hprev:zrn n true i=(i:Int)-1:=by unfold zrn;rw[if_neg (λe=>h1 e.2.1)]
   have d1:decide ((i:Int)=(n:Int)-1)=false:=dF;simp only[r79_8,SS,fC,reduceCtorEq,reduceIte,qQ,e0,e1,w8,d1];simp only[r79_10,SS,reduceIte,qQ];refine⟨λhk0=>?_,λhk0=>?_⟩
   ·obtain⟨k,hk⟩:∃k:Nat,(i:Int)-1=(k:Int):=⟨((i:Int)-1).toNat,by omega⟩
    have hlk:zcx n true i k=true:=zdl.2 (by rw[hprev];exact hk.symm);have hki:=zel hlk;have hnx:=zkh hR hi hlk;have gk:=zfm (N:=n) (n:=n) (i:=i+1) (k:=k) (by omega);have r1:=zgq (N:=n) (n:=n) (i:=i) (rows:=R++[zax n i]) (by omega);have r2:=zgq (N:=n) (n:=n) (i:=k) (rows:=setM (R++[zax n i]) i k (-1)) (by rw[zdd];omega)
    have l1:((R++[zax n i]).getD i []).length=n:=by
     rw[qJ,qE (by omega),hRl,qO];simp[zax]
    have l2:((setM (R++[zax n i]) i k (-1)).getD k []).length=n:=by
     unfold setM;rw[qJ,qT (by omega),qG (by omega),<-qJ];exact hR.row k hki
    have s1:=zii (N:=n) (n:=n) (i:=i) (rows:=R++[zax n i]) (((R++[zax n i]).getD i []).set k (-1));have s1e:(R++[zax n i]).set i (((R++[zax n i]).getD i []).set k (-1))=setM (R++[zax n i]) i k (-1):=rfl;rw[s1e]at s1;have s2:=zii (N:=n) (n:=n) (i:=k) (rows:=setM (R++[zax n i]) i k (-1)) (((setM (R++[zax n i]) i k (-1)).getD k []).set i (-1));have s2e:(setM (R++[zax n i]) i k (-1)).set k (((setM (R++[zax n i]) i k (-1)).getD k []).set i (-1))=setM (setM (R++[zax n i]) i k (-1)) k i (-1):=rfl;rw[s2e]at s2;simp only[r79_11,SS,fC,reduceIte,qQ,e5,hk,qV,k0,gl,gg,gk,r1,l1,zbe,zdi,s1,r2,l2,s2];refine⟨⟨by omega,by omega⟩,by omega,⟨by omega,by omega⟩,by omega,⟨by omega,by omega⟩,by omega,⟨by omega,by omega⟩,by omega,rfl,?_⟩;simp only[r79_12,SS,reduceIte,qQ,e12,w5];refine⟨q,_,_,by omega,⟨i+1,_,by omega,hnx,rfl,?_,?_,?_,?_,?_⟩,.refl⟩
    all_goals simp only[UU,qQ,reduceIte, *]
   ·have hno:∀t,zcx n true i t=false:=by
     intro t;cases hb:zcx n true i t with
     |false=>rfl
     |true=>have:=zdl.1 hb;rw[hprev]at this;omega
    have hnx:=zif hR hi hno;simp only[r79_12,SS,reduceIte,qQ,e12,w5];refine⟨q,_,_,by omega,⟨i+1,_,by omega,hnx,rfl,?_,?_,?_,?_,?_⟩,.refl⟩
    all_goals simp only[UU,qQ,reduceIte, *]
  ·subst hf;have hprev:zrn n true i=(i:Int)-1:=by unfold zrn;rw[if_neg (λe=>h2 e.2.2)]
   have d1:decide ((i:Int)=(n:Int)-1)=true:=dT;have d2:decide ((3:Int)<(n:Nat))=false:=dF;simp only[r79_8,SS,fC,reduceCtorEq,reduceIte,qQ,e0,e1,w8,d1,d2];simp only[r79_10,SS,reduceIte,qQ];refine⟨λhk0=>?_,λhk0=>?_⟩
   ·obtain⟨k,hk⟩:∃k:Nat,(i:Int)-1=(k:Int):=⟨((i:Int)-1).toNat,by omega⟩
    have hlk:zcx n true i k=true:=zdl.2 (by rw[hprev];exact hk.symm);have hki:=zel hlk;have hnx:=zkh hR hi hlk;have gk:=zfm (N:=n) (n:=n) (i:=i+1) (k:=k) (by omega);have r1:=zgq (N:=n) (n:=n) (i:=i) (rows:=R++[zax n i]) (by omega);have r2:=zgq (N:=n) (n:=n) (i:=k) (rows:=setM (R++[zax n i]) i k (-1)) (by rw[zdd];omega)
    have l1:((R++[zax n i]).getD i []).length=n:=by
     rw[qJ,qE (by omega),hRl,qO];simp[zax]
    have l2:((setM (R++[zax n i]) i k (-1)).getD k []).length=n:=by
     unfold setM;rw[qJ,qT (by omega),qG (by omega),<-qJ];exact hR.row k hki
    have s1:=zii (N:=n) (n:=n) (i:=i) (rows:=R++[zax n i]) (((R++[zax n i]).getD i []).set k (-1));have s1e:(R++[zax n i]).set i (((R++[zax n i]).getD i []).set k (-1))=setM (R++[zax n i]) i k (-1):=rfl;rw[s1e]at s1;have s2:=zii (N:=n) (n:=n) (i:=k) (rows:=setM (R++[zax n i]) i k (-1)) (((setM (R++[zax n i]) i k (-1)).getD k []).set i (-1));have s2e:(setM (R++[zax n i]) i k (-1)).set k (((setM (R++[zax n i]) i k (-1)).getD k []).set i (-1))=setM (setM (R++[zax n i]) i k (-1)) k i (-1):=rfl;rw[s2e]at s2;simp only[r79_11,SS,fC,reduceIte,qQ,e5,hk,qV,k0,gl,gg,gk,r1,l1,zbe,zdi,s1,r2,l2,s2];refine⟨⟨by omega,by omega⟩,by omega,⟨by omega,by omega⟩,by omega,⟨by omega,by omega⟩,by omega,⟨by omega,by omega⟩,by omega,rfl,?_⟩;simp only[r79_12,SS,reduceIte,qQ,e12,w5];refine⟨q,_,_,by omega,⟨i+1,_,by omega,hnx,rfl,?_,?_,?_,?_,?_⟩,.refl⟩
    all_goals simp only[UU,qQ,reduceIte, *]
   ·have hno:∀t,zcx n true i t=false:=by
     intro t;cases hb:zcx n true i t with
     |false=>rfl
     |true=>have:=zdl.1 hb;rw[hprev]at this;omega
    have hnx:=zif hR hi hno;simp only[r79_12,SS,reduceIte,qQ,e12,w5];refine⟨q,_,_,by omega,⟨i+1,_,by omega,hnx,rfl,?_,?_,?_,?_,?_⟩,.refl⟩
    all_goals simp only[UU,qQ,reduceIte, *]
  ·subst hf;have hprev:zrn n true i=(i:Int)-2:=by unfold zrn;rw[if_pos ⟨rfl,h1,h2⟩]
   have d1:decide ((i:Int)=(n:Int)-1)=true:=dT;have d2:decide ((3:Int)<(n:Nat))=true:=dT;simp only[r79_8,SS,fC,reduceCtorEq,reduceIte,qQ,e0,e1,w8,d1,d2];simp only[r79_9,SS,reduceIte,qQ,w7];simp only[r79_10,SS,reduceIte,qQ];refine⟨λhk0=>?_,λhk0=>?_⟩
   ·obtain⟨k,hk⟩:∃k:Nat,(i:Int)-2=(k:Int):=⟨((i:Int)-2).toNat,by omega⟩
    have hlk:zcx n true i k=true:=zdl.2 (by rw[hprev];exact hk.symm);have hki:=zel hlk;have hnx:=zkh hR hi hlk;have gk:=zfm (N:=n) (n:=n) (i:=i+1) (k:=k) (by omega);have r1:=zgq (N:=n) (n:=n) (i:=i) (rows:=R++[zax n i]) (by omega);have r2:=zgq (N:=n) (n:=n) (i:=k) (rows:=setM (R++[zax n i]) i k (-1)) (by rw[zdd];omega)
    have l1:((R++[zax n i]).getD i []).length=n:=by
     rw[qJ,qE (by omega),hRl,qO];simp[zax]
    have l2:((setM (R++[zax n i]) i k (-1)).getD k []).length=n:=by
     unfold setM;rw[qJ,qT (by omega),qG (by omega),<-qJ];exact hR.row k hki
    have s1:=zii (N:=n) (n:=n) (i:=i) (rows:=R++[zax n i]) (((R++[zax n i]).getD i []).set k (-1));have s1e:(R++[zax n i]).set i (((R++[zax n i]).getD i []).set k (-1))=setM (R++[zax n i]) i k (-1):=rfl;rw[s1e]at s1;have s2:=zii (N:=n) (n:=n) (i:=k) (rows:=setM (R++[zax n i]) i k (-1)) (((setM (R++[zax n i]) i k (-1)).getD k []).set i (-1));have s2e:(setM (R++[zax n i]) i k (-1)).set k (((setM (R++[zax n i]) i k (-1)).getD k []).set i (-1))=setM (setM (R++[zax n i]) i k (-1)) k i (-1):=rfl;rw[s2e]at s2;simp only[r79_11,SS,fC,reduceIte,qQ,e5,hk,qV,k0,gl,gg,gk,r1,l1,zbe,zdi,s1,r2,l2,s2];refine⟨⟨by omega,by omega⟩,by omega,⟨by omega,by omega⟩,by omega,⟨by omega,by omega⟩,by omega,⟨by omega,by omega⟩,by omega,rfl,?_⟩;simp only[r79_12,SS,reduceIte,qQ,e12,w5];refine⟨q,_,_,by omega,⟨i+1,_,by omega,hnx,rfl,?_,?_,?_,?_,?_⟩,.refl⟩
    all_goals simp only[UU,qQ,reduceIte, *]
   ·have hno:∀t,zcx n true i t=false:=by
     intro t;cases hb:zcx n true i t with
     |false=>rfl
     |true=>have:=zdl.1 hb;rw[hprev]at this;omega
    have hnx:=zif hR hi hno;simp only[r79_12,SS,reduceIte,qQ,e12,w5];refine⟨q,_,_,by omega,⟨i+1,_,by omega,hnx,rfl,?_,?_,?_,?_,?_⟩,.refl⟩
    all_goals simp only[UU,qQ,reduceIte, *]
 ·have hin:i=n:=by omega
  subst hin;have e:=qhp hR;subst e;simp only[r79_13,SS,reduceIte,qQ,e5];exact kR
theorem jdt{P:Heap}{m o N n:Nat}{rows:List (List Int)}(hm:m<=o)(ho:P.length=o)(hN:rows.length=N)(hn:∀i,i<N->(rows.getD i []).length=n):frzI m (P++bO o N n rows) 3 (.sl o 0 N 1 (some N))=some (.vec (zbt n rows) N (some N)):=by
 have e0:outO o N n rows.length=zij o n N:=by
  unfold outO;rw[hN,qO,qZ,qK]
 have key:(zij o n N).mapM (frzI m (P++bO o N n rows) 2)=some (zbt n rows):=by
  have:zbt n rows=(List.range N).map λk=>AV.vec (i64z (rows.getD k [])) n (some n):=by
   refine xZ (by simp[zbt,hN]) λk h1 h2=>?_
   simp only[zbt,qL,qH];have hk:k<rows.length:=by simpa[zbt]using h1
   rw[qJ,qC hk];rfl
  rw[this];unfold zij;rw[List.mapM_map]
  have:∀l:List Nat,(∀k∈l,k<N)->l.mapM (λk=>frzI m (P++bO o N n rows) 2 (.sl (o+k+1) 0 n 1 (some n)))=some (l.map λk=>AV.vec (i64z (rows.getD k [])) n (some n)):=by
   intro l
   induction l with
   |nil=>intro _;rfl
   |cons k l ih=>
    intro h;have hk:=h k (by simp)
    have e:frzI m (P++bO o N n rows) 2 (.sl (o+k+1) 0 n 1 (some n))=some (.vec (i64z (rows.getD k [])) n (some n)):=by
     rw[frzI];have hl:=hn k hk;simp only[show¬o+k+1<m by omega,if_false,zkr ho (show k<rows.length by omega),need,xU,xO,zbe,hl,qD,if_true,xE];rw[qP (by rw[zbe];omega),zol];rfl
    rw[xG,e,ih (λx hx=>h x (by simp[hx]))];rfl
  exact this _ (λk hk=>List.mem_range.1 hk)
 rw[frzI];simp only[show¬o<m by omega,if_false,zfv ho,e0,need,xU,xO,zfa,qD,if_true,xE];rw[qP (by rw[zfa];omega),key];rfl
def latC(d k:Int)(l q:List Int)(c c2:Option Nat):List AV:=[.int .u8 d,.int .u8 k,.vec (i8z l) l.length c,.vec (i8z q) q.length c2]
def tP2(d k:Int)(l q:List Int)(c c2:Option Nat)(j:Nat):Heap:=[some (latC d k l q c c2),some (zdu l c j)]
theorem zhj(d kd:Int)(l q:List Int)(c c2:Option Nat):qX (latC d kd l q c c2)=true:=by
 simp only[latC,qX,AV.closed,qU]
theorem zdv(l:List Int)(c:Option Nat)(j:Nat):qX (zdu l c j)=true:=by
 simp only[zdu,qX,AV.closed,qU]
theorem qpr{d kd:Int}{l q:List Int}{c c2:Option Nat}{j n:Nat}{M:List (List Int)}{E:Env}{Q:Post}(h:zgf l)(hj:j<=l.length)(hn:1<=n/\n<=8)(hG:SmallG n M)
  (e5:E 5= .ptr 1 0) (e6:E 6= .int .i64 (n:Nat)) (e7:E 7= .sl 2 0 n 1 (some n))
  (hQ:∀E' H',E' 4=(if zkl n M then .vec (zbt n M) n (some n)else .sl 2 0 n 1 (some n))->H'=(if zkl n M then tP2 d kd l q c c2 j else tP2 d kd l q c c2 (zbu l j n)++bO 2 n n (diaM l j n 2))->Q .ret E' H'):
  Wg 0 74 (.seq (.seq (.reg r23_19 none) (.cond (.t 69) (.seq (.reg r23_20 none) .ret) .skip)) (.seq (.reg r23_21 none) .ret)) E (tP2 d kd l q c c2 j++bO 2 n n M) Q:=by
 refine W.weak (zhp 2 3 (xV _) (by simp[tP2,bO]) (λi cs hi hg=>?_)) ?_
 ·rcases(by omega:i=0\/i=1)with rfl | rfl
  ·obtain rfl:latC d kd l q c c2=cs:=by simpa[tP2]using hg
   exact zbd _ _ (zhj ..)
  ·obtain rfl:zdu l c j=cs:=by simpa[tP2]using hg
   exact zbd _ _ (zdv ..)
 have htk:(tP2 d kd l q c c2 j++bO 2 n n M).take 2=tP2 d kd l q c c2 j:=rfl;rw[htk];have hfz:=jdt (P:=tP2 d kd l q c c2 j) (m:=2) (o:=2) (qD _) rfl hG.shp.len hG.shp.row;have f5:frzE 2 3 (tP2 d kd l q c c2 j++bO 2 n n M) E 5= .ptr 1 0:=by unfold frzE;rw[e5,if_pos (by rfl)]
 have f6:frzE 2 3 (tP2 d kd l q c c2 j++bO 2 n n M) E 6= .int .i64 (n:Nat):=by unfold frzE;rw[e6,if_pos (by rfl)]
 have f7:frzE 2 3 (tP2 d kd l q c c2 j++bO 2 n n M) E 7= .vec (zbt n M) n (some n):=by unfold frzE;rw[e7,if_neg (by simp[AV.under]),hfz];rfl
 generalize frzE 2 3 (tP2 d kd l q c c2 j++bO 2 n n M) E=E1 at*
 have hIn:∀s t,In64 (ent M s t):=by
  intro s t;have:=hG.bnd s t;unfold In64;omega
 have hIm:ImV M (.vec (zbt n M) n (some n)):=zez hG.shp.len hG.shp.row hIn;have tG:=jjo hG hIm hn;have c7:qX [.vec (zbt n M) n (some n)]=true:=by simp only[qX,hIm.closed,qU]
 refine wM ?_;simp only[r23_19,SS,reduceIte,f7];refine zaa tG ?_ c7;simp only[SS,reduceIte,qQ];refine⟨λhb=>?_,λhb=>?_⟩
 ·have hng:¬zkl n M:=by simpa using hb
  have tD:=zmj (c:=c) (most:=2) h hj hn (by omega);have heff:=zmk (H:=tP2 d kd l q c c2 j) (id:=1) (n:=n) (cs':=zdu l c (zbu l j n)) (M:=diaM l j n 2) (by show 1<2;omega);simp only[r23_20,SS,reduceIte,qQ,f5,f6];refine zed (id:=1) (cs:=zdu l c j) (cs':=zdu l c (zbu l j n)) (L:=bO 1 n n (diaM l j n 2)) tD rfl rfl rfl (zdv ..) (zdv ..) ?_;simp only[zaf];rw[heff];simp only[SS,reduceIte,qQ];refine hQ _ _ ?_ ?_
  ·simp only[UU,qQ,reduceIte];rw[if_neg hng];rfl
  ·rw[if_neg hng];rfl
 ·have hg:zkl n M:=by simpa using hb
  simp only[r23_21,SS,reduceIte,qQ,f7];refine hQ _ _ ?_ ?_
  ·simp only[UU,qQ,reduceIte];rw[if_pos hg]
  ·rw[if_pos hg]
theorem jdu{l:List Int}{kind n:Nat}:rawK l kind n<=l.length:=by
 have hz:(0:Nat)<=l.length:=xV _;unfold rawK;split
 ·exact zic hz _
 split
 ·exact zic hz 1
 split
 ·exact zic hz 1
 ·exact zic hz _
theorem qps(d kd:Int)(l q:List Int)(c c2:Option Nat)(j j':Nat)(X:Heap):(tP2 d kd l q c c2 j++X).set 1 (some (zdu l c j'))=tP2 d kd l q c c2 j'++X:=rfl
theorem qhq{d kd:Int}{l q:List Int}{c c2:Option Nat}{n:Nat}{E:Env}{Q:Post}(h:zgf l)(hk:0<=kd/\kd<256)(hn:1<=n/\n<=8)
  (e2:E 2= .ptr 0 0) (e5:E 5= .ptr 1 0) (e6:E 6= .int .i64 (n:Nat))
  (hQ:∀E',E' 5= .ptr 1 0->E' 6= .int .i64 (n:Nat)->E' 7= .sl 2 0 n 1 (some n)->Q .normal E' (tP2 d kd l q c c2 (rawK l (kd%8).toNat n)++bO 2 n n (rawM l (kd%8).toNat n))):
  Wg 0 74 (.seq (.reg r23_4 none) (.block 0 (.seq (.seq (.reg r23_5 none) (.cond (.t 24) .skip (.seq (.reg r23_6 none) (.cond (.t 24) .skip (.seq (.reg r23_7 none) (.cond (.t 24) .skip (.reg r23_8 none))))))) (.cond (.t 24) (.reg r23_9 none) (.seq (.reg r23_10 none) (.cond (.t 32) (.seq (.reg r23_11 none) (.reg r23_12 (some [(2,6),(4,6)]))) (.seq (.reg r23_13 none) (.cond (.t 45) (.seq (.reg r23_14 none) (.reg r23_15 (some [(4,10),(8,10)]))) (.seq (.reg r23_16 none) (.cond (.t 62) (.reg r23_17 none) (.reg r23_18 none))))))))))) E (tP2 d kd l q c c2 0) Q:=by
 have hz:(0:Nat)<=l.length:=xV _;have g0:getB (tP2 d kd l q c c2 0) 0=some (latC d kd l q c c2):=rfl;have g1:getB (tP2 d kd l q c c2 0) 1=some (zdu l c 0):=rfl;have hrem:Int.tmod kd 8=kd%8:=qM hk.1;have tGen:=qvo (c:=c) h hz hn;have h9:(1:Int)<=9/\(9:Int)<=9:=by omega
 have tD9:=zmj (c:=c) (most:=9) h hz hn (by omega);have tD1:=zmj (c:=c) (most:=1) h hz hn (by omega);have effG:=zmk (H:=tP2 d kd l q c c2 0) (id:=1) (n:=n) (cs':=zdu l c (zbu l 0 (n+triK n))) (M:=genM l 0 n) (by show 1<2;omega);have eff9:=zmk (H:=tP2 d kd l q c c2 0) (id:=1) (n:=n) (cs':=zdu l c (zbu l 0 n)) (M:=diaM l 0 n 9) (by show 1<2;omega);have eff1:=zmk (H:=tP2 d kd l q c c2 0) (id:=1) (n:=n) (cs':=zdu l c (zbu l 0 n)) (M:=diaM l 0 n 1) (by show 1<2;omega);refine wM ?_;simp only[r23_4,SS,fC,reduceIte,qY,qQ,qW,e2,g0,latC];refine⟨by decide,?_⟩;rw[hrem];rcases(by omega:kd%8=0\/kd%8=1\/kd%8=2\/kd%8=3\/kd%8=4\/kd%8=5\/kd%8=6\/kd%8=7)with e | e | e | e | e | e | e | e
 all_goals
  rw[e]at hQ ⊢;simp only[r23_5,r23_6,r23_7,r23_8,r23_9,r23_10,r23_11,r23_13,r23_14,r23_16,r23_17,r23_18,SS,fC,reduceIte,qQ,e5,e6,Int.reduceEq,decide_true,decide_false]
 iterate 4
  ·refine zed (id:=1) (cs:=zdu l c 0) (cs':=zdu l c (zbu l 0 (n+triK n))) (L:=bO 1 n n (genM l 0 n)) tGen rfl rfl rfl (zdv ..) (zdv ..) ?_;simp only[zaf];rw[effG];simp only[SS,reduceIte,qQ];exact hQ _ (by exact e5) (by exact e6) (by rfl)
 ·have tC:=qyh (n:=n) (fork:=false) (by omega);have hS:Shp n (zcu n false):=zci _ _;have hcl:qX [.int .i64 (n:Nat),.bool false]=true:=rfl
  have effC:zac (effs (zan [] (tP2 d kd l q c c2 0).length) 0 (bH n n (zcu n false))) (tP2 d kd l q c c2 0++List.replicate (bH n n (zcu n false)).length none)=tP2 d kd l q c c2 0++bO 2 n n (zcu n false):=by
   have:=zhs (H:=tP2 d kd l q c c2 0) (zan [] (tP2 d kd l q c c2 0).length) (λi=>zcj _ i) (bH n n (zcu n false)) [];simp only[xS,xT]at this;rw[this];exact congrArg (tP2 d kd l q c c2 0++ ·) (qyg (K:=2) (λi=>zcj 2 i))
  have hv:AV.ren (zan [] (tP2 d kd l q c c2 0).length) (.sl 0 0 n 1 (some n))= .sl 2 0 n 1 (some n):=rfl;have tB:=zyt (c:=c) (k:=0) (m:=3) h hz (by omega)
  have ko:∀j,getB (tP2 d kd l q c c2 j++bO 2 n n (zcu n false)) 2=some (outO 2 n n n):=λj=>by
   have:=zfv (P:=tP2 d kd l q c c2 j) (o:=2) (N:=n) (n:=n) (rows:=zcu n false) rfl;rw[hS.len]at this;exact this
  have kl:=zgs (o:=2) (N:=n) (n:=n) (i:=n) (qD _);have kg:=zid (o:=2) (N:=n) (n:=n) (i:=n) (k:=0) (by omega);have gr:=λj=>zkr (P:=tP2 d kd l q c c2 j) (o:=2) (N:=n) (n:=n) (rows:=zcu n false) rfl (i:=0) (by rw[hS.len];omega)
  have lr:=hS.row 0 (by omega)
  have gz:(i64z ((zcu n false).getD 0 [])).getD 0 .junk= .int .i64 2:=by
   rw[zck _ _ (by omega)];have:=zfx (fork:=false) (show 0<n by omega);unfold ent at this;rw[this]
  have hbz:=zgr l 0 (show(1:Int)<=3 by decide);have w2:IntKind.i64.wrap (2+zdt l 0%3)=2+zdt l 0%3:=w64 (by omega) (by omega);have hs:=λj=>zri (P:=tP2 d kd l q c c2 j) (o:=2) (N:=n) (n:=n) (rows:=zcu n false) rfl (i:=0) (((zcu n false).getD 0 []).set 0 (2+zdt l 0%3))
  refine zdx tC hcl ?_;simp only[zaf,SS,reduceIte,qQ];rw[effC,hv];have z0:Int.toNat 0=0:=rfl;simp only[r23_12,SS,fC,reduceIte,qY,qQ,z0,ko,kl,kg,gr,lr,gz,zbe,e5];refine⟨by omega,by omega,by omega,by omega,?_⟩;refine zcm (id:=1) tB rfl rfl ?_;simp only[zaf,zac,keys,qZ,qK,SS,reduceIte,qQ,qps,z0,gr,lr,zbe,w2,zdi]
  have hr:rawM l 4 n=(zcu n false).set 0 (((zcu n false).getD 0 []).set 0 (2+zdt l 0%3)):=by
   unfold rawM;rw[if_neg (by decide),if_pos rfl];unfold qhm;rw[zfx (by omega)];rfl
  have h3:=hs (zbx l 0);rw[<-hr]at h3;refine⟨⟨by omega,by omega⟩,by omega,rfl,?_⟩;refine Eq.mp (congrArg _ h3.symm) ?_;exact hQ _ (by exact e5) (by exact e6) (by rfl)
 ·have tC:=qyh (n:=n) (fork:=true) (by omega);have hS:Shp n (zcu n true):=zci _ _;have hcl:qX [.int .i64 (n:Nat),.bool true]=true:=rfl
  have effC:zac (effs (zan [] (tP2 d kd l q c c2 0).length) 0 (bH n n (zcu n true))) (tP2 d kd l q c c2 0++List.replicate (bH n n (zcu n true)).length none)=tP2 d kd l q c c2 0++bO 2 n n (zcu n true):=by
   have:=zhs (H:=tP2 d kd l q c c2 0) (zan [] (tP2 d kd l q c c2 0).length) (λi=>zcj _ i) (bH n n (zcu n true)) [];simp only[xS,xT]at this;rw[this];exact congrArg (tP2 d kd l q c c2 0++ ·) (qyg (K:=2) (λi=>zcj 2 i))
  have hv:AV.ren (zan [] (tP2 d kd l q c c2 0).length) (.sl 0 0 n 1 (some n))= .sl 2 0 n 1 (some n):=rfl;have tB:=zyt (c:=c) (k:=0) (m:=2) h hz (by omega)
  have ko:∀j,getB (tP2 d kd l q c c2 j++bO 2 n n (zcu n true)) 2=some (outO 2 n n n):=λj=>by
   have:=zfv (P:=tP2 d kd l q c c2 j) (o:=2) (N:=n) (n:=n) (rows:=zcu n true) rfl;rw[hS.len]at this;exact this
  have kl:=zgs (o:=2) (N:=n) (n:=n) (i:=n) (qD _);have kg:=zid (o:=2) (N:=n) (n:=n) (i:=n) (k:=(n-1)) (by omega);have gr:=λj=>zkr (P:=tP2 d kd l q c c2 j) (o:=2) (N:=n) (n:=n) (rows:=zcu n true) rfl (i:=(n-1)) (by rw[hS.len];omega)
  have lr:=hS.row (n-1) (by omega)
  have gz:(i64z ((zcu n true).getD (n-1) [])).getD (n-1) .junk= .int .i64 2:=by
   rw[zck _ _ (by omega)];have:=zfx (fork:=true) (show(n-1)<n by omega);unfold ent at this;rw[this]
  have hbz:=zgr l 0 (show(1:Int)<=2 by decide);have w2:IntKind.i64.wrap (2+zdt l 0%2)=2+zdt l 0%2:=w64 (by omega) (by omega);have hs:=λj=>zri (P:=tP2 d kd l q c c2 j) (o:=2) (N:=n) (n:=n) (rows:=zcu n true) rfl (i:=(n-1)) (((zcu n true).getD (n-1) []).set (n-1) (2+zdt l 0%2))
  refine zdx tC hcl ?_;simp only[zaf,SS,reduceIte,qQ];rw[effC,hv];have w1:IntKind.i64.wrap ((n:Int)-1)=((n-1:Nat):Int):=wQ (by omega);simp only[r23_15,SS,fC,reduceIte,qQ,w1,qV,ko,kl,kg,gr,lr,gz,zbe,e5,e6];refine⟨⟨by omega,by omega⟩,by omega,⟨by omega,by omega⟩,by omega,?_⟩;refine zcm (id:=1) tB rfl rfl ?_;simp only[zaf,zac,keys,qZ,qK,SS,reduceIte,qQ,qps,qV,gr,lr,zbe,w2,zdi]
  have hr:rawM l 5 n=(zcu n true).set (n-1) (((zcu n true).getD (n-1) []).set (n-1) (2+zdt l 0%2)):=by
   unfold rawM;rw[if_neg (by decide),if_neg (by decide),if_pos rfl];unfold qhm;rw[zfx (by omega)];rfl
  have h3:=hs (zbx l 0);rw[<-hr]at h3;refine⟨⟨by omega,by omega⟩,by omega,?_,?_⟩
  ·have hne:2+(n-1)≠0:=by omega
   generalize 2+(n-1)=s at hne;simp[dynB,zxd];exact hne
  refine Eq.mp (congrArg _ h3.symm) ?_;exact hQ _ (by exact e5) (by exact e6) (by rfl)
 ·refine zed (id:=1) (cs:=zdu l c 0) (cs':=zdu l c (zbu l 0 n)) (L:=bO 1 n n (diaM l 0 n 9)) tD9 rfl rfl rfl (zdv ..) (zdv ..) ?_;simp only[zaf];rw[eff9];simp only[SS,reduceIte,qQ];exact hQ _ (by exact e5) (by exact e6) (by rfl)
 ·refine zed (id:=1) (cs:=zdu l c 0) (cs':=zdu l c (zbu l 0 n)) (L:=bO 1 n n (diaM l 0 n 1)) tD1 rfl rfl rfl (zdv ..) (zdv ..) ?_;simp only[zaf];rw[eff1];simp only[SS,reduceIte,qQ];exact hQ _ (by exact e5) (by exact e6) (by rfl)
theorem jhr{d kd most:Int}{l q:List Int}{c c2:Option Nat}{n:Nat}(h:zgf l)(hd:0<=d/\d<256)(hk:0<=kd/\kd<256)(hm:1<=most/\most<=8)(hn:(n:Int)=1+d%most):
  Rt 23 [.agg (latC d kd l q c c2),.int .i64 most] [] (.vec (zbt n (zkm l (kd%8).toNat n)) n (some n)) []:=by
 have hz:(0:Nat)<=l.length:=xV _;have hmod:=xL d (show 0<most by omega);have hmod0:=xB d (show most≠0 by omega);have hn8:1<=n/\n<=8:=by omega
 have g0:getB [some (latC d kd l q c c2)] 0=some (latC d kd l q c c2):=rfl;refine oFW o23 ?_;unfold c23;refine wW ?_;simp only[r23_0,SS];refine wW ?_;simp only[r23_1,SS,fC,reduceIte,qY,qQ,qW];refine⟨by show 3<=4;omega,⟨rfl,rfl⟩,?_⟩;have eH:([some (latC d kd l q c c2),some (setL [AV.vec [] 0 (some 0),AV.int IntKind.i64 0] 0 ((latC d kd l q c c2).getD 2 AV.junk).cells)]:Heap)=tP2 d kd l q c c2 0:=rfl;rw[eH];have g1:getB (tP2 d kd l q c c2 0) 0=some (latC d kd l q c c2):=rfl;have gd:(latC d kd l q c c2).getD 0 .junk= .int .u8 d:=rfl;have gl:(latC d kd l q c c2).length=4:=rfl;have wd:IntKind.i64.wrap d=d:=w64 (by omega) (by omega);have et:Int.tmod d most=d%most:=qM hd.1;have wm:IntKind.i64.wrap (d%most)=d%most:=w64 (by omega) (by omega);have wn:IntKind.i64.wrap (1+d%most)=(n:Int):=by rw[<-hn];exact w64 (by omega) (by omega)
 refine wW ?_;simp only[r23_2,SS,fC,reduceIte,qQ,qW,g1,gd,gl,wd,et,wn];refine⟨by omega,?_⟩;refine wW ?_;simp only[r23_3,SS];refine zki (qhq h hk hn8 (by rfl) (by rfl) (by rfl) λE1 f5 f6 f7=>?_);simp only[SS];refine qpr h jdu hn8 (zyr hn8.1) f5 f6 f7 λE2 H2 e4 eH2=>?_
 refine⟨.inl rfl,_,rfl,?_⟩;rw[e4,eH2];unfold zkm;by_cases hg:zkl n (rawM l (kd%8).toNat n)
 ·rw[if_pos hg,if_pos hg,if_pos hg];exact .freeze 1 _ _ _ rfl (by intro i cs h;omega)
 ·rw[if_neg hg,if_neg hg,if_neg hg];have hS:=zrj l (rawK l (kd%8).toNat n) n 2;have:=jgx (P:=tP2 d kd l q c c2 (zbu l (rawK l (kd%8).toNat n) n)) (o:=2) rfl hS.len hS.row;exact .freeze 3 _ _ _ this (by intro i cs h;omega)
open Go.Det
theorem jhs{d kd most:Int}{l q:List Int}{c c2:Option Nat}{n:Nat}(h:zgf l)(hd:0<=d/\d<256)(hk:0<=kd/\kd<256)(hm:1<=most/\most<=5)(hn:(n:Int)=1+d%most):
  ∃k M' T',Ends n M' T' k (zkm l (kd%8).toNat n) (idM n)/\lead (rowF M') n=lead (rowF (zkm l (kd%8).toNat n)) n/\Red n (rowF M')/\LState n (16^n) (8*16^n) (zkm l (kd%8).toNat n) M' T'/\Rt 7 [.agg (latC d kd l q c c2),.int .i64 most] [] (.vec (zbt n M') n (some n)) []:=by
 have hmod:=xL d (show 0<most by omega);have hmod0:=xB d (show most≠0 by omega);have hn8:1<=n/\n<=8:=by omega
 have tG:=jhr (c:=c) (c2:=c2) (q:=q) h hd hk (by omega:1<=most/\most<=8) hn;obtain⟨hG,hg⟩:=qby (l:=l) (kind:=(kd%8).toNat) hn8.1 hn8.2;generalize zkm l (kd%8).toNat n=M0 at*;have hS:=hG.shp
 have hIn:∀s t,In64 (ent M0 s t):=by
  intro s t;have:=hG.bnd s t;unfold In64;omega
 have hIm:ImV M0 (.vec (zbt n M0) n (some n)):=zez hS.len hS.row hIn;have tO:=mOf (n:=n) hIm (by omega) (by rw[hS.len];omega) (λi hi=>hS.row i (by rw[hS.len]at hi;exact hi));have hsq:=znx hS hn8 (zmm hG) (xK (zwl.all (k:=0) (xV _)).1 zwl.lt);obtain⟨k,M',T',hE,hdt,hred,hL,tR⟩:=jds hsq (by omega) hG hg;refine⟨k,M',T',hE,hdt,hred,hL,?_⟩;have c1:qX [.agg (latC d kd l q c c2),.int .i64 most]=true:=by simp only[qX,AV.closed,zhj,qU]
 have c2':qX [.vec (zbt n M0) n (some n)]=true:=by simp only[qX,hIm.closed,qU]
 have c3:qX [matC M0]=true:=by simp only[qX,hsq.closed,qU]
 have g0:getB [some (latC d kd l q c c2)] 0=some (latC d kd l q c c2):=rfl;refine oF o7 ?_;simp only[c7,r7_0,r7_1,SS,reduceCtorEq,reduceIte,qQ,g0];have et4:List.take 4 (latC d kd l q c c2)=latC d kd l q c c2:=rfl;refine⟨by show 4<=4;omega,?_⟩;rw[et4];refine zaa tG ?_ c1 hIm.closed;simp only[zaf,SS,reduceIte,qQ];refine zaa tO ?_ c2' hsq.closed;simp only[zaf,SS,reduceIte,qQ];refine zaa tR ?_ c3 (by simp only[AV.closed,qX,qU];rfl);simp only[zaf,SS,reduceIte,qQ,qA,qB,r7_2];exact⟨.inl trivial,_,rfl,.freeze 1 _ _ _ rfl (by intro i cs h;omega)⟩
open Go.GE
theorem qpt{n:Nat}{G U:List (List Int)}{s t:Nat}(hs:s<n)(ht:t<n):ent (cgM n G U) s t=zje (rowF G) n (λx y=>ent U x y) s t:=by
 unfold cgM zje mulM;rw[zbl hs ht]
 rw[zah (h:=λk=>sumR (λj=>ent U j s*ent G j k*ent U k t) n) λk hk=>by
  rw[zbl hs hk,<-GE.sum_mul];refine zah λj hj=>?_
  unfold trM;rw[zbl hs hj]]
 rw[zie (λk j=>ent U j s*ent G j k*ent U k t)];refine zah λj hj=>?_
 rw[<-GE.sum_mul];refine zah λk hk=>?_
 show ent U j s*ent G j k*ent U k t=ent G j k*ent U k t*ent U j s
 grind
theorem qvv{n:Nat}{a b:Nat->Row}(h3:n<=3)(e:∀s t,s<n->t<n->a s t=b s t):∀k,k<=n->lead a k=lead b k:=λk hk=>by
 rcases(by omega:k=0\/k=1\/k=2\/k=3)with rfl | rfl | rfl | rfl
 ·rw[zat,zat]
 ·rw[zlc,zlc,e 0 0 (by omega) (by omega)]
 ·rw[zik,zik,e 0 0 (by omega) (by omega),e 0 1 (by omega) (by omega),e 1 0 (by omega) (by omega),e 1 1 (by omega) (by omega)]
 ·rw[qbz,qbz,e 0 0 (by omega) (by omega),e 0 1 (by omega) (by omega),e 0 2 (by omega) (by omega),e 1 0 (by omega) (by omega),e 1 1 (by omega) (by omega),e 1 2 (by omega) (by omega),e 2 0 (by omega) (by omega),e 2 1 (by omega) (by omega),e 2 2 (by omega) (by omega)]
theorem qvw{n:Nat}{G U:List (List Int)}(h3:n<=3)(hG:SmallG n G)(hU:∀i j,(ent U i j).natAbs<=531441)(s t:Nat):(ent (cgM n G U) s t).natAbs<=70368744177664:=by
 by_cases hst:s<n/\t<n;rotate_left
 ·rw[(zqr n G U).out (by omega)];decide
 obtain⟨hs,ht⟩:=hst;rw[qpt hs ht];unfold zje
 have h1:∀x,sumR (λy=>ent G x y*ent U y t) n<=n*8503056/\ -(n*8503056)<=sumR (λy=>ent G x y*ent U y t) n:=λx=>zok λy _=>by
  have a:=hG.bnd x y;have b:=hU y t;have:(ent G x y*ent U y t).natAbs<=16*531441:=by rw[xW];exact xQ (by omega) b
  omega
 have h2:=zok (f:=λx=>sumR (λy=>ent G x y*ent U y t) n*ent U x s) (n:=n) (c:=13556817751488) λx _=>by
  have a:=h1 x;have b:=hU x s
  have:(sumR (λy=>ent G x y*ent U y t) n*ent U x s).natAbs<=25509168*531441:=by
   rw[xW];exact xQ (by rcases(by omega:n=0\/n=1\/n=2\/n=3)with rfl | rfl | rfl | rfl<;>omega) b
  show sumR (λy=>ent G x y*ent U y t) n*ent U x s<=_/\_<=sumR (λy=>ent G x y*ent U y t) n*ent U x s
  omega
 obtain⟨h4,h5⟩:=h2;show(sumR (λx=>sumR (λy=>ent G x y*ent U y t) n*ent U x s) n).natAbs<=_
 rcases(by omega:n=0\/n=1\/n=2\/n=3)with rfl | rfl | rfl | rfl<;>omega
theorem qfa{n:Nat}{G:List (List Int)}{q:List Int}(hn:1<=n)(h3:n<=3)(hG:SmallG n G)(hg:zkl n G){U:List (List Int)}(hU:U=uRun n q 12 0 (idM n)):
  (∀i j,(ent U i j).natAbs<=531441)/\Shp n U/\Pos n (70368744177664^n) (rowF (cgM n G U))/\lead (rowF (cgM n G U)) n=lead (rowF G) n/\(∀m t,0<m->NS m (rowF (cgM n G U)) n t=NS m (rowF G) n t)/\∀s t,s<n->t<n->ent (cgM n G U) s t=ent (cgM n G U) t s:=by
 obtain⟨k',hk',hP⟩:=qph (l:=q) hn 12 0 0 (idM n) .id;rw[<-hU]at hP;have hb:∀i j,(ent U i j).natAbs<=531441:=λs t=>qI (hP.bnd s t) (qI (qN (by decide) (show k'<=12 by omega)) (by decide))
 obtain⟨⟨k1,k2⟩,k3⟩:=hP.keep h3 (a:=rowF G) ⟨hG.sym,λk hk=>hg.1 k (by omega)⟩;have e:∀s t,s<n->t<n->rowF (cgM n G U) s t=zje (rowF G) n (λx y=>ent U x y) s t:=λs t hs ht=>qpt hs ht
 have hl:=qvv h3 e
 have hsy:∀s t,s<n->t<n->ent (cgM n G U) s t=ent (cgM n G U) t s:=λs t hs ht=>by
  have a:=e s t hs ht;have b:=e t s ht hs;have c:=k1 s t hs ht
  show rowF (cgM n G U) s t=rowF (cgM n G U) t s
  rw[a,b,c]
 refine⟨hb,hP.shp,qes hsy (λk hk=>by rw[hl k hk];exact k2 k hk) (λs hs=>by have:=qvw h3 hG hb s s;show ent (cgM n G U) s s<=_;omega) (by decide),by rw[hl n (qD n),k3],λm t hm=>jhf (hP.um hm) e t,hsy⟩
theorem tRaw{d kd:Int}{l q:List Int}{c c2:Option Nat}{n:Nat}(h:zgf l)(hq:zgf q)(hd:0<=d/\d<256)(hk:0<=kd/\kd<256)(hn:(n:Int)=1+d%3):
  Rt 59 [.agg (latC d kd l q c c2),.int .i64 3] [] (matC (cgM n (zkm l (kd%8).toNat n) (uRun n q 12 0 (idM n)))) []:=by
 have hn8:1<=n/\n<=3:=by omega
 have tG:=jhr (c:=c) (c2:=c2) (q:=q) (most:=3) h hd hk (by omega) hn;obtain⟨hG,hg⟩:=qby (l:=l) (kind:=(kd%8).toNat) hn8.1 (show n<=8 by omega);obtain⟨hb,hUs,_⟩:=qfa (q:=q) hn8.1 hn8.2 hG hg rfl;have tU:=zyw (c:=c2) (n:=n) hq (by omega);generalize zkm l (kd%8).toNat n=M0 at*;generalize uRun n q 12 0 (idM n)=U at*;have hS:=hG.shp;have hIm:ImV M0 (.vec (zbt n M0) n (some n)):=zez hS.len hS.row (λs t=>by have:=hG.bnd s t;unfold In64;omega);have hIu:ImV U (.vec (zbt n U) n (some n)):=zez hUs.len hUs.row (λs t=>by have:=hb s t;unfold In64;omega);have t1:=mOf (n:=n) hIm (by omega) (by rw[hS.len];omega) (λi hi=>hS.row i (by rw[hS.len]at hi;exact hi));have t2:=mOf (n:=n) hIu (by omega) (by rw[hUs.len];omega) (λi hi=>hUs.row i (by rw[hUs.len]at hi;exact hi));have hF:∀x,x<340282366920938463463374607431768211456->x<BIG:=λx hx=>zdz hx
 have s1:=znx hS (show 1<=n/\n<=8 by omega) (zmm hG) (hF 16 (by decide));have s2:=znx hUs (show 1<=n/\n<=8 by omega) (A0:=531441) (λi j=>hb i j) (hF _ (by decide));have t3:=ztl s1 s2 (zmm hG) (y:=531441) (λi j=>hb i j) (hF _ (by decide));have c1:qX [.agg (latC d kd l q c c2),.int .i64 3]=true:=by simp only[qX,AV.closed,zhj,qU]
 have c2':qX [.vec (zbt n M0) n (some n)]=true:=by simp only[qX,hIm.closed,qU]
 have c3:qX [.vec (zbt n U) n (some n)]=true:=by simp only[qX,hIu.closed,qU]
 have c4:qX [matC M0,matC U]=true:=by simp only[qX,s1.closed,s2.closed,qU]
 have c5:qX [.vec (i8z q) q.length c2,.int .i64 (n:Nat)]=true:=by simp only[qX,AV.closed,qU]
 have c6:(matC (cgM n M0 U)).closed=true:=(znx (zqr n M0 U) (show 1<=n/\n<=8 by omega) (A0:=70368744177664) (λi j=>qvw hn8.2 hG hb i j) (hF _ (by decide))).closed;have g0:getB [some (latC d kd l q c c2)] 0=some (latC d kd l q c c2):=rfl;have et4:List.take 4 (latC d kd l q c c2)=latC d kd l q c c2:=rfl;have g3:(latC d kd l q c c2).getD 3 .junk= .vec (i8z q) q.length c2:=rfl;have gl:(latC d kd l q c c2).length=4:=rfl;refine oF o59 ?_;simp only[c59,r59_0,SS,reduceCtorEq];simp only[r59_1,SS,reduceIte,qQ,g0];refine⟨by show 4<=4;omega,?_⟩;rw[et4];refine zaa tG ?_ c1 hIm.closed;simp only[zaf,SS,reduceIte,qQ];simp only[r59_2,SS,reduceIte,qQ];refine zaa t1 ?_ c2' s1.closed;simp only[zaf,zac,keys,qZ,qK,SS,fC,reduceIte,qY,qQ,qW,g3,gl];refine zaa tU ?_ c5 hIu.closed;simp only[zaf,zac,keys,qZ,qK,SS,reduceIte,qQ];refine zaa t2 ?_ c3 s2.closed;simp only[zaf,zac,keys,qZ,qK,SS,reduceIte,qQ];refine zaa t3 ?_ c4 c6;simp only[zaf,zac,keys,qZ,qK,SS,reduceIte,qQ];refine⟨rfl,.inl trivial,_,rfl,.drop _ _ ?_ (by intro i cs h;omega)⟩;simp only[UU,qQ,reduceIte];exact zbd _ [matC (cgM n M0 U)] (by simp only[qX,c6,qU]) |> λe=>by simpa only[AV.under.underL,Bool.and_true]using e
theorem jht{d kd:Int}{l q:List Int}{c c2:Option Nat}{n:Nat}(h:zgf l)(hq:zgf q)(hd:0<=d/\d<256)(hk:0<=kd/\kd<256)(hn:(n:Int)=1+d%3):
  ∃M',Shp n M'/\Red n (rowF M')/\lead (rowF M') n=lead (rowF (zkm l (kd%8).toNat n)) n/\(∀m t,0<m->NS m (rowF M') n t=NS m (rowF (zkm l (kd%8).toNat n)) n t)/\Rt 13 [.agg (latC d kd l q c c2),.int .i64 3] [] (.vec (zbt n M') n (some n)) []:=by
 have hn8:1<=n/\n<=3:=by omega
 have tR:=tRaw (c:=c) (c2:=c2) h hq hd hk hn;obtain⟨hG,hg⟩:=qby (l:=l) (kind:=(kd%8).toNat) hn8.1 (show n<=8 by omega);obtain⟨hb,hUs,hpos,hlead,hns,_⟩:=qfa (q:=q) hn8.1 hn8.2 hG hg rfl;generalize zkm l (kd%8).toNat n=M0 at*;generalize uRun n q 12 0 (idM n)=U at*;have hF:∀x,x<340282366920938463463374607431768211456->x<BIG:=λx hx=>zdz hx
 have s3:=znx (zqr n M0 U) (show 1<=n/\n<=8 by omega) (A0:=70368744177664) (λi j=>qvw hn8.2 hG hb i j) (hF _ (by decide));obtain⟨k,M',T',hE,hdt,hred,hL,tM⟩:=qey s3 (wb46 hn8.1 hn8.2) hpos (λs hs=>by have:=qvw hn8.2 hG hb s s;omega) (by rw[hlead];exact hg.2);refine⟨M',hL.shM,hred,by rw[hdt,hlead],λm t hm=>by rw[qpd hm hE hL t,hns m t hm],?_⟩;have c1:qX [.agg (latC d kd l q c c2),.int .i64 3]=true:=by simp only[qX,AV.closed,zhj,qU]
 have c3:qX [matC (cgM n M0 U)]=true:=by simp only[qX,s3.closed,qU]
 have g0:getB [some (latC d kd l q c c2)] 0=some (latC d kd l q c c2):=rfl;have et4:List.take 4 (latC d kd l q c c2)=latC d kd l q c c2:=rfl;refine oF o13 ?_;simp only[c13,r13_0,r13_1,SS,reduceCtorEq,reduceIte,qQ,g0];refine⟨by show 4<=4;omega,?_⟩;rw[et4];refine zaa tR ?_ c1 s3.closed;simp only[zaf,zac,qZ,qK,SS,reduceIte,qQ];refine zaa tM ?_ c3 (by simp only[AV.closed,qX,qU];rfl);simp only[zaf,zac,qZ,qK,SS,reduceIte,qQ,qA,qB,r13_2];exact⟨.inl trivial,_,rfl,.freeze 1 _ _ _ rfl (by intro i cs h;omega)⟩
end Go.Proofs.YtgfbaioffpcelaaGreatDoor
namespace Go.Proofs.YtgfbaioffpcelaaGreatDoor
open Go Go.AL Go.Proofs
namespace K
abbrev v(l:List AV)(c:Nat):AV:= .vec l l.length (some c)
theorem s2:Rt 62 [i 2] [] (.agg [F,v [u 2] 2]) []:=zag mem0 (by kernel_rfl)
theorem v2_2:Rt 61 [.agg [F,v [u 2] 2],i 2] [] (.tup [i 1,.agg [F,v [u 1] 2],i 0]) []:=zag mem0 (by kernel_rfl)
theorem s4:Rt 62 [i 4] [] (.agg [F,v [u 4] 2]) []:=zag mem0 (by kernel_rfl)
theorem v4_2:Rt 61 [.agg [F,v [u 4] 2],i 2] [] (.tup [i 2,.agg [F,v [u 1] 2],i 0]) []:=zag mem0 (by kernel_rfl)
theorem s6:Rt 62 [i 6] [] (.agg [F,v [u 6] 2]) []:=zag mem0 (by kernel_rfl)
theorem v6_2:Rt 61 [.agg [F,v [u 6] 2],i 2] [] (.tup [i 1,.agg [F,v [u 3] 2],i 0]) []:=zag mem0 (by kernel_rfl)
theorem v6_3:Rt 61 [.agg [F,v [u 6] 2],i 3] [] (.tup [i 1,.agg [F,v [u 2] 2],i 0]) []:=zag mem0 (by kernel_rfl)
theorem s8:Rt 62 [i 8] [] (.agg [F,v [u 8] 2]) []:=zag mem0 (by kernel_rfl)
theorem v8_2:Rt 61 [.agg [F,v [u 8] 2],i 2] [] (.tup [i 3,.agg [F,v [u 1] 2],i 0]) []:=zag mem0 (by kernel_rfl)
theorem s10:Rt 62 [i 10] [] (.agg [F,v [u 10] 2]) []:=zag mem0 (by kernel_rfl)
theorem v10_2:Rt 61 [.agg [F,v [u 10] 2],i 2] [] (.tup [i 1,.agg [F,v [u 5] 2],i 0]) []:=zag mem0 (by kernel_rfl)
theorem v10_5:Rt 61 [.agg [F,v [u 10] 2],i 5] [] (.tup [i 1,.agg [F,v [u 2] 2],i 0]) []:=zag mem0 (by kernel_rfl)
theorem s12:Rt 62 [i 12] [] (.agg [F,v [u 12] 2]) []:=zag mem0 (by kernel_rfl)
theorem v12_2:Rt 61 [.agg [F,v [u 12] 2],i 2] [] (.tup [i 2,.agg [F,v [u 3] 2],i 0]) []:=zag mem0 (by kernel_rfl)
theorem v12_3:Rt 61 [.agg [F,v [u 12] 2],i 3] [] (.tup [i 1,.agg [F,v [u 4] 2],i 0]) []:=zag mem0 (by kernel_rfl)
theorem s14:Rt 62 [i 14] [] (.agg [F,v [u 14] 2]) []:=zag mem0 (by kernel_rfl)
theorem v14_2:Rt 61 [.agg [F,v [u 14] 2],i 2] [] (.tup [i 1,.agg [F,v [u 7] 2],i 0]) []:=zag mem0 (by kernel_rfl)
theorem v14_7:Rt 61 [.agg [F,v [u 14] 2],i 7] [] (.tup [i 1,.agg [F,v [u 2] 2],i 0]) []:=zag mem0 (by kernel_rfl)
theorem s16:Rt 62 [i 16] [] (.agg [F,v [u 16] 2]) []:=zag mem0 (by kernel_rfl)
theorem v16_2:Rt 61 [.agg [F,v [u 16] 2],i 2] [] (.tup [i 4,.agg [F,v [u 1] 2],i 0]) []:=zag mem0 (by kernel_rfl)
theorem s18:Rt 62 [i 18] [] (.agg [F,v [u 18] 2]) []:=zag mem0 (by kernel_rfl)
theorem v18_2:Rt 61 [.agg [F,v [u 18] 2],i 2] [] (.tup [i 1,.agg [F,v [u 9] 2],i 0]) []:=zag mem0 (by kernel_rfl)
theorem v18_3:Rt 61 [.agg [F,v [u 18] 2],i 3] [] (.tup [i 2,.agg [F,v [u 2] 2],i 0]) []:=zag mem0 (by kernel_rfl)
theorem s20:Rt 62 [i 20] [] (.agg [F,v [u 20] 2]) []:=zag mem0 (by kernel_rfl)
theorem v20_2:Rt 61 [.agg [F,v [u 20] 2],i 2] [] (.tup [i 2,.agg [F,v [u 5] 2],i 0]) []:=zag mem0 (by kernel_rfl)
theorem v20_5:Rt 61 [.agg [F,v [u 20] 2],i 5] [] (.tup [i 1,.agg [F,v [u 4] 2],i 0]) []:=zag mem0 (by kernel_rfl)
end K
end Go.Proofs.YtgfbaioffpcelaaGreatDoor
namespace Go.Proofs.YtgfbaioffpcelaaGreatDoor
open Go Go.AL Go.Proofs Go.Limb
def ValK(k p e:Nat):Prop:= ∃x r:AV,x.closed=true/\r.closed=true/\(∃a b,x= .agg [a,b])/\(∃a b,r= .agg [a,b]/\(a.scal && b.scal)=true)/\Rt 62 [.int .i64 ((2*k:Nat):Int)] [] x []/\Rt 61 [x,.int .i64 (p:Int)] [] (.tup [.int .i64 (e:Int),r,.int .i64 0]) []
def cntD(n P k:Nat)(M:List (List Int)):Nat:=(Count.allV P n).countP λy=>decide (Count.nrm (gN n M P) n y%P=k%P)
theorem jhu{rows:List AV}{ch:Option Nat}{n p k e:Nat}{M:List (List Int)}(hV:ImV M (.vec rows n ch))(hS:Shp n M)(hsy:∀i j,i<n->j<n->ent M i j=ent M j i)(n1:1<=n)(n8:n<=8)(hchk:Rt 60 [.vec rows n ch,.int .i64 (p:Int)] [] (.int .i64 0) [])(hp2:2<=p)(hp3:p<=9973)(he:e<=1000)(hpow:(p^(2*e+1))^n<=40000)
  (hk:1<=k/\k<=1000) (hv:ValK k p e):
  ∃r,zcc (numR (cntD n (p^(2*e+1)) k M:Nat) ((((p^(2*e+1))^(n-1):Nat)):Int)) (denR (cntD n (p^(2*e+1)) k M:Nat) ((((p^(2*e+1))^(n-1):Nat)):Int)) r/\Rt 16 [.vec rows n ch,.int .i64 (p:Int),.int .i64 (k:Int)] [] (.tup [r,.int .i64 0]) []:=by
 have hP1:p^1<=p^(2*e+1):=qN (by omega) (by omega);rw[Nat.pow_one]at hP1;have hPe:p^(2*e+1)<=40000:=qI (by have:=qN (n:=p^(2*e+1)) (by omega) n1;rwa[Nat.pow_one]at this) hpow;have hAle:(p^(2*e+1))^(n-1)<=40000:=qI (qN (by omega) (by omega)) hpow;obtain⟨fin,f1,f2,f3⟩:=qur hV hS hsy ⟨n1,n8⟩ (m:=p^(2*e+1)) (by omega) (by omega) (xK hpow (by decide));have hcl:=hV.closed;have hcf:(AV.vec (ints fin) (p^(2*e+1)) (some (p^(2*e+1)))).closed=true:=by simp only[AV.closed]
 have tC:=quq (e:=2*e+1) hcl hchk (by omega) (by omega) (by omega) n1 (by omega) (by omega) f3 hcf;have hCe:fin.getD (k%p^(2*e+1)) 0=cntD n (p^(2*e+1)) k M:=f2 _
 have hCle:cntD n (p^(2*e+1)) k M<=40000:=by
  refine qI xD ?_;rw[Count.allV_len];exact hpow
 generalize cntD n (p^(2*e+1)) k M=C at*;generalize p^(2*e+1)=P at*;have hA0:1<=P^(n-1):=Nat.one_le_pow _ _ (by omega);obtain⟨x,r0,cx,cr,⟨x1,x2,ex⟩,⟨y1,y2,ey,sy⟩,t1,tv⟩:=hv;obtain⟨w,iw,t2⟩:=zjf (P:Int) (by omega) (by omega);obtain⟨y,iy,t3⟩:=que iw (s:=n-1) (by omega) (by omega) (fitN (by omega)) false (by simp);simp only[Bool.false_eq_true,if_false]at iy t3;obtain⟨z,iz,t4⟩:=zjf (C:Int) (by omega) (by omega);obtain⟨r,ir,t5⟩:=ztc iz iy zds zds (by omega) (zlb (by rw[Int.mul_one];omega)) (zlb (by rw[Int.one_mul];omega));rw[Int.mul_one,Int.one_mul]at ir;subst ex ey;obtain⟨_,_,_,_,rfl,_,_⟩:=iw.shape;obtain⟨_,_,_,_,rfl,_,_⟩:=iy.shape;obtain⟨_,_,_,_,rfl,_,_⟩:=iz.shape;obtain⟨_,_,_,_,rfl,_,_⟩:=ir.shape;refine⟨_,ir,?_⟩;have c0:qX [.vec rows n ch,.int .i64 (p:Int)]=true:=by simp only[qX,hcl];rfl
 have cA:∀y:Int,qX [.vec rows n ch,.int .i64 (p:Int),.int .i64 y]=true:=λy=>by simp only[qX,hcl];rfl
 have cV:AV.closed (.tup [.vec (ints fin) P (some P),.int .i64 0])=true:=by simp only[AV.closed,qX,qU]
 have cX:qX [.agg [x1,x2],.int .i64 (p:Int)]=true:=by simp only[qX,cx];rfl
 have cT:AV.closed (.tup [.int .i64 (e:Int),.agg [y1,y2],.int .i64 0])=true:=by simp only[AV.closed,qX]at cr ⊢;rw[cr];rfl
 have d1:decide ((k:Int)<1)=false:=dF;have d2:decide (1000<(k:Int))=false:=dF;have w1:IntKind.i64.wrap (2*(k:Int))=((2*k:Nat):Int):=wQ (by omega);have w2:IntKind.i64.wrap (2*(e:Int))=((2*e:Nat):Int):=wQ (by omega);have w3:=wS1 (2*e) (by omega);have w4:IntKind.i64.wrap ((n:Int)-1)=((n-1:Nat):Int):=wQ (by omega);have et:Int.tmod (k:Int) (P:Int)=((k%P:Nat):Int):=rfl;have hkM:=Nat.mod_lt k (show 0<P by omega);have ga:=zfs fin (k%P) (by omega) AV.junk;rw[hCe]at ga;refine oF o16 ?_;simp only[c16,r16_0,SS,reduceCtorEq];simp only[r16_1,SS,reduceCtorEq,reduceIte,qQ];refine zaa hchk ?_ c0;simp only[zaf,zac,qZ,qK,SS,reduceIte,qQ];simp only[r16_2,SS,reduceIte,qQ];refine⟨λh=>absurd rfl h,λ_=>?_⟩;simp only[r16_4,↓zcq,SS,fC,reduceIte,qQ,d1,d2];simp only[r16_6,SS,reduceIte,qQ,w1];refine zaa t1 ?_ rfl cx;simp only[zaf,zac,qZ,qK,SS,reduceIte,qQ];refine zaa tv ?_ cX cT;simp only[zaf,zac,qZ,qK,SS,reduceIte,qY,qQ,qW,qA,qB];simp only[r16_7,SS,reduceCtorEq,reduceIte,qQ,w2,w3];refine⟨sy,?_⟩;refine zaa tC ?_ (cA _) cV;simp only[zaf,zac,qZ,qK,SS,reduceIte,qQ,qA,qB];simp only[r16_8,SS,reduceIte,qQ];refine⟨λh=>absurd rfl h,λ_=>?_⟩;simp only[r16_10,SS,reduceIte,qQ];simp only[r16_11,SS,reduceIte,qQ];refine zaa t2 ?_;simp only[zaf,zac,qZ,qK,SS,reduceCtorEq,reduceIte,qQ,w4];refine zaa t3 ?_;simp only[zaf,zac,qZ,qK,SS,reduceIte,qY,qQ,qW,qA,qB];simp only[r16_12,SS,fC,reduceIte,qQ,et,qV,ga,zhz,f1];refine⟨by omega,⟨xM _,Int.ofNat_lt.2 hkM⟩,hkM,?_⟩;refine zaa t4 ?_;simp only[zaf,zac,keys,qZ,qK,SS,reduceIte,qY,qQ,qW];refine zaa t5 ?_;simp only[zaf,zac,keys,qZ,qK,SS,reduceIte,qY,qQ,qW];refine⟨rfl,?_⟩;exact dR
theorem valK{k p:Nat}(hk:1<=k/\k<=10)(hp:PrmZ (p:Int))(hp2:p<=9973):∃e,ValK k p e/\e<=4/\p^e∣2*k/\¬p^(e+1)∣2*k:=by
 have hp0:2<=p:=by have:=hp.1;omega
 have hpr:∀d,2<=d->d*d<=p->p%d≠0:=by
  have:=hp.2.2.2
  rwa[qV]at this
 by_cases hd:(2*k)%p=0
 ·have hle:p<=20:=qI (Nat.le_of_dvd (by omega) (Nat.dvd_of_mod_eq_zero hd)) (by omega)
  have h4:p=2\/p%2≠0:=by
   rcases(by omega:p=2\/p=3\/4<=p)with h | h | h
   ·exact .inl h
   ·exact .inr (by omega)
   ·exact .inr (hpr 2 (by omega) (by omega))
  have h9:p=3\/p%3≠0:=by
   rcases(by omega:p=3\/p<9\/9<=p)with h | h | h
   ·exact .inl h
   ·rcases h4 with h4 | h4
    ·exact .inr (by omega)
    ·by_cases h3:p%3=0
     ·exact .inl (by omega)
     ·exact .inr h3
   ·exact .inr (hpr 3 (by omega) (by omega))
  rcases(by omega:p=2\/p=3\/p=5\/p=7\/p=11\/p=13\/p=17\/p=19)with rfl | rfl | rfl | rfl | rfl | rfl | rfl | rfl
  ·rcases(by omega:k=1\/k=2\/k=3\/k=4\/k=5\/k=6\/k=7\/k=8\/k=9\/k=10)with rfl | rfl | rfl | rfl | rfl | rfl | rfl | rfl | rfl | rfl
   ·exact⟨1,⟨_,_,rfl,rfl,⟨_,_,rfl⟩,⟨_,_,rfl,rfl⟩,K.s2,K.v2_2⟩,by decide,by decide,by decide⟩
   ·exact⟨2,⟨_,_,rfl,rfl,⟨_,_,rfl⟩,⟨_,_,rfl,rfl⟩,K.s4,K.v4_2⟩,by decide,by decide,by decide⟩
   ·exact⟨1,⟨_,_,rfl,rfl,⟨_,_,rfl⟩,⟨_,_,rfl,rfl⟩,K.s6,K.v6_2⟩,by decide,by decide,by decide⟩
   ·exact⟨3,⟨_,_,rfl,rfl,⟨_,_,rfl⟩,⟨_,_,rfl,rfl⟩,K.s8,K.v8_2⟩,by decide,by decide,by decide⟩
   ·exact⟨1,⟨_,_,rfl,rfl,⟨_,_,rfl⟩,⟨_,_,rfl,rfl⟩,K.s10,K.v10_2⟩,by decide,by decide,by decide⟩
   ·exact⟨2,⟨_,_,rfl,rfl,⟨_,_,rfl⟩,⟨_,_,rfl,rfl⟩,K.s12,K.v12_2⟩,by decide,by decide,by decide⟩
   ·exact⟨1,⟨_,_,rfl,rfl,⟨_,_,rfl⟩,⟨_,_,rfl,rfl⟩,K.s14,K.v14_2⟩,by decide,by decide,by decide⟩
   ·exact⟨4,⟨_,_,rfl,rfl,⟨_,_,rfl⟩,⟨_,_,rfl,rfl⟩,K.s16,K.v16_2⟩,by decide,by decide,by decide⟩
   ·exact⟨1,⟨_,_,rfl,rfl,⟨_,_,rfl⟩,⟨_,_,rfl,rfl⟩,K.s18,K.v18_2⟩,by decide,by decide,by decide⟩
   ·exact⟨2,⟨_,_,rfl,rfl,⟨_,_,rfl⟩,⟨_,_,rfl,rfl⟩,K.s20,K.v20_2⟩,by decide,by decide,by decide⟩
  ·rcases(by omega:k=3\/k=6\/k=9)with rfl | rfl | rfl
   ·exact⟨1,⟨_,_,rfl,rfl,⟨_,_,rfl⟩,⟨_,_,rfl,rfl⟩,K.s6,K.v6_3⟩,by decide,by decide,by decide⟩
   ·exact⟨1,⟨_,_,rfl,rfl,⟨_,_,rfl⟩,⟨_,_,rfl,rfl⟩,K.s12,K.v12_3⟩,by decide,by decide,by decide⟩
   ·exact⟨2,⟨_,_,rfl,rfl,⟨_,_,rfl⟩,⟨_,_,rfl,rfl⟩,K.s18,K.v18_3⟩,by decide,by decide,by decide⟩
  ·rcases(by omega:k=5\/k=10)with rfl | rfl
   ·exact⟨1,⟨_,_,rfl,rfl,⟨_,_,rfl⟩,⟨_,_,rfl,rfl⟩,K.s10,K.v10_5⟩,by decide,by decide,by decide⟩
   ·exact⟨1,⟨_,_,rfl,rfl,⟨_,_,rfl⟩,⟨_,_,rfl,rfl⟩,K.s20,K.v20_5⟩,by decide,by decide,by decide⟩
  ·obtain rfl:k=7:=by omega
   exact⟨1,⟨_,_,rfl,rfl,⟨_,_,rfl⟩,⟨_,_,rfl,rfl⟩,K.s14,K.v14_7⟩,by decide,by decide,by decide⟩
  ·omega
  ·omega
  ·omega
  ·omega
 ·obtain⟨x,ix,t1⟩:=znp ((2*k:Nat):Int) (by omega) (by omega);obtain⟨r0,ir0,tv⟩:=jgo hp hp2 (by omega) (by omega) hd ix;have cx:=ix.closed;have cr:=ir0.closed;obtain⟨_,_,rfl⟩:=ix.shape;obtain⟨_,_,rfl⟩:=ir0.shape;exact⟨0,⟨_,_,cx,cr,⟨_,_,rfl⟩,⟨_,_,rfl,rfl⟩,t1,tv⟩,by decide,by simp,λh=>hd (Nat.mod_eq_zero_of_dvd (by simpa using h))⟩
theorem jdv{M:List (List Int)}{a:AV}{i j:Nat}(hV:ImV M a)(hi:i<M.length)(hj:j<(M.getD i []).length):∃v,zap (ent M i j) v/\Rt 180 [.int .i64 (i:Int),.int .i64 (j:Int),.ptr 0 0] [some [a]] v [some [a]]:=by
 obtain⟨v,iv,t1⟩:=znp (ent M i j) (hV.fit i j).1 (hV.fit i j).2;obtain⟨_,_,rfl⟩:=iv.shape;refine⟨_,iv,?_⟩;obtain⟨rows,c,rfl,hl,hr⟩:=hV.val;obtain⟨c',e⟩:=hr i hi;have g:(i64z (M.getD i [])).getD j .junk= .int .i64 (ent M i j):=zck (M.getD i []) j hj .junk;have hil:=zbe (M.getD i []);refine oF o180 ?_;simp only[c180,r180_0,r180_1,SS,fC,reduceCtorEq,reduceIte,qQ,qW,qV,hl,e,g];refine⟨⟨by omega,by omega⟩,by omega,⟨by omega,by omega⟩,by omega,?_⟩;refine zaa t1 ?_;simp only[SS,reduceIte,qY,qQ,qW]
 exact⟨.inl trivial,_,rfl,.drop _ _ rfl (by
  intro i cs hi hc;obtain rfl:i=0:=by omega
  cases hc;rfl)⟩
def ps2(n i:Nat):List (Nat×Option Nat):=(List.range i).map λk=>(k+2,some n)
theorem zng(n i:Nat):(ps2 n i).length=i:=by simp[ps2]
theorem jdw{n i k:Nat}(h:k<i):(ps2 n i).getD k (0,none)=(k+2,some n):=by
 rw[qJ];simp[ps2,h]
theorem qvx(n i:Nat):ps2 n (i+1)=ps2 n i++[(i+2,some n)]:=by simp[ps2,List.range_succ]
def out2(N n i:Nat):List AV:=(ps2 n i).map (zcv n)++List.replicate (N-i) nilV
theorem zon{N n i:Nat}(h:i<=N):(out2 N n i).length=N:=by simp[out2,zng];omega
theorem qvy{N n i:Nat}(h:i<N):(out2 N n i).set i (.sl (i+2) 0 n 2 (some n))=out2 N n (i+1):=by
 unfold out2;rw[show List.replicate (N-i) nilV=nilV::List.replicate (N-(i+1)) nilV by rw[<-List.replicate_succ];congr 1;omega,qvx,xC _ _ (by simp[zng])];simp[zng,zcv]
theorem qfb{N n i k:Nat}(h:k<i):(out2 N n i).getD k .junk= .sl (k+2) 0 n 2 (some n):=by
 unfold out2;rw[qJ,qG (by simp[zng];exact h)];simp[ps2,zcv,h]
structure BP(N n i:Nat)(M:List (List Int))(x:List AV)(H:Heap):Prop where
 len:H.length=i+2
 h0:getB H 0=some x
 h1:getB H 1=some (out2 N n i)
 rows:∀k,k<i->∃cs,getB H (k+2)=some cs/\RowC (M.getD k []) cs
theorem BP.mat{N n:Nat}{M:List (List Int)}{x:List AV}{H:Heap}(h:BP N n N M x H)(hM:M.length=N)(hc:∀i,i<N->(M.getD i []).length=n):MatH H 1 (ps2 n N) n M:=by
 refine⟨?_,by rw[zng,hM],λi hi=>hc i (by omega),λi hi=>?_,?_⟩
 ·rw[h.h1];unfold out2;rw[qO,qZ,qK]
 ·rw[jdw (by omega)];exact h.rows i (by omega)
 ·have e:(ps2 n N).map (·.1)=(List.range N).map (· + 2):=by simp[ps2]
  rw[e,xJ];refine⟨λh=>?_,?_⟩
  ·obtain⟨k,_,hk⟩:=List.mem_map.1 h;omega
  ·refine List.pairwise_iff_getElem.2 (λi j hi hj hij=>?_);rw[qL,qL,qH,qH];omega
def rowW(M:List (List Int))(n i j:Nat):List Int:=(List.range n).map λt=>if t<j then ent M i t else 0
theorem zmn(M:List (List Int))(n i j:Nat):(rowW M n i j).length=n:=by simp[rowW]
theorem qpu(M:List (List Int))(n i:Nat):rowW M n i 0=zrow n:=by
 unfold rowW zrow;refine xZ (by simp) λt h1 h2=>?_
 simp
theorem qvz(M:List (List Int)){n i j:Nat}(hj:j<n):(rowW M n i j).set j (ent M i j)=rowW M n i (j+1):=by
 refine xZ (by simp[rowW]) λt h1 h2=>?_
 rw[List.getElem_set];simp only[rowW,qL,qH];by_cases e:j=t
 ·subst e;rw[if_pos rfl,if_pos (by omega)]
 ·rw[if_neg e];by_cases h:t<j
  ·rw[if_pos h,if_pos (by omega)]
  ·rw[if_neg h,if_neg (by omega)]
theorem qwa{M:List (List Int)}{n i:Nat}(h:(M.getD i []).length=n):rowW M n i n=M.getD i []:=by
 refine xZ (by rw[zmn,h]) λt h1 h2=>?_
 simp only[rowW,qL,qH];rw[if_pos (by rw[zmn]at h1;exact h1)];unfold ent;rw[qJ,qC h2];rfl
structure BR(N n i j:Nat)(M:List (List Int))(x:List AV)(H:Heap):Prop where
 len:H.length=i+3
 h0:getB H 0=some x
 h1:getB H 1=some (out2 N n (i+1))
 rows:∀k,k<i->∃cs,getB H (k+2)=some cs/\RowC (M.getD k []) cs
 row:∃cs,getB H (i+2)=some cs/\RowC (rowW M n i j) cs
theorem BP.row{N n i:Nat}{M:List (List Int)}{x:List AV}{H:Heap}(h:BP N n i M x H)(hi:i<N):BR N n i 0 M x ((H++[some (zcs n)]).set 1 (some ((out2 N n i).set i (.sl H.length 0 n 2 (some n))))):=by
 have hl:=h.len;refine⟨by simp[hl],by rw[zai (by decide),zbm (by omega)];exact h.h0,?_,λk hk=>?_,zcs n,?_,by rw[qpu];exact zss n⟩
 ·rw[zaw (by simp[hl]),hl,qvy hi]
 ·obtain⟨cs,g,r⟩:=h.rows k hk;exact⟨cs,by rw[zai (by omega),zbm (by omega)];exact g,r⟩
 ·rw[zai (by omega),<-hl,zba]
theorem BR.done{N n i:Nat}{M:List (List Int)}{x:List AV}{H:Heap}(h:BR N n i n M x H)(hc:(M.getD i []).length=n):BP N n (i+1) M x H:=by
 refine⟨h.len,h.h0,h.h1,λk hk=>?_⟩;by_cases e:k=i
 ·subst e;have:=h.row
  rwa[qwa hc]at this
 ·exact h.rows k (by omega)
theorem BR.step{N n i j:Nat}{M:List (List Int)}{x:List AV}{H:Heap}(h:BR N n i j M x H)(hj:j<n){u v:AV}(hz:zap (ent M i j) (.agg [u,v])){cs:List AV}(hcs:getB H (i+2)=some cs):BR N n i (j+1) M x (H.set (i+2) (some (setL cs (j*2) [u,v]))):=by
 have hl:=h.len;refine⟨by rw[yQ];exact hl,by rw[zai (by omega)];exact h.h0,by rw[zai (by omega)];exact h.h1,λk hk=>?_,_,zaw (by omega),?_⟩
 ·obtain⟨cs',g,r⟩:=h.rows k hk;exact⟨cs',by rw[zai (by omega)];exact g,r⟩
 ·obtain⟨cs',g,r⟩:=h.row;obtain rfl:cs'=cs:=by rw[hcs]at g;exact(Option.some.inj g).symm
  have:=zut r j _ u v (by rw[zmn];exact hj) hz
  rwa[qvz M hj]at this
theorem qwb{H:Heap}{p:Nat}{x:List AV}(h:getB H p=some x):H.set p (some x)=H:=by
 have h1:=zcn h;refine xN λt=>?_
 rw[List.getElem?_set];by_cases e:p=t
 ·subst e;rw[if_pos rfl,h1];obtain⟨hl,_⟩:=List.getElem?_eq_some_iff.1 h1;rw[if_pos hl]
 ·rw[if_neg e]
theorem okF:okC (okFn Tryz.prog) 180=true:=ztr qkz (by decide)
theorem jdx{M:List (List Int)}{a:AV}{n:Nat}(hV:ImV M a)(hn:1<=n/\n<=16)(hN:1<=M.length/\M.length<=16)(hc:∀i,i<M.length->(M.getD i []).length=n):
  Rt 179 [.int .i64 (M.length:Nat),.int .i64 (n:Nat),.clo 180 [.ptr 0 0]] [some [a]] (matC M) [some [a]]:=by
 have hacl:qX [a]=true:=by simp only[qX,hV.closed,qU]
 have hNN:M.length=M.length:=rfl;generalize hNe:M.length=N at hNN hN hc ⊢;refine oFw o179 ?_;simp only[c179,r179_0,r179_1,r179_2,SS,reduceCtorEq,reduceIte,qQ,qV];refine⟨by omega,⟨by omega,by omega,by omega,by omega⟩,?_⟩
 refine zaj (λk E H=>∃i,i+k=N/\BP N n i M [a] H/\E 1= .int .i64 (n:Nat)/\E 2= .clo 180 [.ptr 0 0]/\E 7= .sl 1 0 N 1 (some N)/\E 13= .int .i64 (N:Nat)/\E 14= .int .i64 (i:Nat)) (n:=N)
  ⟨0,by omega,⟨rfl,rfl,by simp[out2,ps2,getB],λk hk=>absurd hk (by omega)⟩,by rfl,by rfl,by rfl,by rfl,by rfl⟩ ?_
 rintro k E H ⟨i,hik,hB,e1,e2,e7,e13,e14⟩;refine wM ?_;simp only[l179_0,r179_3,SS,reduceCtorEq,reduceIte,e13,e14];refine⟨λhlt=>?_,λhge=>?_⟩
 ·obtain⟨k,rfl⟩:∃k',k=k'+1:=⟨k-1,by omega⟩
  have hi:i<N:=by omega
  have hol:=zon (n:=n) (show i<=N by omega);have hol2:=zon (n:=n) (show i+1<=N by omega);have hog:=qfb (N:=N) (n:=n) (show i<i+1 by omega);have hl:=hB.len;have hR:=hB.row hi;have g1:getB (H++[some (zeo n [AV.bool false,AV.vec [] 0 (some 0)])]) 1=some (out2 N n i):=by rw[zbm (by omega)];exact hB.h1
  have q1:=hR.h1;have w5:=wS1 i (by omega);simp only[r179_4,r179_5,SS,reduceIte,qY,qQ,e1,e7,e14,qV,g1,hol];refine⟨by omega,⟨by omega,by omega,by omega,by omega⟩,⟨by omega,by omega⟩,by omega,?_⟩;change BR N n i 0 M [a] ((H++[some (zeo n [AV.bool false,AV.vec [] 0 (some 0)])]).set 1 (some ((out2 N n i).set i (.sl H.length 0 n 2 (some n)))))at hR;change getB ((H++[some (zeo n [AV.bool false,AV.vec [] 0 (some 0)])]).set 1 (some ((out2 N n i).set i (.sl H.length 0 n 2 (some n))))) 1=_ at q1;generalize (H++[some (zeo n [AV.bool false,AV.vec [] 0 (some 0)])]).set 1 (some ((out2 N n i).set i (.sl H.length 0 n 2 (some n))))=H1 at*;simp only[r179_6,SS,fC,reduceIte,qQ,e7,qV,q1,hol2,hog];refine⟨⟨by omega,by omega⟩,by omega,?_⟩
  refine zaj (λm E H=>∃j,j+m=n/\BR N n i j M [a] H/\E 1= .int .i64 (n:Nat)/\E 2= .clo 180 [.ptr 0 0]/\E 7= .sl 1 0 N 1 (some N)/\E 8= .int .i64 (i:Nat)/\E 13= .int .i64 (N:Nat)/\E 14= .int .i64 (i:Nat)/\E 26= .int .i64 (n:Nat)/\E 27= .int .i64 (j:Nat)) (n:=n)
   ⟨0,by omega,hR,by exact e1,by exact e2,by exact e7,by rfl,by exact e13,by exact e14,by rfl,by rfl⟩ ?_
  clear hR q1 e1 e2 e7 e13 e14 hB hl g1 E;rintro m E H2 ⟨j,hjm,hR,e1,e2,e7,e8,e13,e14,e26,e27⟩;refine wM ?_;simp only[l179_1,r179_7,SS,reduceCtorEq,reduceIte,qQ,e26,e27];refine⟨λhjn=>?_,λhjn=>?_⟩
  ·obtain⟨m,rfl⟩:∃k',m=k'+1:=⟨m-1,by omega⟩
   have hj:j<n:=by omega
   obtain⟨v,iv,t1⟩:=jdv hV (i:=i) (j:=j) (by omega) (by rw[hc i hi];exact hj);obtain⟨lv,cv,rfl⟩:=iv.shape;obtain⟨cs,gc,rc⟩:=hR.row;have hcl:=zcz rc;rw[zmn]at hcl;have hst:=hR.step hj iv gc;have q1:=hR.h1;have w6:=wS1 j (by omega);simp only[r179_8,r179_9,SS,fC,reduceIte,qQ,e2,e7,e8,e27,qV,q1,hol2,hog];refine⟨⟨by omega,by omega⟩,by omega,_,_,rfl,okF,?_⟩;refine zcm (id:=0) (args0:=[.int .i64 (i:Nat),.int .i64 (j:Nat),.ptr 0 0]) t1 hR.h0 rfl ?_ rfl hacl hacl rfl;simp only[zaf,zac,keys,qZ,qK,SS,reduceIte,qY,qQ];rw[qwb hR.h0];simp only[SS,gc,hcl];refine⟨⟨by omega,by omega⟩,by omega,rfl,?_⟩;simp only[r179_10,SS,reduceIte,qQ,e27,w6];refine⟨m,_,_,by omega,⟨j+1,by omega,hst,?_,?_,?_,?_,?_,?_,?_,?_⟩,.refl⟩
   all_goals simp only[UU,qQ,reduceIte, *]
  ·obtain rfl:j=n:=by omega
   simp only[r179_11,SS,reduceIte,qQ,e14,w5];refine⟨k,_,_,by omega,⟨i+1,by omega,hR.done (hc i hi),?_,?_,?_,?_,?_⟩,.refl⟩
   all_goals simp only[UU,qQ,reduceIte, *]
 ·obtain rfl:i=N:=by omega
  have hM:=hB.mat hNe hc
  obtain⟨vs,f1,f2,f3⟩:=zyb (m:=1) (zvh hM) (λq hq=>by
   obtain⟨k,_,rfl⟩:=List.mem_map.1 hq
   show 1<=k+2;omega)
  have hl:=hB.len;have hpl:=zng n i;simp only[r179_12,SS,reduceIte,qQ,e7];refine⟨.inl trivial,_,.vec vs i (some i),rfl,?_,by rw[<-hNe];exact qaw ⟨vs,some M.length,rfl,f2,f3⟩⟩
  have ht:H.take 1=[some [a]]:=by
   have:=zcn hB.h0;cases H with
   |nil=>simp at hl
   |cons b H=>simp at this;subst this;rfl
  rw[<-ht]
  refine .freeze 3 _ _ _ ?_ (by
   intro k cs hk hcs;obtain rfl:k=0:=by omega
   have:=zcn hB.h0;rw[this]at hcs;simp only[Option.some.injEq]at hcs;subst hcs;exact zbd _ _ hacl)
  show frzI 1 H 3 (.sl 1 0 i 1 (some i))=_
  rw[frzI];simp only[show¬1<1 by omega,if_false,hM.outer,need,xU,xO,qS,hpl,qD,if_true,xE];rw[qP (by simp[hpl]),f1];rfl
theorem qwc{rows:List AV}{c:Option Nat}{N n:Nat}(hl:rows.length=N)(hN:1<=N/\N<=16)(hn:1<=n/\n<=16)(hr:∀i,i<N->∃x c',rows.getD i .junk= .vec x n c'):
  Rt 178 [.vec rows N c] [] (.tup [.int .i64 (N:Nat),.int .i64 (n:Nat),.bool true]) []:=by
 have d1:decide ((N:Int)<1)=false:=dF;have d2:decide ((16:Int)<(N:Nat))=false:=dF;have d3:decide ((n:Int)<1)=false:=dF;have d4:decide ((16:Int)<(n:Nat))=false:=dF;obtain⟨x0,c0,e0⟩:=hr 0 (by omega);refine oF o178 ?_;simp only[c178,r178_0,SS,reduceCtorEq];simp only[r178_1,↓zcq,SS,fC,reduceCtorEq,reduceIte,qQ,d1,d2];simp only[r178_3,SS,fC,reduceCtorEq,reduceIte,qQ,Int.toNat_zero,e0,hl];refine⟨⟨by omega,by omega⟩,by omega,?_⟩;simp only[r178_4,↓zcq,SS,fC,reduceIte,qQ,d3,d4];simp only[r178_6,SS,reduceCtorEq,reduceIte,qQ]
 refine zaj (λk E H=>∃i,i+k=N/\E 0= .vec rows N c/\E 5= .int .i64 (n:Nat)/\E 26= .vec rows N c/\E 27= .int .i64 (N:Nat)/\E 28= .int .i64 (i:Nat)/\H=[]) (n:=N)
  ⟨0,by omega,by rfl,by rfl,by rfl,by rfl,by rfl,rfl⟩ ?_
 rintro k E H ⟨i,hik,h0,h5,h26,h27,h28,rfl⟩;refine wM ?_;simp only[l178_0,r178_7,SS,reduceCtorEq,reduceIte,h27,h28];refine⟨λhlt=>?_,λhge=>?_⟩
 ·obtain⟨k,rfl⟩:∃k',k=k'+1:=⟨k-1,by omega⟩
  obtain⟨xi,ci,ei⟩:=hr i (by omega);have d5:decide ((n:Int)≠(n:Nat))=false:=dF;have w5:=wS1 i (by omega);simp only[r178_8,r178_9,r178_11,SS,fC,reduceIte,qQ,h5,h26,h28,qV,ei,hl,d5,w5];refine⟨⟨by omega,by omega⟩,by omega,?_⟩;refine⟨k,_,_,by omega,⟨i+1,by omega,?_,?_,?_,?_,?_,rfl⟩,.refl⟩<;>simp only[UU,qQ,reduceIte, *]
 ·simp only[r178_12,SS,reduceCtorEq,reduceIte,qQ,h0,h5];exact dR
theorem qwd{rows:List AV}{c:Option Nat}{N n:Nat}(hl:rows.length=N)(hN:1<=N/\N<=16)(hn:1<=n/\n<=16)(hr:∀i,i<N->∃x c',rows.getD i .junk= .vec x n c'):
  Rt 181 [.vec rows N c] [] (.tup [.int .i64 (N:Nat),.int .i64 (n:Nat),.bool true]) []:=by
 have d1:decide ((N:Int)<1)=false:=dF;have d2:decide ((16:Int)<(N:Nat))=false:=dF;have d3:decide ((n:Int)<1)=false:=dF;have d4:decide ((16:Int)<(n:Nat))=false:=dF;obtain⟨x0,c0,e0⟩:=hr 0 (by omega);refine oF o181 ?_;simp only[c181,r181_0,SS,reduceCtorEq];simp only[r181_1,↓zcq,SS,fC,reduceCtorEq,reduceIte,qQ,d1,d2];simp only[r181_3,SS,fC,reduceCtorEq,reduceIte,qQ,Int.toNat_zero,e0,hl];refine⟨⟨by omega,by omega⟩,by omega,?_⟩;simp only[r181_4,↓zcq,SS,fC,reduceIte,qQ,d3,d4];simp only[r181_6,SS,reduceCtorEq,reduceIte,qQ]
 refine zaj (λk E H=>∃i,i+k=N/\E 0= .vec rows N c/\E 5= .int .i64 (n:Nat)/\E 26= .vec rows N c/\E 27= .int .i64 (N:Nat)/\E 28= .int .i64 (i:Nat)/\H=[]) (n:=N)
  ⟨0,by omega,by rfl,by rfl,by rfl,by rfl,by rfl,rfl⟩ ?_
 rintro k E H ⟨i,hik,h0,h5,h26,h27,h28,rfl⟩;refine wM ?_;simp only[l181_0,r181_7,SS,reduceCtorEq,reduceIte,h27,h28];refine⟨λhlt=>?_,λhge=>?_⟩
 ·obtain⟨k,rfl⟩:∃k',k=k'+1:=⟨k-1,by omega⟩
  obtain⟨xi,ci,ei⟩:=hr i (by omega);have d5:decide ((n:Int)≠(n:Nat))=false:=dF;have w5:=wS1 i (by omega);simp only[r181_8,r181_9,r181_11,SS,fC,reduceIte,qQ,h5,h26,h28,qV,ei,hl,d5,w5];refine⟨⟨by omega,by omega⟩,by omega,?_⟩;refine⟨k,_,_,by omega,⟨i+1,by omega,?_,?_,?_,?_,?_,rfl⟩,.refl⟩<;>simp only[UU,qQ,reduceIte, *]
 ·simp only[r181_12,SS,reduceCtorEq,reduceIte,qQ,h0,h5];exact dR
theorem jhv{M:List (List Int)}{a:AV}{n:Nat}(hV:ImV M a)(hn:1<=n/\n<=16)(hN:1<=M.length/\M.length<=16)(hc:∀i,i<M.length->(M.getD i []).length=n):
  Rt 96 [a] [] (.tup [matC M,.bool true]) []:=by
 have t2:=jdx hV hn hN hc;have hca:=hV.closed;have hacl:qX [a]=true:=by simp only[qX,hca,qU]
 obtain⟨rows,c,rfl,hl,hr⟩:=hV.val
 have t1:=qwc (c:=c) hl hN hn (λi hi=>by
  obtain⟨c',e⟩:=hr i hi;rw[hc i hi]at e;exact⟨_,_,e⟩)
 refine oF o96 ?_;simp only[c96,r96_0,SS,reduceCtorEq];simp only[r96_1,SS,fC,reduceIte,qQ,qW];refine zaa t1 ?_ hacl;simp only[SS,reduceIte,qQ,qA,qB];simp only[r96_2,SS,fC,reduceIte,qQ];simp only[r96_4,SS,reduceIte,qQ];refine zcm (id:=0) (args0:=[.int .i64 (M.length:Nat),.int .i64 (n:Nat),.clo 180 [.ptr 0 0]]) (H:=[some [.vec rows M.length c]]) t2 rfl rfl ?_ rfl hacl hacl rfl;simp only[zaf,zac,qZ,qK,SS,reduceIte,qQ];exact dR
end Go.Proofs.YtgfbaioffpcelaaGreatDoor
namespace Go.Det
theorem Red.stg_b{n:Nat}{a:Nat->Row}(h:Red n a){k i j:Nat}(hi:i<n)(hj:j<n)(hki:k<=i)(hkj:k<=j):(stg a k i j).natAbs<=12884901888:=by
 have key:∀i j,i<n->j<=i->k<=j->(stg a k i j).natAbs<=12884901888:=by
  intro i j hi hj hk;obtain⟨s1,s2⟩:=h.stage hi hj (j-k) k (by omega);have h8:=h.n8;have p:=h.pos' k (by omega);have b:=h.minor (k:=k) (by omega);have m:=Int.mul_le_mul (a:=lead a k) (c:=65536) (b:=(65536+16384*((j-k:Nat):Int))) (d:=196608) (by omega) (by omega) (by omega) (by decide);omega
 rcases Nat.le_total j i with h1 | h1
 ·exact key i j hi h1 hkj
 ·rw[zge h.sym k (by omega) (h.ne (by omega)) i j hi hj hki hkj];exact key j i hj h1 hki
theorem Red.col_b{n:Nat}{a:Nat->Row}(h:Red n a){k i:Nat}(hi:i<n)(hk:k<i):(stg a k i k).natAbs<=65536/\(stg a k k i).natAbs<=65536:=by
 have b:=h.minor (k:=k+1) (by omega);obtain⟨s1,s2⟩:=h.sized i k hi hk;have e:stg a k k i=stg a k i k:=zge h.sym k (by omega) (h.ne (by omega)) k i (by omega) hi (by omega) (by omega);rw[e];omega
theorem Red.piv_b{n:Nat}{a:Nat->Row}(h:Red n a){k:Nat}(hk:k<=n):0<lead a k/\lead a k<=65535:=⟨h.pos' k hk,h.minor hk⟩
theorem Red.new_b{n:Nat}{a:Nat->Row}(h:Red n a){k i j:Nat}(hi:i<n)(hj:j<n)(hki:k<i)(hkj:k<j):
  (lead a (k+1)*stg a k i j).natAbs<18446744073709551616/\(stg a k i k*stg a k k j).natAbs<18446744073709551616/\(lead a (k+1)*stg a k i j-stg a k i k*stg a k k j).natAbs<18446744073709551616/\
   lead a k∣(lead a (k+1)*stg a k i j-stg a k i k*stg a k k j)/\(lead a (k+1)*stg a k i j-stg a k i k*stg a k k j)/lead a k=stg a (k+1) i j:=by
 have b1:=h.stg_b hi hj (Nat.le_of_lt hki) (Nat.le_of_lt hkj);obtain⟨b2,b3⟩:=h.piv_b (k:=k+1) (by omega);have b4:=(h.col_b hi hki).1;have b5:=(h.col_b hj hkj).2;have m1:(lead a (k+1)*stg a k i j).natAbs<=65536*12884901888:=by rw[xW];exact xQ (by omega) b1
 have m2:(stg a k i k*stg a k k j).natAbs<=65536*65536:=by rw[xW];exact xQ b4 b5
 have r:=zcg (h.ne (k:=k) (by omega)) i j;have p:=h.pos' k (by omega);refine⟨by omega,by omega,by omega,⟨_,r.symm⟩,?_⟩;rw[<-r,Int.mul_ediv_cancel_left _ (by omega)]
end Go.Det
namespace Go.Proofs.YtgfbaioffpcelaaGreatDoor
open Go Go.AL Go.Proofs Go.Limb Go.Det
theorem jjp{P:Program}{Γ:Glob}{n0:Nat}{E:Env}{H:Heap}{d:Option Nat}{os:List COp}{Q:List FP->Env->Heap->Prop}{x y:Opd}{sz id off n:Nat}{c c':Option Nat}{xs cs:List AV}
  (hx:val E x= .sl id off n sz c) (hy:val E y= .vec xs n c') (hg:getB H id=some cs) (hl:xs.length=n*sz) (hb:off+n*sz<=cs.length) (hs:AV.scalL xs=true)
  (hk:regA P Γ n0 os (updO E d (.int .i64 n)) (H.set id (some (setL cs off xs))) λl=>Q (([id],[id])::l)):regA P Γ n0 (⟨d,none,.copy sz x y⟩::os) E H Q:=by
 rw[qrh rfl rfl];have e:xs.take (n*sz)=xs:=qP (by omega);simp only[evK,hx,hy,hg,lenA,zea,need,Option.bind_some,Nat.min_self,hl,qD,and_self,if_true,e,hb,hs,zar,zac,keys,List.map_cons,List.map_nil];exact hk
theorem qwe{xs cs:List AV}(h:xs.length=cs.length):setL cs 0 xs=xs:=by
 refine xN λt=>?_
 rw[qcq xs cs 0 t (by omega)];by_cases ht:t<xs.length
 ·rw[if_pos ⟨by omega,by omega⟩,Nat.sub_zero]
 ·rw[if_neg (by omega),xX (by omega),xX (by omega)]
theorem BR.copy{N n i:Nat}{M:List (List Int)}{x:List AV}{H:Heap}(h:BR N n i 0 M x H){cs:List AV}(hr:RowC (M.getD i []) cs):BP N n (i+1) M x (H.set (i+2) (some cs)):=by
 have hl:=h.len;refine⟨by rw[yQ];exact hl,by rw[zai (by omega)];exact h.h0,by rw[zai (by omega)];exact h.h1,λk hk=>?_⟩;by_cases e:k=i
 ·subst e;exact⟨cs,zaw (by omega),hr⟩
 ·obtain⟨cs',g,r⟩:=h.rows k (by omega);exact⟨cs',by rw[zai (by omega)];exact g,r⟩
def EntI(a:Nat->Row)(n k i j:Nat)(M:List (List Int)):Prop:= ∀r c,k<=r->r<n->k<=c->c<n->ent M r c=if k<r/\k<c/\(r<i\/r=i/\c<j)then stg a (k+1) r c else stg a k r c
section
variable{a:Nat->Row}{n k i j:Nat}{M:List (List Int)}
theorem EntI.set(h:EntI a n k i j M)(hS:Shp n M)(hi:i<n)(hj:j<n)(hki:k<i)(hkj:k<j):EntI a n k i (j+1) (setM M i j (stg a (k+1) i j)):=by
 intro r c h1 h2 h3 h4;rw[hS.ent_set hi hj];by_cases e:r=i/\c=j
 ·obtain⟨rfl,rfl⟩:=e;rw[if_pos ⟨rfl,rfl⟩,if_pos ⟨hki,hkj,.inr ⟨rfl,by omega⟩⟩]
 ·rw[if_neg e,h r c h1 h2 h3 h4];by_cases q:k<r/\k<c/\(r<i\/r=i/\c<j)
  ·rw[if_pos q,if_pos (by omega)]
  ·rw[if_neg q,if_neg (by omega)]
theorem EntI.next(h:EntI a n k i n M):EntI a n k (i+1) (k+1) M:=by
 intro r c h1 h2 h3 h4;rw[h r c h1 h2 h3 h4];by_cases q:k<r/\k<c/\(r<i\/r=i/\c<n)
 ·rw[if_pos q,if_pos (by omega)]
 ·rw[if_neg q,if_neg (by omega)]
theorem EntI.done(h:EntI a n k n j M):EntI a n (k+1) (k+2) (k+2) M:=by
 intro r c h1 h2 h3 h4;rw[h r c (by omega) h2 (by omega) h4,if_pos (by omega),if_neg (by omega)]
theorem qhr(M:List (List Int))(n:Nat):EntI (rowF M) n 0 1 1 M:=by
 intro r c h1 h2 h3 h4;rw[if_neg (by omega),zda];rfl
theorem EntI.piv(h:EntI a n k i j M)(hk:k<n):ent M k k=lead a (k+1):=by
 rw[h k k (qD _) hk (qD _) hk,if_neg (by omega),zbh]
theorem EntI.cell(h:EntI a n k i j M)(hi:i<n)(hj:j<n)(hki:k<i)(hkj:k<j):ent M i j=stg a k i j/\ent M i k=stg a k i k/\ent M k j=stg a k k j:=by
 refine⟨?_,?_,?_⟩
 ·rw[h i j (by omega) hi (by omega) hj,if_neg (by omega)]
 ·rw[h i k (by omega) hi (qD _) (by omega),if_neg (by omega)]
 ·rw[h k j (qD _) (by omega) (by omega) hj,if_neg (by omega)]
end
structure PS(n:Nat)(M:List (List Int))(last:Int)(k:Nat)(E:Env)(H:Heap)(ps:List (Nat×Option Nat))(b:Nat):Prop where
 mat:MatH H 1 ps n M
 shp:Shp n M
 e2:E 2= .ptr 0 0
 e3:E 3= .int .i64 (n:Nat)
 e4:E 4= .sl 1 0 n 1 (some n)
 e7:E 7= .bool false
 e8:E 8= .ptr b 0
 e39:E 39= .int .i64 (n:Nat)
 e40:E 40= .int .i64 (k:Nat)
 last:∃u v,getB H b=some [u,v]/\zap last (.agg [u,v])
 res:∃u v,getB H 0=some [u,v]
 nodup:(0::b::1::ps.map (·.1)).Nodup
theorem PS.app{n k b:Nat}{M:List (List Int)}{last:Int}{E:Env}{H X:Heap}{ps:List (Nat×Option Nat)}(h:PS n M last k E H ps b):PS n M last k E (H++X) ps b:=by
 obtain⟨u,v,g,hl⟩:=h.last;obtain⟨u',v',g'⟩:=h.res;exact⟨qar h.mat,h.shp,h.e2,h.e3,h.e4,h.e7,h.e8,h.e39,h.e40,⟨u,v,by rw[zbm (zam g)];exact g,hl⟩,⟨u',v',by rw[zbm (zam g')];exact g'⟩,h.nodup⟩
def jdy(q b:Nat)(ps:List (Nat×Option Nat)):Prop:=q≠0/\q≠b/\q≠1/\q∉ps.map (·.1)
theorem PS.apart{n k b:Nat}{M:List (List Int)}{last:Int}{E:Env}{H:Heap}{ps:List (Nat×Option Nat)}(h:PS n M last k E H ps b):jdy H.length b ps:=by
 obtain⟨u,v,g,hl⟩:=h.last;obtain⟨u',v',g'⟩:=h.res;have h1:=zam g;have h2:=zam g';have h3:=zam h.mat.outer;refine⟨by omega,by omega,by omega,λhm=>?_⟩;obtain⟨p,hp,e⟩:=List.mem_map.1 hm;obtain⟨i,hi,e2⟩:=List.mem_iff_getElem.1 hp;obtain⟨cs,g3,_⟩:=h.mat.rows i (by rw[<-h.mat.len];exact hi);have:=zam g3;rw[qJ,qC hi,e2]at this;have e:p.1=H.length:=e;have this:p.1<H.length:=this;omega
section
variable{a:Nat->Row}{n k b q:Nat}{ps:List (Nat×Option Nat)}{pu pv:AV}
theorem jjq(hR:Red n a)(hk:k<n){i:Nat}(hi:k<i/\i<n)(hq:jdy q b ps)(hp:zap (lead a (k+1)) (.agg [pu,pv])){Q:Post}:∀{E:Env} {H:Heap} {M:List (List Int)},
  PS n M (lead a k) k E H ps b->EntI a n k i (k+1) M->E 9= .int .i64 (k:Nat)->E 11= .ptr q 0->E 12= .int .i64 (i:Nat)->E 13= .int .i64 ((k+1:Nat):Int)->getB H q=some [pu,pv]->
  (∀E' H' M',PS n M' (lead a k) k E' H' ps b->EntI a n k i n M'->E' 9= .int .i64 (k:Nat)->E' 11= .ptr q 0->E' 12= .int .i64 (i:Nat)->getB H' q=some [pu,pv]->Q (.exit 8) E' H')->
  Wg 0 149 (.loop l182_4) E H Q:=by
 intro E H M hD hE h9 h11 h12 h13 hgq hQ;have h8:=hR.n8
 refine zaj (λm E H=>∃j M,j+m=n/\k<j/\PS n M (lead a k) k E H ps b/\EntI a n k i j M/\E 9= .int .i64 (k:Nat)/\E 11= .ptr q 0/\E 12= .int .i64 (i:Nat)/\E 13= .int .i64 (j:Nat)/\getB H q=some [pu,pv]) (n:=n-(k+1))
  ⟨k+1,M,by omega,by omega,hD,hE,h9,h11,h12,h13,hgq⟩ ?_
 clear hD hE h9 h11 h12 h13 hgq M E H;rintro m E H ⟨j,M,hjm,hkj,hD,hE,h9,h11,h12,h13,hgq⟩;refine wM ?_;obtain⟨hM,hS,e2,e3,e4,e7,e8,e39,e40,⟨lu,lv,hlast,hl⟩,⟨ru,rv,hres⟩,hnd⟩:=id hD;simp only[l182_4,r182_26,SS,reduceIte,qQ,e3,h13];refine⟨λhlt=>?_,λhge=>?_⟩
 ·obtain⟨m,rfl⟩:∃m',m=m'+1:=⟨m-1,by omega⟩
  have hj:j<n:=by omega
  have hsl:=hS.len;obtain⟨b1,b2,b3,b4,b5⟩:=hR.new_b hi.2 hj hi.1 hkj;obtain⟨c1,c2,c3⟩:=hE.cell hi.2 hj hi.1 hkj;obtain⟨q1,q2⟩:=hR.piv_b (k:=k) (by omega);obtain⟨csi,gi,li,ri,fi⟩:=zei hM (i:=i) (by omega);obtain⟨csk,gk,lk,rk,fk⟩:=zei hM (i:=k) (by omega);obtain⟨u2,v2,x2,y2⟩:=fi j hj;obtain⟨u3,v3,x3,y3⟩:=fi k hk;obtain⟨u4,v4,x4,y4⟩:=fk j hj;rw[c1]at y2;rw[c2]at y3;rw[c3]at y4;obtain⟨p,ip,t1⟩:=iMul hp y2 (zlb b1);obtain⟨s,is,t2⟩:=iMul y3 y4 (zlb b2);obtain⟨d,id',t3⟩:=iSub ip is (zlb b3);obtain⟨w,w',iw,iw',t4⟩:=zvj id' hl (by omega) (.inr b4);rw[b5]at iw;have oi:=zce (ps:=ps) (n:=n) (i:=i) (by rw[hM.len];omega);have ok:=zce (ps:=ps) (n:=n) (i:=k) (by rw[hM.len];omega);have hol:(ps.map (zcv n)).length=n:=by rw[qS,hM.len];exact hsl
  have hou:=hM.outer;have hpc:=ip.closed;have hsc:=is.closed;have hdc:=id'.closed;have w5:=wS1 j (by omega);obtain⟨ld,cd,rfl⟩:=id'.shape;obtain⟨lw,cw,rfl⟩:=iw.shape;obtain⟨lw',cw',rfl⟩:=iw'.shape;have k1:qX [.agg [pu,pv],.agg [u2,v2]]=true:=by simp only[qX,hp.closed,y2.closed,qU]
  have k2:qX [.agg [u3,v3],.agg [u4,v4]]=true:=by simp only[qX,y3.closed,y4.closed,qU]
  have k3:qX [p,s]=true:=by simp only[qX,hpc,hsc,qU]
  have k4:qX [.agg [.bool (decide (lead a (k+1)*stg a k i j-stg a k i k*stg a k k j<0)),.vec (u32s ld) ld.length cd],.agg [lu,lv]]=true:=by simp only[qX,hdc,hl.closed,qU]
  simp only[r182_27,SS,fC,reduceIte,qY,qQ,qW,e4,h11,h12,h13,qV,hou,hol,oi,gi,hgq,li,x2];refine⟨⟨by omega,by omega⟩,by omega,⟨by omega,by omega⟩,by omega,?_⟩;refine zaa t1 ?_ k1 hpc;simp only[SS,fC,reduceIte,qQ,e4,h9,h12,h13,qV,hou,hol,oi,ok,gi,gk,li,lk,x3,x4];refine⟨⟨by omega,by omega⟩,by omega,⟨by omega,by omega⟩,by omega,⟨by omega,by omega⟩,by omega,⟨by omega,by omega⟩,by omega,?_⟩;refine zaa t2 ?_ k2 hsc;simp only[SS,reduceIte,qQ];refine zaa t3 ?_ k3 hdc;simp only[SS,reduceIte,qY,qQ,qW,zba,zju];have hD2:=hD.app (X:=[some [AV.bool (decide (lead a (k+1)*stg a k i j-stg a k i k*stg a k k j<0)),AV.vec (u32s ld) ld.length cd]]);have g14:getB (H++[some [AV.bool (decide (lead a (k+1)*stg a k i j-stg a k i k*stg a k k j<0)),AV.vec (u32s ld) ld.length cd]]) H.length=some [AV.bool (decide (lead a (k+1)*stg a k i j-stg a k i k*stg a k k j<0)),AV.vec (u32s ld) ld.length cd]:=zba;have hap:=hD.apart;have hLq:q≠H.length:=by have:=zam hgq;omega
  have hL1:1≠H.length:=λe=>hap.2.2.1 e.symm
  have hLi:pid ps i≠H.length:=λe=>hap.2.2.2 (e ▸ zgd (by rw[hM.len];omega))
  have hLk:pid ps k≠H.length:=λe=>hap.2.2.2 (e ▸ zgd (by rw[hM.len];omega))
  have gq2:=hgq;rw[<-zbm (X:=[some [AV.bool (decide (lead a (k+1)*stg a k i j-stg a k i k*stg a k k j<0)),AV.vec (u32s ld) ld.length cd]]) (zam hgq)]at gq2;have gi2:=gi;rw[<-zbm (X:=[some [AV.bool (decide (lead a (k+1)*stg a k i j-stg a k i k*stg a k k j<0)),AV.vec (u32s ld) ld.length cd]]) (zam gi)]at gi2;have gb2:=hlast;rw[<-zbm (X:=[some [AV.bool (decide (lead a (k+1)*stg a k i j-stg a k i k*stg a k k j<0)),AV.vec (u32s ld) ld.length cd]]) (zam hlast)]at gb2;generalize H++[some [AV.bool (decide (lead a (k+1)*stg a k i j-stg a k i k*stg a k k j<0)),AV.vec (u32s ld) ld.length cd]]=H2 at*;obtain⟨hM2,_,_,_,_,_,_,_,_,⟨_,_,_,_⟩,⟨ru2,rv2,hres2⟩,_⟩:=id hD2;have hou2:=hM2.outer;simp only[r182_28,SS,fC,reduceIte,qY,qQ,qW,e4,e8,h12,h13,qV,hou2,hol,oi,gb2,g14];refine⟨by simp[dynB,zxd,hLq.symm,hL1.symm,hLi.symm,hLk.symm],⟨by omega,by omega⟩,by omega,?_⟩;refine zaa t4 ?_ k4;simp only[SS,reduceIte,qY,qQ,qA,qB,qV,gi2,li];refine⟨⟨by omega,by omega⟩,by omega,rfl,?_⟩;have hs2:((csi.set (j*2) (AV.bool (decide (stg a (k+1) i j<0)))).set (j*2+1) (AV.vec (u32s lw) lw.length cw))=setL csi (j*2) [AV.bool (decide (stg a (k+1) i j<0)),AV.vec (u32s lw) lw.length cw]:=rfl;rw[hs2];simp only[r182_29,SS,reduceIte,qQ,h13,w5];have hnd2:=hnd;simp only[xJ,xH,not_or]at hnd2;have hpi:pid ps i∈ps.map (·.1):=zgd (by rw[hM.len];omega);have hpi0:pid ps i≠0:=λe=>hnd2.1.2.2 (e ▸ hpi)
  have hpib:pid ps i≠b:=λe=>hnd2.2.1.2 (e ▸ hpi)
  have hpiq:pid ps i≠q:=λe=>hq.2.2.2 (e ▸ hpi)
  refine⟨m,_,_,by omega,⟨j+1,setM M i j (stg a (k+1) i j),by omega,by omega,⟨ziy hM2 (by omega) hj iw gi2,hS.set hi.2,?_,?_,?_,?_,?_,?_,?_,⟨lu,lv,?_,hl⟩,⟨ru2,rv2,?_⟩,hnd⟩,hE.set hS hi.2 hj hi.1 hkj,?_,?_,?_,?_,?_⟩,.refl⟩
  ·exact e2
  ·exact e3
  ·exact e4
  ·exact e7
  ·exact e8
  ·exact e39
  ·exact e40
  ·rw[zai hpib];exact gb2
  ·rw[zai hpi0];exact hres2
  ·simp only[UU,qQ,h9]
  ·simp only[UU,qQ,h11]
  ·simp only[UU,qQ,h12]
  ·rfl
  ·rw[zai hpiq];exact gq2
 ·obtain rfl:j=n:=by omega
  refine hQ _ _ M ⟨hM,hS,?_,?_,?_,?_,?_,?_,?_,⟨lu,lv,hlast,hl⟩,⟨ru,rv,hres⟩,hnd⟩ hE ?_ ?_ ?_ hgq<;>simp only[UU,qQ, *]
end
theorem PS.frame{n k b:Nat}{M:List (List Int)}{last:Int}{E E':Env}{H:Heap}{ps:List (Nat×Option Nat)}(h:PS n M last k E H ps b)(hE:E' 2=E 2/\E' 3=E 3/\E' 4=E 4/\E' 7=E 7/\E' 8=E 8/\E' 39=E 39/\E' 40=E 40):PS n M last k E' H ps b:=
 ⟨h.mat,h.shp,hE.1.trans h.e2,hE.2.1.trans h.e3,hE.2.2.1.trans h.e4,hE.2.2.2.1.trans h.e7,hE.2.2.2.2.1.trans h.e8,hE.2.2.2.2.2.1.trans h.e39,hE.2.2.2.2.2.2.trans h.e40,h.last,h.res,h.nodup⟩
section
variable{a:Nat->Row}{n k b q:Nat}{ps:List (Nat×Option Nat)}{pu pv:AV}
theorem jjr(hR:Red n a)(hk:k<n)(hq:jdy q b ps)(hp:zap (lead a (k+1)) (.agg [pu,pv])){Q:Post}:∀{E:Env} {H:Heap} {M:List (List Int)},
  PS n M (lead a k) k E H ps b->EntI a n k (k+1) (k+1) M->E 9= .int .i64 (k:Nat)->E 11= .ptr q 0->E 12= .int .i64 ((k+1:Nat):Int)->getB H q=some [pu,pv]->
  (∀E' H' M',PS n M' (lead a k) k E' H' ps b->EntI a n k n (k+1) M'->E' 11= .ptr q 0->getB H' q=some [pu,pv]->Q (.exit 6) E' H')->
  Wg 0 149 (.loop l182_3) E H Q:=by
 intro E H M hD hE h9 h11 h12 hgq hQ;have h8:=hR.n8
 refine zaj (λm E H=>∃i M,i+m=n/\k<i/\PS n M (lead a k) k E H ps b/\EntI a n k i (k+1) M/\E 9= .int .i64 (k:Nat)/\E 11= .ptr q 0/\E 12= .int .i64 (i:Nat)/\getB H q=some [pu,pv]) (n:=n-(k+1))
  ⟨k+1,M,by omega,by omega,hD,hE,h9,h11,h12,hgq⟩ ?_
 clear hD hE h9 h11 h12 hgq M E H;rintro m E H ⟨i,M,him,hki,hD,hE,h9,h11,h12,hgq⟩;refine wM ?_;have e3:=hD.e3;simp only[l182_3,r182_24,SS,reduceIte,qQ,e3,h12];refine⟨λhlt=>?_,λhge=>?_⟩
 ·obtain⟨m,rfl⟩:∃m',m=m'+1:=⟨m-1,by omega⟩
  have w5:=wS1 i (by omega);have w6:=wS1 k (by omega);simp only[r182_25,SS,reduceIte,qQ,h9,w6];refine jjq hR hk ⟨hki,by omega⟩ hq hp (hD.frame (by simp only[UU,qQ,and_self])) hE ?_ ?_ ?_ ?_ hgq (λE1 H1 M1 hD1 hE1 f9 f11 f12 hg1=>?rest)
  case rest=>
   simp only[r182_30,SS,reduceIte,qQ,f12,w5];refine⟨m,_,_,by omega,⟨i+1,M1,by omega,by omega,hD1.frame (by simp only[UU,qQ,and_self]),hE1.next,?_,?_,?_,hg1⟩,.refl⟩<;>simp only[UU,qQ,reduceIte, *]
  all_goals simp only[UU,qQ,reduceIte, *]
 ·obtain rfl:i=n:=by omega
  refine hQ _ _ M (hD.frame (by simp only[UU,qQ,and_self])) hE ?_ hgq;simp only[UU,qQ,h11]
theorem jjs(hR:Red n a)(hk:k<n){Q:Post}{E:Env}{H:Heap}{M:List (List Int)}{last:Int}(hD:PS n M last k E H ps b)(hE:EntI a n k (k+1) (k+1) M)(h9:E 9= .int .i64 (k:Nat))(h10:E 10= .int .i64 (k:Nat))
  (hQ:∀E',PS n M last k E' H ps b->E' 9= .int .i64 (k:Nat)->E' 10= .int .i64 (k:Nat)->Q (.exit 4) E' H):Wg 0 149 (.loop l182_2) E H Q:=by
 refine zaj (λm E H'=>H'=H/\PS n M last k E H ps b/\E 9= .int .i64 (k:Nat)/\E 10= .int .i64 (k:Nat)) (n:=0) ⟨rfl,hD,h9,h10⟩ ?_;clear hD h9 h10 E;rintro m E H' ⟨rfl,hD,h9,h10⟩;refine wM ?_;obtain⟨hM,hS,e2,e3,e4,e7,e8,e39,e40,hlast,hres,hnd⟩:=id hD;have hsl:=hS.len;have d1:decide ((k:Int)<(n:Nat))=true:=dT;obtain⟨csp,gp,lp,rp,fp⟩:=zei hM (i:=k) (by omega);obtain⟨u,v,x,y⟩:=fp k hk;rw[hE.piv hk]at y;have op:=zce (ps:=ps) (n:=n) (i:=k) (by rw[hM.len];omega);have hol:(ps.map (zcv n)).length=n:=by rw[qS,hM.len];exact hsl
 have hou:=hM.outer;have t:=zpx y;have hps:=hR.pos k hk;rw[xA hps]at t;have c1:qX [.agg [u,v]]=true:=by simp only[qX,y.closed,qU]
 simp only[l182_2,r182_15,SS,fC,reduceIte,qQ,e3,e4,h9,h10,d1,qV,hou,hol,op,gp,lp,x];refine⟨⟨by omega,by omega⟩,by omega,⟨by omega,by omega⟩,by omega,?_⟩;refine zaa t ?_ c1;simp only[SS,fC,reduceIte,qQ,show decide ((1:Int)=0)=false from rfl];refine hQ _ (hD.frame (by simp only[UU,qQ,and_self])) ?_ ?_<;>simp only[UU,qQ, *]
end
theorem qpv{n b:Nat}(hb:n+2<=b):(0::b::1::(ps2 n n).map (·.1)).Nodup:=by
 have e:(ps2 n n).map (·.1)=(List.range n).map (· + 2):=by simp[ps2]
 have hm:∀x,x∈(List.range n).map (· + 2)->2<=x/\x<n+2:=λx hx=>by
  obtain⟨k,hk,rfl⟩:=List.mem_map.1 hx;have:=List.mem_range.1 hk;omega
 rw[e];simp only[xJ,xH,not_or];refine⟨⟨by omega,by omega,λh=>?_⟩,⟨by omega,λh=>?_⟩,λh=>?_,?_⟩
 ·have:=hm _ h;omega
 ·have:=hm _ h;omega
 ·have:=hm _ h;omega
 ·refine List.pairwise_iff_getElem.2 (λi j hi hj hij=>?_);rw[qL,qL,qH,qH];omega
theorem jjt{n:Nat}{M:List (List Int)}{x:List AV}(hn:n<=16)(hS:Shp n M)(hrow:∀i,i<n->(M.map rowV).getD i .junk= .vec (zgo (M.getD i [])) n none/\RowC (M.getD i []) (zgo (M.getD i []))){Q:Post}{E:Env}{H:Heap}
  (hB:BP n n 0 M x H) (e2:E 2= .ptr 0 0) (e3:E 3= .int .i64 (n:Nat)) (e4:E 4= .sl 1 0 n 1 (some n)) (e19:E 19= .vec (M.map rowV) n none) (e20:E 20= .int .i64 (n:Nat)) (e21:E 21= .int .i64 0)
  (hQ:∀E' H',BP n n n M x H'->E' 2= .ptr 0 0->E' 3= .int .i64 (n:Nat)->E' 4= .sl 1 0 n 1 (some n)->Q (.exit 0) E' H'):Wg 0 149 (.loop l182_0) E H Q:=by
 have hsl:=hS.len
 refine zaj (λk E H=>∃i,i+k=n/\BP n n i M x H/\E 2= .ptr 0 0/\E 3= .int .i64 (n:Nat)/\E 4= .sl 1 0 n 1 (some n)/\E 19= .vec (M.map rowV) n none/\E 20= .int .i64 (n:Nat)/\E 21= .int .i64 (i:Nat)) (n:=n)
  ⟨0,by omega,hB,e2,e3,e4,e19,e20,e21⟩ ?_
 clear hB e2 e3 e4 e19 e20 e21 E H;rintro k E H ⟨i,hik,hB,e2,e3,e4,e19,e20,e21⟩;refine wM ?_;simp only[l182_0,r182_4,SS,reduceIte,e20,e21];refine⟨λhlt=>?_,λhge=>?_⟩
 ·obtain⟨k,rfl⟩:∃k',k=k'+1:=⟨k-1,by omega⟩
  have hi:i<n:=by omega
  obtain⟨hrv,hrc⟩:=hrow i hi;have hol:=zon (n:=n) (show i<=n by omega);have hol2:=zon (n:=n) (show i+1<=n by omega);have hog:=qfb (N:=n) (n:=n) (show i<i+1 by omega);have hl:=hB.len;have hR:=hB.row hi;have g1:getB (H++[some (zeo n [AV.bool false,AV.vec [] 0 (some 0)])]) 1=some (out2 n n i):=by rw[zbm (by omega)];exact hB.h1
  have w5:=wS1 i (by omega);have hml:(M.map rowV).length=n:=by rw[qS,hsl]
  simp only[r182_5,SS,fC,reduceIte,qQ,e19,e21,qV,hrv,hml];refine⟨⟨by omega,by omega⟩,by omega,?_⟩;simp only[r182_6,SS,reduceIte,qY,qQ,e3,e4,qV,g1,hol];refine⟨by omega,⟨by omega,by omega,by omega,by omega⟩,⟨by omega,by omega⟩,by omega,?_⟩;have q1:=hR.h1;obtain⟨cs,gc,rc⟩:=hR.row;have hcp:=hR.copy hrc;have hcl:=zcz rc;rw[zmn]at hcl;have hcl2:=zcz hrc;rw[hS.row i hi]at hcl2;have hse:=qwe (xs:=zgo (M.getD i [])) (cs:=cs) (by omega);change getB ((H++[some (zeo n [AV.bool false,AV.vec [] 0 (some 0)])]).set 1 (some ((out2 n n i).set i (.sl H.length 0 n 2 (some n))))) 1=_ at q1;change BP n n (i+1) M x (((H++[some (zeo n [AV.bool false,AV.vec [] 0 (some 0)])]).set 1 (some ((out2 n n i).set i (.sl H.length 0 n 2 (some n))))).set (i+2) _)at hcp;change getB ((H++[some (zeo n [AV.bool false,AV.vec [] 0 (some 0)])]).set 1 (some ((out2 n n i).set i (.sl H.length 0 n 2 (some n))))) (i+2)=_ at gc;generalize (H++[some (zeo n [AV.bool false,AV.vec [] 0 (some 0)])]).set 1 (some ((out2 n n i).set i (.sl H.length 0 n 2 (some n))))=H1 at*;simp only[r182_7,SS,fC,reduceIte,qQ,e4,qV,q1,hol2,hog];refine⟨⟨by omega,by omega⟩,by omega,?_⟩;refine jjp (id:=i+2) (off:=0) (n:=n) (c:=some n) (c':=none) (xs:=zgo (M.getD i [])) (cs:=cs) ?_ ?_ gc hcl2 (by omega) (zix hrc) ?_
  ·simp only[SS,reduceIte,qQ]
  ·simp only[SS,reduceIte,qQ]
  rw[hse];simp only[r182_8,SS,reduceIte,qQ,e21,w5];refine⟨k,_,_,by omega,⟨i+1,by omega,hcp,?_,?_,?_,?_,?_,?_⟩,.refl⟩<;>simp only[UU,qQ,reduceIte, *]
 ·obtain rfl:i=n:=by omega
  refine hQ _ _ hB ?_ ?_ ?_<;>simp only[UU,qQ, *]
theorem jju{n b:Nat}{a:Nat->Row}{ps:List (Nat×Option Nat)}(hR:Red n a){Q:Post}{E:Env}{H:Heap}{M:List (List Int)}
  (hD:PS n M (lead a 0) 0 E H ps b) (hE:EntI a n 0 1 1 M) (hQ:∀E' H' M',PS n M' (lead a n) n E' H' ps b->Q (.exit 2) E' H'):Wg 0 149 (.loop l182_1) E H Q:=by
 have h8:=hR.n8;refine zaj (λm E H=>∃k M,k+m=n/\PS n M (lead a k) k E H ps b/\EntI a n k (k+1) (k+1) M) (n:=n) ⟨0,M,by omega,hD,hE⟩ ?_;clear hD hE E H M;rintro m E H ⟨k,M,hkm,hD,hE⟩;refine wM ?_;obtain⟨e39,e40⟩:=And.intro hD.e39 hD.e40;simp only[l182_1,r182_12,SS,reduceIte,e39,e40];refine⟨λhlt=>?_,λhge=>?_⟩
 ·obtain⟨m,rfl⟩:∃m',m=m'+1:=⟨m-1,by omega⟩
  have hk:k<n:=by omega
  have w5:=wS1 k (by omega);simp only[r182_13,r182_14,SS,reduceIte,qQ,e40];refine jjs hR hk (hD.frame (by simp only[UU,qQ,and_self])) hE ?_ ?_ (λE1 hD1 f9 f10=>?rest)
  case rest=>
   have hD10:=hD1;obtain⟨hM,hS,e2,e3,e4,e7,e8,e39,e40,⟨lu,lv,hlast,hl⟩,⟨ru,rv,hres⟩,hnd⟩:=hD1;have hsl:=hS.len;have d1:decide ((k:Int)=(n:Nat))=false:=dF;obtain⟨csp,gp,lp,rp,fp⟩:=zei hM (i:=k) (by omega);obtain⟨u,v,x,y⟩:=fp k hk;rw[hE.piv hk]at y;obtain⟨ly,cy,hy1,hy2⟩:=zau y;subst hy1 hy2;have op:=zce (ps:=ps) (n:=n) (i:=k) (by rw[hM.len];omega);have hol:(ps.map (zcv n)).length=n:=by rw[qS,hM.len];exact hsl
   have hou:=hM.outer;simp only[r182_17,SS,fC,reduceIte,qQ,e3,f10,d1];simp only[r182_19,SS,fC,reduceIte,qQ,f9,f10,ne_eq,not_true_eq_false,decide_false];simp only[r182_22,SS,fC,reduceIte,qY,qQ,e4,f9,qV,hou,hol,op,gp,lp,x];refine⟨⟨by omega,by omega⟩,by omega,⟨by omega,by omega⟩,by omega,?_⟩;simp only[SS,qY,qW,zba,zju];simp only[r182_23,SS,reduceIte,qQ,f9,w5];have hap:=hD10.apart;refine jjr hR hk (q:=H.length) hap y (hD10.app.frame ?fr) hE ?_ ?_ ?_ zba (λE3 H3 M3 hD3 hE3 g11 gq=>?rest2)
   case fr=>simp only[UU,qQ,and_self]
   case rest2=>
    obtain⟨hM3,hS3,g2,g3,g4,g7,g8,g39,g40,⟨lu3,lv3,hlast3,hl3⟩,⟨ru3,rv3,hres3⟩,hnd3⟩:=hD3;have hnd5:=hnd3;simp only[xJ,xH,not_or]at hnd5;simp only[r182_31,SS,reduceIte,qY,qQ,qW,g8,g11,gq,hlast3];simp only[r182_32,SS,reduceIte,qQ,g40,w5];refine⟨m,_,_,by omega,⟨k+1,M3,by omega,⟨zqe hM3 hnd5.2.1.1 hnd5.2.1.2,hS3,?_,?_,?_,?_,?_,?_,?_,⟨_,_,zaw (zam hlast3),y⟩,⟨ru3,rv3,?_⟩,hnd3⟩,hE3.done⟩,.refl⟩
    case refine_8=>rw[zai (λe=>hnd5.1.1 e.symm)];exact hres3
    all_goals simp only[UU,qQ,reduceIte, *]
   all_goals simp only[UU,qQ,reduceIte, *]
  all_goals simp only[UU,qQ,reduceIte, *]
 ·obtain rfl:k=n:=by omega
  exact hQ _ _ M (hD.frame (by simp only[UU,qQ,and_self]))
theorem zwm{n:Nat}{M:List (List Int)}(hS:Shp n M)(hR:Red n (rowF M))(hF:qgw M):Rt 182 [matC M] [] (intV (lead (rowF M) n)) []:=by
 have h8:=hR.n8;have h1:=hR.n1;have hsl:=hS.len;obtain⟨v1,hv1,ts⟩:=zvs;obtain⟨l1,c1,rfl⟩:=hv1.shape
 have hrow:∀i,i<n->(M.map rowV).getD i .junk= .vec (zgo (M.getD i [])) n none/\RowC (M.getD i []) (zgo (M.getD i [])):=λi hi=>by
  have hi':i<M.length:=by omega
  have e:M.getD i []=M[i]:=by rw[qJ,qC hi'];rfl
  refine⟨?_,ziz (by rw[e];exact hF _ (List.getElem_mem hi'))⟩;rw[qJ,xY,qC hi',e]
  show AV.vec (zgo M[i]) M[i].length none=_
  rw[<-e,hS.row i hi]
 refine oFw o182 ?_;simp only[c182,r182_0,r182_1,r182_2,r182_3,SS,reduceCtorEq,reduceIte,qQ,matC,hsl,qV];refine⟨by omega,⟨by omega,by omega,by omega,by omega⟩,?_⟩;refine jjt (x:=[.bool false,.vec [] 0 (some 0)]) (by omega) hS hrow ?hb ?_ ?_ ?_ ?_ ?_ ?_ (λE1 H1 hB e2 e3 e4=>?rest)
 case hb=>exact⟨rfl,rfl,by simp[out2,ps2,getB],λk hk=>absurd hk (by omega)⟩
 case rest=>
  have hMH:=hB.mat hsl (λi hi=>hS.row i hi);have hl:=hB.len;have g0:=hB.h0;simp only[r182_9,SS,reduceCtorEq,reduceIte];simp only[r182_10,SS];refine zaa ts ?_;simp only[SS,reduceIte,qY,qQ,qW,zba,zju];simp only[r182_11,SS,reduceIte,qQ,e3];refine jju (b:=H1.length) (ps:=ps2 n n) (M:=M) hR ⟨qar hMH,hS,?_,?_,?_,?_,?_,?_,?_,⟨_,_,zba,hv1⟩,⟨_,_,(zbm (zam g0)).trans g0⟩,qpv (by omega)⟩ (qhr M n) (λE2 H2 M2 hD2=>?rest2)
  case rest2=>
   obtain⟨hM3,hS3,g2,g3,g4,g7,g8,g39,g40,⟨lu3,lv3,hlast3,hl3⟩,⟨ru3,rv3,hres3⟩,hnd3⟩:=hD2;have c4:qX [.agg [lu3,lv3]]=true:=by simp only[qX,hl3.closed,qU]
   obtain⟨w,hw,tn⟩:=zna hl3;have hw0:=hw;obtain⟨lw,cw,rfl⟩:=hw0.shape;simp only[r182_33,SS,fC,reduceCtorEq,reduceIte,g7];simp only[r182_35,SS,reduceIte,qY,qQ,qW,g8,hlast3];refine zaa tn ?_ c4;simp only[SS,reduceIte,qY,qQ,qW,g2,hres3];refine⟨.inl trivial,_,_,zfh (id:=0) (by simp only[UU,qQ,g2]) (zaw (zam hres3)),.drop _ _ rfl (by intro i cs h;omega),hw.wk⟩
  all_goals simp only[UU,qQ,reduceIte, *]
  rfl
 all_goals simp only[UU,qQ,reduceIte, *]
theorem jjv{n:Nat}{M:List (List Int)}(hS:Shp n M)(hR:Red n (rowF M))(hF:qgw M):Rt 97 [matC M] [] (.tup [intV (lead (rowF M) n),.bool true]) []:=by
 have h8:=hR.n8;have h1:=hR.n1;have hsl:=hS.len;have t2:=zwm hS hR hF
 have t1:=qwd (rows:=M.map rowV) (c:=none) (N:=n) (n:=n) (by rw[qS,hsl]) ⟨h1,by omega⟩ ⟨h1,by omega⟩ (λi hi=>by
  have hi':i<M.length:=by omega
  refine⟨zgo M[i],none,?_⟩;rw[qJ,xY,qC hi']
  show AV.vec (zgo M[i]) M[i].length none=_
  have:=hS.row i hi;rw[qJ,qC hi']at this;have this:M[i].length=n:=this;rw[this])
 have c0:qX [.vec (M.map rowV) n none]=true:=rfl;have hld:ldSz Tryz.prog 32=some (true,2):=by kernel_rfl
 unfold matC at t2 ⊢;rw[hsl]at t2 ⊢;refine oF o97 ?_;simp only[c97,r97_0,r97_1,SS,reduceCtorEq,reduceIte];refine zaa t1 ?_ c0;simp only[SS,reduceIte,qQ,qA,qB];simp only[r97_2,↓zcq,SS,fC,reduceIte,qQ,ne_eq,not_true_eq_false,decide_false];simp only[r97_4,SS,reduceCtorEq,reduceIte,qQ];refine zaa t2 ?_ c0;simp only[SS,reduceIte,qY,qQ,qW,intV];refine⟨.inl trivial,.tup [.agg [.bool _,.vec _ _ _],.bool true],?_,.drop _ _ rfl (by intro i cs h;omega)⟩;simp only[resA,xG,List.mapM_nil,zeh,hld,UU,qQ,reduceIte,qan,need];rfl
theorem jhw{z:Int}{a:AV}(ha:zap z a)(hz:In64 z):Rt 98 [a] [] (.tup [.int .i64 z,.bool true]) []:=by
 obtain⟨z1,z2⟩:=hz;obtain⟨l,ca,hc,hl,hv,rfl⟩:=ha;have t1:=zpv l ca (by omega);have k1:=zbc hc.1;have kv:=(zbp l).trans hv;generalize zbi l=m at*;have hm2:=zhr k1 (by omega);have t2:=qao ca k1.1 (by omega);rw[kv]at t2;have d1:decide ((2:Int)<(m.length:Nat))=false:=dF;refine oF o98 ?_;simp only[c98,r98_0,r98_1,SS,fC,reduceCtorEq,reduceIte,qY,qQ,qW];refine zaa t1 ?_;simp only[SS,reduceIte,qQ];simp only[r98_2,SS,fC,reduceIte,qQ,d1];simp only[r98_4,SS,reduceIte,qQ];refine zaa t2 ?_;simp only[SS,reduceIte,qQ];by_cases hn:z<0
 ·have e1:decide (z<0)=true:=decide_eq_true hn;have d2:decide ((z.natAbs:Int)<=9223372036854775808)=true:=dT
  have w1:IntKind.i64.wrap (IntKind.u64.wrap (0-(z.natAbs:Int)))=z:=by
   simp[IntKind.wrap,IntKind.bits,IntKind.signed];omega
  simp only[r98_5,↓zcq,↓zkk,SS,fC,reduceIte,qY,qQ,qW,e1,d2];simp only[r98_6,SS,reduceIte,qQ,w1];exact dR
 ·have e1:decide (z<0)=false:=decide_eq_false hn;have d2:decide ((z.natAbs:Int)<9223372036854775808)=true:=dT
  have w1:IntKind.i64.wrap (z.natAbs:Int)=z:=by
   rw[show(z.natAbs:Int)=z by omega];exact w64 z1 z2
  simp only[r98_5,↓zcq,↓zkk,SS,fC,reduceIte,qY,qQ,qW,e1];simp only[r98_7,↓zcq,SS,fC,reduceIte,qY,qQ,qW,d2];simp only[r98_8,SS,reduceIte,qQ,w1];exact dR
section
variable{n:Nat}{M:List (List Int)}{a:AV}
theorem qfc(hS:Shp n M)(hR:Red n (rowF M)):qgw M:=by
 refine zvy (A0:=180224) (λi j=>?_) (zlb (x:=180224) (by decide));have:=zmg hS hR i j;omega
theorem zro(hR:Red n (rowF M)):In64 (lead (rowF M) n)/\1<=lead (rowF M) n/\lead (rowF M) n<=10000:=by
 have h1:=hR.pos' n (qD n);have h2:=hR.small;unfold In64;omega
theorem zmo(hV:ImV M a)(hS:Shp n M)(hR:Red n (rowF M)):Rt 31 [a] [] (.int .i64 (lead (rowF M) n)) []:=by
 have h8:=hR.n8;have h1:=hR.n1;have hsl:=hS.len;have hF:=qfc hS hR;obtain⟨d64,_,_⟩:=zro hR;have t1:=jhv hV ⟨h1,by omega⟩ (by omega) (λi hi=>hS.row i (by omega));have t2:=jjv hS hR hF;have iv:=zbv (z:=lead (rowF M) n) (zlb (by unfold In64 at d64;omega));have t3:=jhw iv d64;have hca:=hV.closed;have c0:qX [a]=true:=by simp only[qX,hca,qU]
 have cM:AV.closed (matC M)=true:=rfl;have c1:qX [matC M]=true:=rfl;obtain⟨rows,c,rfl,_,_⟩:=hV.val;refine oF o31 ?_;simp only[c31,r31_0,r31_1,SS,reduceCtorEq,reduceIte];refine zaa t1 ?_ c0;simp only[SS,reduceIte,qQ,qA,qB];simp only[r31_2,SS,reduceIte,qQ];unfold matC at t2 c1 ⊢;refine zaa t2 ?_ c1;simp only[SS,reduceIte,qY,qQ,qW,qA,qB,intV]at t3 ⊢;simp only[r31_3,SS,reduceIte,qY,qQ,qW];refine zaa t3 ?_;simp only[SS,reduceIte,qQ,qA,qB];simp only[r31_4,SS,reduceIte,qQ];exact dR
theorem jhx(hV:ImV M a)(hS:Shp n M)(hR:Red n (rowF M)):Rt 28 [a] [] (.int .i64 (lead (rowF M) n)) []:=by
 have h8:=hR.n8;have h1:=hR.n1;have hsl:=hS.len;have hF:=qfc hS hR;obtain⟨d64,_,_⟩:=zro hR
 obtain⟨d,hd,_⟩:=zvl (B:=BIG) (A0:=180224) (n:=n) (M:=M) (by decide) (by
  have h:FitN 8 BIG 180224:=⟨by decide,by decide +kernel⟩
  exact λk hk=>(h.all (k:=k) (by omega)).2) hS (λi j=>by have:=zmg hS hR i j;omega)
 have e:=zlw hS (λt ht=>hR.ne (k:=n) (qD n) t (by omega)) hd;have t1:=mOf hV ⟨h1,by omega⟩ (by omega) (λi hi=>hS.row i (by omega));have t2:=mDet zef (zqk hF) (by omega) (λi hi=>by rw[hsl];exact hS.row i (by omega)) hd;rw[e]at t2;have iv:=zbv (z:=lead (rowF M) n) (zlb (by unfold In64 at d64;omega));have t3:=qyc iv d64;have hca:=hV.closed;have c0:qX [a]=true:=by simp only[qX,hca,qU]
 have c1:qX [matC M]=true:=rfl;obtain⟨rows,c,rfl,_,_⟩:=hV.val;refine oF o28 ?_;simp only[c28,r28_0,r28_1,SS,reduceCtorEq,reduceIte];refine zaa t1 ?_ c0;simp only[SS,reduceIte,qQ];refine zaa t2 ?_ c1;simp only[SS,reduceIte,qQ];refine zaa t3 ?_;simp only[SS,reduceIte,qQ,qA,qB];simp only[r28_2,SS,reduceIte,qQ];exact kR
end
end Go.Proofs.YtgfbaioffpcelaaGreatDoor
namespace Go.Proofs.YtgfbaioffpcelaaGreatDoor
open Go Go.AL Go.Proofs Go.Limb
theorem qpw(a:Int)(p:Nat):(p:Int)∣a-a%(p:Int):=⟨a/p,by have:=Int.mul_ediv_add_emod a p;omega⟩
theorem qpx{n P k:Nat}{M:List (List Int)}(hP:0<P)(hsy:∀i j,i<n->j<n->ent M i j=ent M j i):((cntD n P k M:Nat):Int)=GE.NS P (rowF M) n ((k%P:Nat):Int):=by
 unfold cntD;refine GE.count_NS (Nat.mod_lt _ hP) λi j hi hj=>?_
 rw[qnu];unfold modM;rw[zbl hi hj,Int.toNat_of_nonneg (xB _ (by omega))];have h2:(P:Int)∣ -(ent M i j-ent M i j%(P:Int)):=Int.dvd_neg.2 (qpw (ent M i j) P)
 rwa[show -(ent M i j-ent M i j%(P:Int))=ent M i j%(P:Int)-rowF M j i by
  rw[show rowF M j i=ent M j i from rfl,<-hsy i j hi hj];omega]at h2
theorem qpy{n P k:Nat}{M M':List (List Int)}(hP:0<P)(h1:∀i j,i<n->j<n->ent M i j=ent M j i)(h2:∀i j,i<n->j<n->ent M' i j=ent M' j i)(h:∀t,GE.NS P (rowF M) n t=GE.NS P (rowF M') n t):cntD n P k M=cntD n P k M':=by
 have e1:=qpx (k:=k) hP h1;have e2:=qpx (k:=k) hP h2;have:=h ((k%P:Nat):Int);omega
open Go.Det Go.GE
def qwf(n P C:Nat):Int×Int:=(numR (C:Int) ((P^(n-1):Nat):Int),denR (C:Int) ((P^(n-1):Nat):Int))
theorem jdz(n P k:Nat)(M:List (List Int)):cntD n P k M<=P^n:=by
 unfold cntD;refine qI xD ?_;rw[Count.allV_len];exact qD _
theorem jjw{p:Nat}(h:Prm p)(hp:p<=2147483647):PrmZ (p:Int):=⟨by have:=h.1;omega,by omega,by rw[qV];exact h⟩
def pwK(p k:Nat):Nat:=p^(2*expo p (2*k) (2*k)+1)
theorem zle{p k:Nat}(hp:2<=p):0<pwK p k:=Nat.pow_pos (by omega)
theorem zwn{n p k:Nat}{M:List (List Int)}(hS:Shp n M)(hR:Red n (rowF M))(hp:Prm p)(hp3:p<=9973)(hk:1<=k/\k<=10)(hpow:p^((2*expo p (2*k) (2*k)+1)*n)<=40000):
  ∃r,RV (qwf n (pwK p k) (cntD n (pwK p k) k M)) r/\Rt 16 [.vec (zbt n M) n (some n),.int .i64 (p:Int),.int .i64 (k:Int)] [] (.tup [r,.int .i64 0]) []:=by
 have hZ:=jjw hp (by omega);obtain⟨e,hv,he,e1,e2⟩:=valK hk hZ hp3;obtain⟨x1,x2⟩:=zxs hp.1 (2*k) (2*k) (by omega) (qD _);obtain rfl:=qla x1 x2 e1 e2;have hIm:ImV M (.vec (zbt n M) n (some n)):=zez hS.len hS.row (zke hS hR);have hchk:=jco (jcp hS hR) hIm.closed (p:=(p:Int)) (by omega) (prIs (b:=true) ⟨λ_=>hZ,λ_=>rfl⟩);obtain⟨r,ir,t⟩:=jhu hIm hS (λi j hi hj=>hR.sym i j hi hj) hR.n1 hR.n8 hchk hp.1 hp3 (by omega) (by rw[<-xP];exact hpow) (by omega) hv;exact⟨r,⟨ir,zyo (by have:=Nat.pow_pos (n:=n-1) (zle (k:=k) hp.1);show(0:Int)<((pwK p k^(n-1):Nat):Int);omega)⟩,t⟩
theorem zyy(n P C:Nat):0<=(qwf n P C).1:=zib (xM _)
theorem qfd{n P k:Nat}{M:List (List Int)}(h1:1<=n)(hP:0<P)(h:P^n<=40000):Bd (qwf n P (cntD n P k M)) 40000:=by
 have a:=jdz n P k M;have b:P^(n-1)<=P^n:=qN hP (by omega);exact⟨qI (zta _ _) (by omega),qI (ztb _ _) (by omega)⟩
theorem jhy{q:Int×Int}{a b:AV}(h1:RV q a)(h2:RV q b)(hb:(q.1*q.2).natAbs<BIG):Rt 17 [a,b] [] (.int .i64 0) []:=jgj h1.1 h2.1 h1.2 hb
theorem qpz{k:Nat}{M M':List (List Int)}(hS:Shp 3 M)(hR:Red 3 (rowF M))(hS':Shp 3 M')(hR':Red 3 (rowF M'))(hk:1<=k/\k<=10){d:Nat}(hd:lead (rowF M) 3=(d:Int))(hd':lead (rowF M') 3=(d:Int))(hns:∀m t,0<m->NS m (rowF M) 3 t=NS m (rowF M') 3 t)
  {l:List (Nat×Nat)} (hl:FL (2*d*k) l) (hh:hvB d k l=false):
  ∃Q r r',0<=Q.1/\(Q.1*Q.2).natAbs<BIG/\RV Q r/\RV Q r'/\Rt 10 [.vec (zbt 3 M) 3 (some 3),.int .i64 (k:Int)] [] (.tup [r,.int .i64 0]) []/\Rt 10 [.vec (zbt 3 M') 3 (some 3),.int .i64 (k:Int)] [] (.tup [r',.int .i64 0]) []:=by
 obtain⟨hdk,hpw⟩:=qvb hh;have hd1:1<=d:=by have:=hR.pos 2 (by decide);rw[hd]at this;omega
 have hn:2*d*k<=4000:=by rw[xI];omega
 have hn1:1<=2*d*k:=by have:=Nat.mul_pos hd1 hk.1;rw[xI];omega
 have hx:∀x∈l,Prm x.1/\x.1<=4000:=λx hx=>⟨(hl.mem x hx).1,qI (Nat.le_of_dvd (by omega) (hl.mem x hx).2) hn⟩
 have hIm:ImV M (.vec (zbt 3 M) 3 (some 3)):=zez hS.len hS.row (zke hS hR);have hIm':ImV M' (.vec (zbt 3 M') 3 (some 3)):=zez hS'.len hS'.row (zke hS' hR')
 obtain⟨Q,q0,qb,go⟩:=jgv (D:=λp=>qwf 3 (pwK p k) (cntD 3 (pwK p k) k M)) (k:=k) (d:=d) (by omega) hd1 hdk hl (λx hxl=>by
  obtain⟨h1,h2⟩:=hx x hxl;refine⟨zyy _ _ _,qfd (by decide) (zle h1.1) ?_⟩;unfold pwK;rw[<-xP];exact hpw x hxl (by omega))
 have s1:=zmo hIm hS hR;have s2:=zmo hIm' hS' hR';rw[hd]at s1;rw[hd']at s2
 obtain⟨r,ir,t⟩:=go _ _ hIm.closed (jcp hS hR) s1 (λx hxl=>by
  obtain⟨h1,h2⟩:=hx x hxl;exact zwn hS hR h1 (by omega) hk (hpw x hxl (by omega)))
 obtain⟨r',ir',t'⟩:=go _ _ hIm'.closed (jcp hS' hR') s2 (λx hxl=>by
  obtain⟨h1,h2⟩:=hx x hxl;have:=zwn hS' hR' h1 (by omega) hk (hpw x hxl (by omega))
  rwa[<-qpy (zle h1.1) (λi j hi hj=>hR.sym i j hi hj) (λi j hi hj=>hR'.sym i j hi hj) (λt=>hns _ t (zle h1.1))]at this)
 exact⟨Q,r,r',q0,qb,ir,ir',t,t'⟩
theorem jhz{d kd:Int}{l q:List Int}{c c2:Option Nat}{n:Nat}(h:zgf l)(hd:0<=d/\d<256)(hk:0<=kd/\kd<256)(hn:(n:Int)=1+d%3):
  ∃M',Shp n M'/\Red n (rowF M')/\lead (rowF M') n=lead (rowF (zkm l (kd%8).toNat n)) n/\(∀m t,0<m->NS m (rowF M') n t=NS m (rowF (zkm l (kd%8).toNat n)) n t)/\Rt 7 [.agg (latC d kd l q c c2),.int .i64 3] [] (.vec (zbt n M') n (some n)) []:=by
 obtain⟨k,M',T',hE,hl,hr,hL,t⟩:=jhs (q:=q) (c:=c) (c2:=c2) (most:=3) h hd hk (by decide) hn;exact⟨M',hL.shM,hr,hl,λm t hm=>qpd hm hE hL t,t⟩
theorem qwg{d kd a b:Int}{l q:List Int}{c c2:Option Nat}(hT:zgf l)(hq:zgf q)(hd:0<=d/\d<256)(hkd:0<=kd/\kd<256)(ha:0<=a/\a<256)(hb:0<=b/\b<256)(hA:Rt 6 [] [] (.bool true) []):
  Rt 4 [.agg (latC d kd l q c c2),.int .u8 a,.int .u8 b] [] (.bool true) []:=by
 obtain⟨n,hn⟩:∃n:Nat,(n:Int)=1+d%3:=⟨(1+d%3).toNat,by omega⟩
 obtain⟨k,hk⟩:∃k:Nat,(k:Int)=1+a%10:=⟨(1+a%10).toNat,by omega⟩
 have hk10:1<=k/\k<=10:=by omega
 obtain⟨M,hS,hR,hL,hNS,tF⟩:=jhz (c:=c) (c2:=c2) (q:=q) hT hd hkd hn;obtain⟨M',hS',hR',hL',hNS',tO⟩:=jht (c:=c) (c2:=c2) hT hq hd hkd hn;have hns:∀m t,0<m->NS m (rowF M) n t=NS m (rowF M') n t:=λm t hm=>by rw[hNS m t hm,hNS' m t hm]
 have hll:lead (rowF M') n=lead (rowF M) n:=by rw[hL,hL']
 clear hNS hNS' hL hL';have hIm:ImV M (.vec (zbt n M) n (some n)):=zez hS.len hS.row (zke hS hR);have hIm':ImV M' (.vec (zbt n M') n (some n)):=zez hS'.len hS'.row (zke hS' hR');have cF:qX [.agg (latC d kd l q c c2),.int .i64 3]=true:=by simp only[qX,AV.closed,zhj,qU]
 have g0:getB [some (latC d kd l q c c2)] 0=some (latC d kd l q c c2):=rfl;have et4:List.take 4 (latC d kd l q c c2)=latC d kd l q c c2:=rfl;have wa:IntKind.i64.wrap a=a:=w64 (by omega) (by omega);have ea:Int.tmod a 10=a%10:=qM ha.1;have wk:IntKind.i64.wrap (1+a%10)=(k:Int):=by rw[<-hk];exact w64 (by omega) (by omega)
 have wk':IntKind.i64.wrap (a%10)=a%10:=w64 (by omega) (by omega);have eb:Int.tmod b 4=b%4:=qM hb.1
 obtain⟨p,hp,hp7,gp⟩:∃p:Nat,Prm p/\p<=7/\([.int .i64 2,.int .i64 3,.int .i64 5,.int .i64 7]:List AV).getD (b%4).toNat AV.junk= .int .i64 (p:Int):=by
  have sq:∀d:Nat,2<=d->d*d<=8->d=2:=λd h1 h2=>by
   rcases Nat.lt_or_ge d 3 with h | h
   ·omega
   ·have:=xQ h h;omega
  rcases(by omega:b%4=0\/b%4=1\/b%4=2\/b%4=3)with e | e | e | e<;>rw[e]
  ·exact⟨2,⟨by decide,λd h1 h2=>by have:=sq d h1 (by omega);subst this;exact absurd h2 (by decide)⟩,by decide,rfl⟩
  ·exact⟨3,⟨by decide,λd h1 h2=>by have:=sq d h1 (by omega);subst this;exact absurd h2 (by decide)⟩,by decide,rfl⟩
  ·exact⟨5,⟨by decide,λd h1 h2=>by have:=sq d h1 (by omega);subst this;decide⟩,by decide,rfl⟩
  ·exact⟨7,⟨by decide,λd h1 h2=>by have:=sq d h1 (by omega);subst this;decide⟩,by decide,rfl⟩
 have hp2:=hp.1;have n3:=hR.n1;obtain⟨e,he⟩:∃e,e=expo p (2*k) (2*k):=⟨_,rfl⟩
 have hex:e<=20:=by
  have h1:=qlb hp2 (show 1<=2*k by omega);have h2:2^expo p (2*k) (2*k)<=p^expo p (2*k) (2*k):=Nat.pow_le_pow_left hp2 _;have h3:=Nat.lt_two_pow_self (n:=expo p (2*k) (2*k));omega
 have tE:=zpt (p:=p) (n:=2*k) hp2 (by omega) (by omega) (by omega);rw[<-he]at tE;have v1:IntKind.i64.wrap (2*(k:Int))=((2*k:Nat):Int):=wQ (by omega);have v2:IntKind.i64.wrap (2*(e:Int))=((2*e:Nat):Int):=wQ (by omega);have v3:=wS1 (2*e) (by omega);have hmn:(2*e+1)*n<=41*3:=xQ (by omega) (by omega);have v4:IntKind.i64.wrap (((2*e+1:Nat):Int)*(n:Int))=(((2*e+1)*n:Nat):Int):=by rw[<-Int.natCast_mul];exact w64 (by omega) (by omega)
 have tP:=ztg (p:Int) (((2*e+1)*n:Nat):Int) 40000 (by omega);rw[qV]at tP;have hpw:=qoq (p:=p) (by omega) ((2*e+1)*n) 0;rw[Nat.pow_zero,xU]at hpw;generalize pwF (p:Int) 40000 ((2*e+1)*n) 1=pv at*;refine oF o4 ?_;simp only[c4,r4_0,SS,reduceCtorEq];simp only[r4_1,SS,reduceIte,qQ,g0];refine⟨by show 4<=4;omega,?_⟩;rw[et4];refine zaa tF ?_ cF hIm.closed;simp only[zaf,zac,keys,qZ,qK,SS,reduceIte,qQ,g0];refine⟨by show 4<=4;omega,?_⟩;rw[et4];refine zaa tO ?_ cF hIm'.closed;simp only[zaf,zac,keys,qZ,qK,SS,reduceIte,qQ];refine⟨rfl,?_⟩;simp only[r4_2,SS,reduceIte,qQ,wa,ea,wk];simp only[r4_3,SS,fC,reduceIte,qY,qQ,qW,eb,gp];refine⟨by decide,by decide,⟨by omega,by show b%4<4;omega⟩,by omega,?_⟩;simp only[r4_4,SS,reduceIte,qQ,v1];refine zaa tE ?_;simp only[zaf,zac,qZ,qK,SS,reduceIte,qQ,v2,v3,v4];refine zaa tP ?_;simp only[zaf,zac,qZ,qK,SS,reduceIte,qQ];refine⟨λhpv=>?_,λhpv=>?_⟩
 ·simp only[r4_5,SS];refine zaa hA ?_;simp only[zaf,zac,qZ,qK,SS,reduceIte,qQ];exact⟨.inl trivial,.bool true,rfl,.freeze 1 _ _ _ rfl (by intro i cs h;omega)⟩
 have hpow:=hpw (Int.not_lt.1 hpv);rw[he]at hpow;obtain⟨u,iu,tu⟩:=zwn hS hR hp (by omega) hk10 hpow;obtain⟨w,iw,tw⟩:=zwn hS' hR' hp (by omega) hk10 hpow;rw[<-qpy (zle hp2) (λi j hi hj=>hR.sym i j hi hj) (λi j hi hj=>hR'.sym i j hi hj) (λt=>hns _ t (zle hp2))]at iw;have bdd:=qfd (n:=n) (P:=pwK p k) (k:=k) (M:=M) n3 (zle hp2) (by unfold pwK;rw[<-xP];exact hpow);have tC:=jhy iu iw (xK (zmd bdd.1 bdd.2) (zdz (by decide)));have cD:qX [.vec (zbt n M) n (some n),.int .i64 (p:Int),.int .i64 (k:Int)]=true:=by simp only[qX,hIm.closed];rfl
 have cD':qX [.vec (zbt n M') n (some n),.int .i64 (p:Int),.int .i64 (k:Int)]=true:=by simp only[qX,hIm'.closed];rfl
 obtain⟨_,_,_,_,_,_,_,_,eu⟩:=iu.shape;subst eu;obtain⟨_,_,_,_,_,_,_,_,ew⟩:=iw.shape;subst ew;have d0:decide ((0:Int)≠0)=false:=by decide
 simp only[r4_6,SS,reduceIte,qQ];refine zaa tu ?_ cD (by simp only[AV.closed,qX,qU]);simp only[zaf,zac,qZ,qK,SS,reduceIte,qY,qQ,qW,qA,qB];simp only[r4_7,SS,reduceIte,qQ];refine zaa tw ?_ cD' (by simp only[AV.closed,qX,qU]);simp only[zaf,zac,qZ,qK,SS,reduceIte,qY,qQ,qW,qA,qB];simp only[r4_8,↓zcq,SS,reduceIte,qY,qQ,qW,d0];refine zaa tC ?_ (by simp only[AV.closed,qX,qU]);simp only[zaf,zac,qZ,qK,SS,fC,reduceIte,qQ];refine⟨λh=>absurd rfl h,λ_=>?_⟩
 have fin:∀(E':Env) (H':Heap),E' 6= .bool true->∃v',resA Tryz.prog [ResultVar.tmp 6] E' H'=some v'/\AL.Fin 0 v' H' (AV.bool true) []:=λE' H' h6=>
  ⟨.bool true,by simp only[resA,xG,List.mapM_nil,zeh,h6];rfl,.drop _ _ rfl (by intro i cs h;omega)⟩
 by_cases h3:n<3
 ·have d3:decide ((n:Int)<3)=true:=dT;simp only[r4_10,↓zkk,SS,fC,reduceIte,qQ,d3];simp only[r4_11,SS];refine zaa hA ?_;simp only[zaf,zac,qZ,qK,SS,reduceIte,qQ];exact⟨.inl trivial,fin _ _ (by rfl)⟩
 obtain rfl:n=3:=by omega
 have d3:decide (((3:Nat):Int)<3)=false:=dF;obtain⟨q1,q2,q3⟩:=zro hR;obtain⟨x,hx⟩:∃x:Nat,lead (rowF M) 3=(x:Int):=⟨(lead (rowF M) 3).toNat,by omega⟩
 have tDet:=jhx hIm hS hR;rw[hx]at tDet;have hx1:1<=x/\x<=10000:=by omega
 obtain⟨fl,hfl⟩:=FL.ex (2*x*k) (2*x*k) (by have:=Nat.mul_pos hx1.1 hk10.1;rw[xI];omega) (qD _);have tH:=jcu hIm.closed tDet hx1 (by omega) hfl;have cH:qX [.vec (zbt 3 M) 3 (some 3),.int .i64 (k:Int)]=true:=by simp only[qX,hIm.closed];rfl
 have cH':qX [.vec (zbt 3 M') 3 (some 3),.int .i64 (k:Int)]=true:=by simp only[qX,hIm'.closed];rfl
 simp only[r4_10,↓zcq,SS,reduceIte,qQ,d3];refine zaa tH ?_ cH;cases hhb:hvB x k fl with
 |true=>
  simp only[zaf,zac,qZ,qK,SS,fC,reduceIte,qQ];simp only[r4_11,SS];refine zaa hA ?_;simp only[zaf,zac,qZ,qK,SS,reduceIte,qQ];exact⟨.inl trivial,fin _ _ (by rfl)⟩
 |false=>
  obtain⟨Q,y,z,Q0,Qb,iy,iz,ty,tz⟩:=qpz hS hR hS' hR' hk10 hx (by rw[hll,hx]) hns hfl hhb;have tC2:=jhy iy iz Qb;have tS:=qxn iy;obtain⟨_,_,_,_,_,_,_,_,ey⟩:=iy.shape;subst ey;obtain⟨_,_,_,_,_,_,_,_,ez⟩:=iz.shape;subst ez
  have dS:0<=Q.1.sign:=by
   rcases(by omega:Q.1=0\/0<Q.1)with h | h
   ·rw[h];decide
   ·rw[xA h];decide
  simp only[zaf,zac,qZ,qK,SS,fC,reduceIte,qQ];simp only[r4_12,SS,reduceIte,qQ];refine zaa ty ?_ cH (by simp only[AV.closed,qX,qU]);simp only[zaf,zac,qZ,qK,SS,reduceIte,qY,qQ,qW,qA,qB];simp only[r4_13,SS,reduceIte,qQ];refine zaa tz ?_ cH' (by simp only[AV.closed,qX,qU]);simp only[zaf,zac,qZ,qK,SS,reduceIte,qY,qQ,qW,qA,qB];simp only[r4_14,↓zcq,SS,reduceIte,qY,qQ,qW,decide_true];refine zaa tC2 ?_ (by simp only[AV.closed,qX,qU]);simp only[zaf,zac,qZ,qK,↓zcq,SS,reduceIte,qY,qQ,qW,decide_true];refine zaa tS ?_ (by simp only[AV.closed,qX,qU]);simp only[zaf,zac,qZ,qK,↓zcq,SS,reduceIte,qQ];refine⟨λ_=>?_,λh=>absurd dS h⟩;refine zaa hA ?_;simp only[zaf,zac,qZ,qK,SS,reduceIte,qQ];exact⟨.inl trivial,fin _ _ (by rfl)⟩
end Go.Proofs.YtgfbaioffpcelaaGreatDoor
namespace Go.Proofs.YtgfbaioffpcelaaGreatDoor
open Go Go.AL Go.Proofs
theorem qwh{a b d kd:Int}{l q:List Int}{c c2:Option Nat}(hT:zgf l)(hq:zgf q)(hd:0<=d/\d<256)(hk:0<=kd/\kd<256)(ha:0<=a/\a<256)(hb:0<=b/\b<256):
  Rt 4 [.agg (latC d kd l q c c2),.int .u8 a,.int .u8 b] [] (.bool true) []:=
 qwg hT hq hd hk ha hb Q.q66
open Go.ChangeShapes Go.WideShapes Go.Joins
theorem jia{a:Addr}(h:a.spot=none)(i:Nat):a.add i=⟨a.block,a.off+i,none⟩:=by
 unfold Addr.add;cases a with
 |mk b o s=>
  subst h;split
  ·rename_i e;subst e;rfl
  ·rfl
theorem jea:Tryz.prog.cellTypes Tryz.prog.depth 25=some [5,5,23,23]:=by kernel_rfl
theorem jeb{W:World}{b0:Nat}{v0 v1 v2 v3:Value}(h:Value.okWide Tryz.prog W .any b0 25 (.agg #[v0,v1,v2,v3])):Cell.okWide Tryz.prog W .any b0 23 v2/\Cell.okWide Tryz.prog W .any b0 23 v3:=by
 simp only[Value.okWide,Tryz.underlying25]at h;obtain⟨cs,e,_,ts,hts,_,hi⟩:=h;injection e with e
 subst e;rw[jea]at hts;obtain rfl:=Option.some.inj hts;obtain⟨u,hu,h2⟩:=hi 2 v2 rfl;obtain⟨w,hw,h3⟩:=hi 3 v3 rfl;obtain rfl:23=u:=Option.some.inj hu;obtain rfl:23=w:=Option.some.inj hw;exact⟨h2,h3⟩
theorem jec{W:World}{b0:Nat}{a:Addr}{n c:Nat}(h:Cell.okWide Tryz.prog W .any b0 23 (.slice (some a) n c)):a.spot=none:=by
 simp only[Cell.okWide,Cell.ok,Tryz.underlying23]at h;exact h.2.2.2.1
theorem qqa{H:Type}{enc:TypeId×Value->H}{W:World}{b0 n:Nat}{v:Value}{y:DataW H×List MemPlace}(hv:Cell.okWide Tryz.prog W .any b0 23 v)(h:DataW.trod enc Tryz.prog W 0 (λ_=>true) true n 23 [v]=some y):
  ∃(l:List Int) (c:Option Nat),zgf l/\IRep W (λ_=>False) (.vec (i8z l) l.length c) v:=by
 rcases open_ints Tryz.underlying23 Tryz.underlying191 (by kernel_rfl) h with⟨e,_⟩ | ⟨a,len,cap,zs,e,_,hl,hm,hz,_,hc,hw⟩
 ·obtain rfl:v=_:=by simpa using e
  exact⟨[],some 0,⟨by decide,λz hz=>by cases hz⟩,.nil none _ (λk hk=>by cases hk;rfl)⟩
 ·obtain rfl:v=_:=by simpa using e
  have hs:=jec hv;have hz:zs.length=cap:=by simpa using hz
  have hlen:(zs.take len).length=len:=by rw[List.length_take];omega
  refine⟨zs.take len,some cap,⟨?_,λz hz'=>?_⟩,?_⟩
  ·rw[hlen];unfold maxLen at hm;omega
  ·have:=hw z (List.mem_of_mem_take hz');simp only[Lit.wf,IntKind.min,IntKind.max,IntKind.bits,IntKind.signed,Bool.and_eq_true,decide_eq_true_eq]at this;constructor<;>simp at this<;>omega
  ·rw[hlen];have ea:a=⟨a.block,a.off,none⟩:=by cases a;simp at hs;subst hs;rfl
   rw[ea];refine .vec _ len (some cap) a.block a.off cap (λj=> .int .i8 (zs.getD j 0)) (λ_ h=>h) (λj hj=>?_) (λj x hj=>?_) hl (λk hk=>by cases hk;rfl)
   ·rw[qbx,hlen]at hj;have:=hc j (by omega);rw[jia hs]at this;exact this
   ·have hj':j<(zs.take len).length:=by
     rcases Nat.lt_or_ge j (zs.take len).length with h' | h'
     ·exact h'
     ·rw[xX (by rw[qbx];exact h')]at hj;cases hj
    rw[hlen]at hj'
    have:x= .int .i8 (zs.getD j 0):=by
     simp only[i8z,xY,List.getElem?_take,if_pos hj',Option.map_eq_some_iff]at hj;obtain⟨z,hz1,rfl⟩:=hj;rw[qJ,hz1];rfl
    rw[this];exact .int _ _
theorem qwi{H:Type}{enc:TypeId×Value->H}{W:World}{b0:Nat}{v:Value}{d:DataW H}{p:List MemPlace}(hv:Value.okWide Tryz.prog W .any b0 25 v)(h:DataW.Trod enc Tryz.prog W 0 (λ_=>true) true 25 v d p):
  ∃(z k:Int) (l q:List Int) (c c2:Option Nat),zgf l/\zgf q/\(0<=z/\z<256)/\(0<=k/\k<256)/\IRep W (λ_=>False) (.agg (latC z k l q c c2)) v:=by
 obtain⟨v0,v1,v2,v3,y0,y1,y2,y3,n,rfl,_,_,t0,t1,t2,t3⟩:=open_agg4 Tryz.underlying25 (by kernel_rfl) (by kernel_rfl) hv h;obtain⟨o2,o3⟩:=jeb hv;obtain⟨z,e0,_,w0⟩:=DataW.trod_int Tryz.underlying5 t0;obtain⟨k,e1,_,w1⟩:=DataW.trod_int Tryz.underlying5 t1;obtain rfl:v0=_:=by simpa using e0
 obtain rfl:v1=_:=by simpa using e1
 obtain⟨l,c,hl,r2⟩:=qqa o2 t2;obtain⟨q,c2,hq,r3⟩:=qqa o3 t3;simp[Lit.wf,IntKind.min,IntKind.max,IntKind.bits,IntKind.signed]at w0 w1;refine⟨z,k,l,q,c,c2,hl,hq,by omega,by omega,.agg _ _ rfl (λj a u ha hu=>?_)⟩
 match j,ha,hu with
 |0,ha,hu=>cases ha;cases hu;exact .int _ _
 |1,ha,hu=>cases ha;cases hu;exact .int _ _
 |2,ha,hu=>cases ha;cases hu;exact r2
 |3,ha,hu=>cases ha;cases hu;exact r3
 |n+4,ha,hu=>cases ha
