/- A part of the proof. -/
import Derived.Test.YtpflahgcdgdkjaaGreatDoorPB
import Derived.Test.YtpflahgcdgdkjaaGreatDoorPA
set_option linter.all false
set_option maxRecDepth 100000
namespace Go.Proofs.YtpflahgcdgdkjaaGreatDoor
open Nat renaming reduceEqDiff -> qQ, reduceLeDiff -> qX, reduceAdd -> qK, le_refl -> qH, lt_of_lt_of_le -> qL, add_zero -> qO, lt_or_ge -> xZ, mul_one -> xN, zero_add -> xT, not_lt_zero -> yZ, sub_self -> yU
open Int renaming toNat_natCast -> qZ, toNat_zero -> xH
open List renaming getD_eq_getElem?_getD -> qJ, getElem?_eq_getElem -> qV, replicate_zero -> qU, getElem?_cons_succ -> qA, getElem?_cons_zero -> qD, take_of_length_le -> qE, append_nil -> qI, getElem_range -> qN, getElem?_replicate -> qR, getElem_map -> qS, ext_getElem -> xJ, replicate_succ -> xW, mapM_cons -> xU, drop_zero -> xG, getElem_mem -> xP, range_succ -> yJ, length_map -> yK, set_append_right -> yW, getElem?_set -> yA, all_eq_true -> yD, nodup_cons -> yG
open Go.AL.AV.closed renaming closedL -> qW
open Bool renaming and_self -> qB
open Option.some renaming injEq -> xO
open Option renaming bind_eq_some_iff -> xR
open Go Go.AL Go.Proofs Go.Limb
theorem qkp{B n:Nat}{M:List (List Int)}{a:AV}{ds:List Int}(hB:DivB B)(h:Sq n M a)(hd:zkk B M=some ds):Rt 120 [a] [] (.bool (defB M ds)) []:=by
 have hl:ds.length=n:=by rw[<-h.len];exact zdg hd
 have hfit:qkl ds:=λz hz=>qL (zrh hd z hz) hB.1
 have t1:=ztp hB h hd;have t2:=zrj h;have c1:qW [a]=true:=by simp only[qW,h.closed,qB]
 have hrc:=zia hfit;have hcl:=zcp hrc;have hn8:=h.hi;refine oF o120 ?_;simp only[c120,r120_0,r120_1,SS,reduceCtorEq,reduceIte];refine zaa t1 ?_ c1;simp only[SS,reduceIte,qQ,qD,qA];simp only[r120_2,SS,fC,reduceCtorEq,reduceIte,qQ];refine zaa t2 ?_ c1;simp only[SS,fC,reduceIte,qQ];refine⟨λhs=>?_,λhs=>?_⟩
 ·have hs:symB M=false:=by simpa using hs
  have hb:defB M ds=false:=by unfold defB;rw[hs];rfl
  rw[hb];simp only[r120_3,SS];exact dR
 ·have hs:symB M=true:=by simpa using hs
  simp only[r120_4,SS,reduceIte,qQ,rowV];rw[hl];refine zaf (λm E H=>∃i,i+m=n/\E 19= .vec (zfv ds) n none/\E 20= .int .i64 (n:Nat)/\E 21= .int .i64 (i:Nat)/\∀i',i'<i->0<ds.getD i' 0) (n:=n) ⟨0,by omega,?_,?_,?_,λi' h=>absurd h (by omega)⟩ ?_
  ·simp only[UU,qQ,reduceIte]
  ·simp only[UU,qQ,reduceIte]
  ·simp only[UU,qQ,reduceIte];rfl
  rintro m E H ⟨i,him,e19,e20,e21,hpos⟩;refine wM ?_;simp only[l120_0,r120_5,SS,reduceCtorEq,reduceIte,e20,e21];refine⟨λhlt=>?_,λhge=>?_⟩
  ·obtain⟨m,rfl⟩:∃m',m=m'+1:=⟨m-1,by omega⟩
   obtain⟨u,v,hx,hy⟩:=zev hrc i (by omega);have hs2:=zhy (r:=[ds.getD i 0]) (cs:=[u,v]) ⟨hy,trivial⟩;have t3:=zwb hy;obtain⟨lz,cz,hz1,hz2⟩:=zam hy;subst hz1 hz2;have w5:=wS1 i (by omega);simp only[r120_6,SS,reduceIte,qK,qQ,qX,e19,e21,qZ,hcl,hl,hx,zbr,ziw];refine⟨⟨by omega,by omega⟩,by omega,?_⟩;simp only[r120_7,SS,reduceIte,qK,qQ,qX,zbr];refine zaa t3 ?_;simp only[SS,reduceIte,qQ];refine⟨λhle=>?_,λhle=>?_⟩
   ·have hle2:ds.getD i 0<=0:=by
     rcases Int.lt_or_le 0 (ds.getD i 0)with h' | h'
     ·rw[Int.sign_eq_one_of_pos h']at hle;omega
     ·exact h'
    have hb:defB M ds=false:=by
     unfold defB;rw[hs,Bool.true_and];cases hx:ds.all λd=>decide (0<d)with
     |false=>rfl
     |true=>
      rw[yD]at hx;have:=hx (ds.getD i 0) (by rw[qJ,qV (by omega)];exact xP _);simp at this;simp[qJ]at hle2;omega
    rw[hb];simp only[r120_8,SS];exact dR
   ·have hpos2:0<ds.getD i 0:=by
     rcases Int.lt_or_le 0 (ds.getD i 0)with h' | h'
     ·exact h'
     ·exfalso;apply hle;rcases Int.lt_or_eq_of_le h' with h2 | h2
      ·rw[Int.sign_eq_neg_one_of_neg h2];omega
      ·rw[h2];decide
    simp only[r120_9,SS,reduceIte,qQ,e21,w5];refine⟨m,_,_,by omega,⟨i+1,by omega,?_,?_,?_,λi' hi'=>?_⟩,.refl⟩
    ·simp only[UU,qQ,e19]
    ·simp only[UU,qQ,e20]
    ·simp only[UU,qQ,reduceIte]
    ·rcases xZ i' i with h' | h'
     ·exact hpos i' h'
     ·rw[show i'=i by omega];exact hpos2
  ·have hb:defB M ds=true:=by
    unfold defB;rw[hs,Bool.true_and,yD];intro z hz;obtain⟨i',hi',rfl⟩:=List.mem_iff_getElem.1 hz;have:=hpos i' (by omega);rw[qJ,qV hi']at this;simpa using this
   rw[hb];simp only[r120_10,SS];exact dR
theorem zpd{B n:Nat}{M:List (List Int)}{a:AV}{ds:List Int}(hB:DivB B)(h:Sq n M a)(hd:zkk B M=some ds):Rt 56 [a] [] (.int .i64 (valZ M ds)) []:=by
 have t0:=qko h;have t1:=qkp hB h hd;have t2:=zrj h;have c1:qW [a]=true:=by simp only[qW,h.closed,qB]
 have d1:decide ((8:Int)<(n:Nat))=false:=decide_eq_false (by have:=h.hi;omega);refine oF o56 ?_;simp only[c56,r56_0,r56_1,SS,reduceCtorEq,reduceIte];refine zaa t0 ?_ c1;simp only[SS,reduceIte,qQ,qD,qA];simp only[r56_2,SS,fC,reduceIte,qQ,d1];simp only[r56_4,SS,reduceCtorEq,reduceIte,qQ];refine zaa t2 ?_ c1;simp only[SS,reduceIte,qQ];refine⟨λhs=>?_,λhs=>?_⟩
 ·have hs:symB M=false:=by simpa using hs
  have hv:valZ M ds=4:=by unfold valZ;rw[if_pos hs]
  rw[hv];simp only[r56_5,SS];exact dR
 ·have hs:symB M=true:=by simpa using hs
  simp only[r56_6,SS,reduceCtorEq,reduceIte,qQ];refine zaa t1 ?_ c1;simp only[SS,reduceIte,qQ];refine⟨λhd=>?_,λhd=>?_⟩
  ·have hd:defB M ds=false:=by simpa using hd
   have hv:valZ M ds=5:=by unfold valZ;rw[if_neg (by rw[hs];simp),if_pos hd]
   rw[hv];simp only[r56_7,SS];exact dR
  ·have hd:defB M ds=true:=by simpa using hd
   have hv:valZ M ds=0:=by unfold valZ;rw[if_neg (by rw[hs];simp),if_neg (by rw[hd];simp)]
   rw[hv];simp only[r56_8,SS];exact dR
theorem qux{B n:Nat}{M:List (List Int)}{a:AV}{d:Int}(hB:DivB B)(h:Sq n M a)(hd:detO B M=some d)(hfit:d.natAbs<B):Rt 57 [a] [] (.bool (decide (d<=10000))) []:=by
 have t1:=mDet hB h.mat (by rw[h.len];have:=h.lo;have:=h.hi;omega) (λi hi=>by rw[h.len]at hi ⊢;exact h.cols i hi) hd;obtain⟨v,hv,t2⟩:=zfb 10000 (by omega) (by omega);have hz:zag d (intV d):=zbk (qL hfit hB.1);have t3:=zCmp hz hv;have c1:qW [a]=true:=by simp only[qW,h.closed,qB]
 have c2:qW [intV d,v]=true:=by simp only[qW,hz.closed,hv.closed,qB]
 refine oF o57 ?_;simp only[c57,r57_0,r57_1,SS,reduceCtorEq,reduceIte];refine zaa t1 ?_ c1;simp only[SS];refine zaa t2 ?_ rfl hv.closed;simp only[SS,reduceIte,qQ];refine zaa t3 ?_ c2;simp only[SS,reduceIte,qQ]
 have e:decide ((if d<10000 then(-1:Int)else if d=10000 then 0 else 1)<=0)=decide (d<=10000):=by
  rw[decide_eq_decide];split
  ·omega
  ·split<;>omega
 rw[e];exact dR
theorem jcu{ds:List Int}{cs:List AV}{c:Option Nat}{k:Nat}(hrc:RowC ds cs)(hk:k<=ds.length)(hl:ds.length<=16):Rt 130 [.vec cs ds.length c,.int .i64 (k:Nat)] [] (intV (zcq ds k)) []:=by
 have hcl:=zcp hrc;refine oFw o130 ?_;simp only[c130,r130_0,r130_1,SS,reduceCtorEq,reduceIte,qQ];refine⟨λh0=>?_,λh0=>?_⟩
 ·have h0:k=0:=by omega
  obtain⟨v,hv,t⟩:=zfb 1 (by omega) (by omega);have hv0:=hv;obtain⟨l1,c1,_,_,_,rfl⟩:=hv0;simp only[r130_2,SS];refine zaa t ?_;simp only[SS,reduceIte,qK,qQ,qX];refine⟨.inl trivial,_,_,zeu (id:=0) (by simp only[UU,qQ,reduceIte]) rfl,.drop _ _ rfl (by intro i cs h;omega),?_⟩;rw[show zcq ds k=1 by unfold zcq;rw[if_pos h0]];exact hv.wk
 ·have h0:k≠0:=by omega
  obtain⟨u,v,hx,hy⟩:=zev hrc (k-1) (by omega);have w1:IntKind.i64.wrap ((k:Int)-1)=((k-1:Nat):Int):=wQ (by omega);have hyw:=hy;obtain⟨lz,cz,hz1,hz2⟩:=zam hy;subst hz1 hz2;simp only[r130_3,SS,reduceCtorEq,reduceIte,qK,qQ,qX,w1,qZ,hcl,hx];refine⟨⟨by omega,by omega⟩,by omega,?_⟩;refine⟨.inl trivial,_,_,zeu (id:=0) (by simp only[UU,qQ,reduceIte]) rfl,.drop _ _ rfl (by intro i cs h;omega),?_⟩;rw[show zcq ds k=ds.getD (k-1) 0 by unfold zcq;rw[if_neg h0]];exact hyw.wk
theorem qfr{f:FuncId}{a v:AV}{l1 l2:List Nat}{n1 n2 i1 i2:Nat}{c1 c2:Option Nat}{H:Heap}{K:AV->Eff->List Nat->Nat->Prop}(h:Rt f [a,.vec (i64n l1) n1 c1,.vec (i64n l2) n2 c2] [] v [])(hn1:n1=l1.length)(hn2:n2=l2.length)
  (h1:getB H i1=some (i64n l1)) (h2:getB H i2=some (i64n l2)) (hne:i1≠i2) (ha:a.closed=true) (hfa:∀H0,frzI 0 H0 2 a=some a) (hv:v.closed=true) (hk:K v [(i1,none),(i2,none)] [i1,i2] 0):zls Tryz.prog G f [a,.sl i1 0 n1 1 c1,.sl i2 0 n2 1 c2] H K:=by
 have hc:∀l:List Nat,qW (i64n l)=true:=by
  intro l
  induction l with
  |nil=>rfl
  |cons d l ih=>exact ih
 have g:∀{i:Nat} {cs:List AV},getB H i=some cs->H[i]?=some (some cs):=by
  intro i cs h;unfold getB at h;split at h
  ·rename_i e;simp at h;rw[e,h]
  ·simp at h
 have e0:zan [i1,i2] H.length 0=i1:=by simp[zan]
 have e1:zan [i1,i2] H.length 1=i2:=by simp[zan]
 have hfr:([a,.sl 0 0 n1 1 c1,.sl 1 0 n2 1 c2]:List AV).mapM (frzI 0 [some (i64n l1),some (i64n l2)] 2)=some [a,.vec (i64n l1) n1 c1,.vec (i64n l2) n2 c2]:=by
  have f1:frzI 0 [some (i64n l1),some (i64n l2)] 2 (.sl 0 0 n1 1 c1)=some (.vec (i64n l1) n1 c1):=by
   have e:=ztn l1 0 0 [some (i64n l1),some (i64n l2)];rw[frzI];simp only[yZ,if_false,zoo,need,xT,xN,hn1,zfw,qH,if_true,xG];rw[qE (by rw[zfw];omega),e];rfl
  have f2:frzI 0 [some (i64n l1),some (i64n l2)] 2 (.sl 1 0 n2 1 c2)=some (.vec (i64n l2) n2 c2):=by
   have e:=ztn l2 0 0 [some (i64n l1),some (i64n l2)];rw[frzI];have hg:getB [some (i64n l1),some (i64n l2)] 1=some (i64n l2):=rfl;simp only[yZ,if_false,hg,need,xT,xN,hn2,zfw,qH,if_true,xG];rw[qE (by rw[zfw];omega),e];rfl
  rw[xU,xU,xU,hfa,f1,f2];rfl
 have hH1:=zal h1;have hH2:=zal h2
 have:=CallR0.mk (P:= Tryz.prog) (Γ:=G) (f:=f) (args:=[a,.sl i1 0 n1 1 c1,.sl i2 0 n2 1 c2]) (k:=H.length) (H:=H++List.replicate 0 none) [i1,i2] [a,.sl 0 0 n1 1 c1,.sl 1 0 n2 1 c2] [some (i64n l1),some (i64n l2)] v [none,none] (qju h hfr) rfl (by simp[hne]) (by
   intro i hi;rcases List.mem_cons.1 hi with e | e
   ·rw[e];exact hH1
   ·simp at e;rw[e];exact hH2) (by simp[AV.ren,e0,e1,zef _ a ha]) (by simp[AV.under.underL,AV.under,zmk 2 a ha]) (by
   intro i c hi
   match i,hi with
   |0,hi=>
    simp at hi;subst hi;refine⟨_,rfl,zbg _ _ (hc l1),?_⟩;rw[e0];simp only[renB,zaw _ _ (hc l1)];simpa using g h1
   |1,hi=>
    simp at hi;subst hi;refine⟨_,rfl,zbg _ _ (hc l2),?_⟩;rw[e1];simp only[renB,zaw _ _ (hc l2)];simpa using g h2
   |i+2,hi=>simp at hi)
 refine⟨v,_,_,0,?_,hk⟩;rw[zef _ v hv]at this;refine .base ?_;simpa[effs,e0,e1,renB]using this
theorem lam_sq{n:Nat}{M:List (List Int)}{a:AV}(h:Sq n M a){i j:Nat}(hi:i<n)(hj:j<n):Sq (j+1) (lamM M i j) (matC (lamM M i j))/\(lamM M i j).length=j+1:=by
 have hl:(lamM M i j).length=j+1:=by simp[lamM,selM]
 have hf:=zwj h.mat
 have hent:∀i j,i<n->j<n->(ent M i j).natAbs<BIG:=by
  intro i j hi hj;have hc:=h.cols i hi;unfold ent;rw[qJ (l:=M.getD i []),qV (by omega)];have hm:M.getD i []∈M:=by rw[qJ,qV (by rw[h.len];exact hi)];exact xP _
  exact hf _ hm _ (xP _)
 have hb:∀x y,y<n->x∈List.range j++[y]->x<n:=by
  intro x y hy hx;rcases List.mem_append.1 hx with e | e
  ·have:=List.mem_range.1 e;omega
  ·simp at e;omega
 refine⟨⟨zly ?_,hl,?_,by omega,by have:=h.hi;omega⟩,hl⟩
 ·intro r hr z hz;obtain⟨x,hx,rfl⟩:=List.mem_map.1 hr;obtain⟨y,hy,rfl⟩:=List.mem_map.1 hz;exact hent x y (hb x i hi hx) (hb y j hj hy)
 ·intro x hx;unfold lamM selM;rw[qJ,List.getElem?_map,qV (by simp;omega)];simp[selR]
theorem zzt{B n:Nat}{M:List (List Int)}{a:AV}{i j:Nat}{d:Int}(hB:DivB B)(h:Sq n M a)(hi:i<n)(hj:j<n)(hd:detO B (lamM M i j)=some d)(hfit:d.natAbs<B):
  Rt 129 [a,.int .i64 (i:Nat),.int .i64 (j:Nat)] [] (intV d) []:=by
 have hn8:=h.hi;obtain⟨hsq,hml⟩:=lam_sq h hi hj;have tdet:=mDet hB hsq.mat (by rw[hml];omega) (λx hx=>by rw[hml]at hx ⊢;exact hsq.cols x hx) hd
 have hb:∀x y,y<n->x∈List.range j++[y]->x<n:=by
  intro x y hy hx;rcases List.mem_append.1 hx with e | e
  ·have:=List.mem_range.1 e;omega
  ·simp at e;omega
 have tsel:=qkn (n:=n) (rs:=List.range j++[i]) (ks:=List.range j++[j]) (c1:=none) (c2:=none) h.mat (by rw[h.len];omega) (by omega) (λx hx=>h.cols x (by rw[<-h.len];exact hx)) (λx hx=>by rw[h.len];exact hb x i hi hx) (by simp;omega) (λx hx=>hb x j hj hx) (by simp;omega);have l1:(List.range j++[i]).length=j+1:=by simp
 have l2:(List.range j++[j]).length=j+1:=by simp
 rw[l1,l2]at tsel
 have hfa:∀H0,frzI 0 H0 2 a=some a:=by
  intro H0;obtain⟨rows,c,rfl,_⟩:=h.mat;rfl
 have hz:zag d (intV d):=zbk (qL hfit hB.1);refine oF o129 ?_;simp only[c129,r129_0,r129_1,r129_2,SS,reduceCtorEq]
 refine zaf (λm E H=>∃k,k+m=j/\E 0=a/\E 1= .int .i64 (i:Nat)/\E 2= .int .i64 (j:Nat)/\E 6= .ptr 0 0/\E 9= .int .i64 (k:Nat)/\Grow H 1 k (i64n (List.range k)) (E 7) [0]/\Grow H 1 k (i64n (List.range k)) (E 8) [0]/\
  (∀x m1 m2 c1 c2,E 7= .sl x 0 m1 1 c1->E 8≠ .sl x 0 m2 1 c2)/\∃u v,getB H 0=some [u,v]) (n:=j) ⟨0,by omega,?_,?_,?_,?_,?_,.inl ⟨rfl,rfl,?_⟩,.inl ⟨rfl,rfl,?_⟩,?_,⟨_,_,rfl⟩⟩ ?_
 ·simp only[UU,qQ]
 ·simp only[UU,qQ]
 ·simp only[UU,qQ]
 ·simp only[UU,qQ,reduceIte]
 ·simp only[UU,qQ,reduceIte];rfl
 ·simp only[UU,qQ,reduceIte]
 ·simp only[UU,qQ,reduceIte]
 ·intro x m1 m2 c1 c2 e;simp only[UU,qQ,reduceIte]at e;simp at e
 rintro m E H ⟨k,hkm,e0,e1,e2,e6,e9,hG7,hG8,hdis,ru,rv,hres⟩;refine wM ?_;simp only[l129_0,r129_3,SS,reduceCtorEq,reduceIte,qQ,e2,e9];have h0lt:=zal hres;refine⟨λhlt=>?_,λhge=>?_⟩
 ·obtain⟨m,rfl⟩:∃m',m=m'+1:=⟨m-1,by omega⟩
  have w5:=wS1 k (by omega);obtain⟨ea,rda,hapa,hGa,hla,hka,_,_⟩:=zha (bytes:=8) (xs:=[.int .i64 (k:Nat)]) hG7 rfl rfl (by omega) (by omega) (by simp);generalize hH1:zad ea (H++[some [.int .i64 ((k:Nat):Int)]]++[none])=H1 at*
  have hG8':Grow H1 1 k (i64n (List.range k)) (E 8) [0]:=by
   refine hG8.mono (λid h1 h2=>?_) (λ_ _ h=>h);rw[hka id (zal h1) (λm1 c1 e=>hdis id m1 k c1 none e h2)];exact h1
  obtain⟨eb,rdb,hapb,hGb,hlb,hkb,_,_⟩:=zha (bytes:=8) (xs:=[.int .i64 (k:Nat)]) hG8' rfl rfl (by omega) (by omega) (by simp);generalize hH2:zad eb (H1++[some [.int .i64 ((k:Nat):Int)]]++[none])=H2 at*;have hrg:i64n (List.range k)++[.int .i64 ((k:Nat):Int)]=i64n (List.range (k+1)):=by simp[i64n,yJ]
  rw[hrg]at hGa hGb
  have hold8:∀x m2 c2,E 8= .sl x 0 m2 1 c2->x<H.length:=by
   intro x m2 c2 e;rcases hG8 with⟨_,_,h8⟩ | ⟨_,_,id,h8,hb8,_⟩
   ·rw[h8]at e;simp at e
   ·rw[h8]at e;injection e with e;rw[<-e];exact zal hb8
  simp only[r129_4,SS,reduceIte,qQ,qX,e9,zdi,hapa,hH1];simp only[r129_5,SS,reduceIte,qQ,qX,e9,zdi,hapb,hH2];simp only[r129_6,SS,reduceIte,qQ,e9,w5];refine⟨m,_,_,by omega,⟨k+1,by omega,?_,?_,?_,?_,?_,?_,?_,?_,⟨ru,rv,?_⟩⟩,.refl⟩
  ·simp only[UU,qQ,e0]
  ·simp only[UU,qQ,e1]
  ·simp only[UU,qQ,e2]
  ·simp only[UU,qQ,e6]
  ·simp only[UU,qQ,reduceIte]
  ·simp only[UU,qQ,reduceIte];refine hGa.mono (λid h1 h2=>?_) (λ_ _ h=>h);rw[hkb id (zal h1) (λm1 c1 e=>?_)]
   ·exact h1
   ·injection h2 with h2
    have:=hold8 _ _ _ e;omega
  ·simp only[UU,qQ,reduceIte];exact hGb
  ·intro x m1 m2 c1 c2 h1 h2;simp only[UU,qQ,reduceIte]at h1 h2;injection h1 with h1
   injection h2 with h2
   omega
  ·rw[hkb 0 (by omega) (zjo hG8' (by simp)),hka 0 h0lt (zjo hG7 (by simp))];exact hres
 ·have hm:k=j:=by omega
  subst hm;obtain⟨ea,rda,hapa,hGa,hla,hka,_,_⟩:=zha (bytes:=8) (xs:=[.int .i64 (i:Nat)]) hG7 rfl rfl (by omega) (by omega) (by simp);generalize hH1:zad ea (H++[some [.int .i64 ((i:Nat):Int)]]++[none])=H1 at*
  have hG8':Grow H1 1 k (i64n (List.range k)) (E 8) [0]:=by
   refine hG8.mono (λid h1 h2=>?_) (λ_ _ h=>h);rw[hka id (zal h1) (λm1 c1 e=>hdis id m1 k c1 none e h2)];exact h1
  obtain⟨eb,rdb,hapb,hGb,hlb,hkb,_,_⟩:=zha (bytes:=8) (xs:=[.int .i64 (k:Nat)]) hG8' rfl rfl (by omega) (by omega) (by simp);generalize hH2:zad eb (H1++[some [.int .i64 ((k:Nat):Int)]]++[none])=H2 at*;have hrg1:i64n (List.range k)++[.int .i64 ((i:Nat):Int)]=i64n (List.range k++[i]):=by simp[i64n]
  have hrg2:i64n (List.range k)++[.int .i64 ((k:Nat):Int)]=i64n (List.range k++[k]):=by simp[i64n]
  rw[hrg1]at hGa;rw[hrg2]at hGb
  have hold8:∀x m2 c2,E 8= .sl x 0 m2 1 c2->x<H.length:=by
   intro x m2 c2 e;rcases hG8 with⟨_,_,h8⟩ | ⟨_,_,id,h8,hb8,_⟩
   ·rw[h8]at e;simp at e
   ·rw[h8]at e;injection e with e;rw[<-e];exact zal hb8
  have ga:getB H1 (H.length+1)=some (i64n (List.range k++[i])):=by
   rcases hGa with⟨h,_⟩ | ⟨_,_,id,h1,h2,_⟩
   ·omega
   ·injection h1 with h1;rw[h1];exact h2
  have ga2:getB H2 (H.length+1)=some (i64n (List.range k++[i])):=by
   rw[hkb _ (zal ga) (λm1 c1 e=>by have:=hold8 _ _ _ e;omega)];exact ga
  have gb:getB H2 (H1.length+1)=some (i64n (List.range k++[k])):=by
   rcases hGb with⟨h,_⟩ | ⟨_,_,id,h1,h2,_⟩
   ·omega
   ·injection h1 with h1;rw[h1];exact h2
  have g0:getB H2 0=some [ru,rv]:=by
   rw[hkb 0 (by omega) (zjo hG8' (by simp)),hka 0 h0lt (zjo hG7 (by simp))];exact hres
  simp only[r129_7,SS,reduceCtorEq,reduceIte,qQ,qX,e0,e1,e2,zdi,hapa,hH1,hapb,hH2];refine qfr tsel l1.symm l2.symm ga2 gb (by omega) h.closed hfa rfl ?_;simp only[zay,zad,qU,qI,SS,reduceIte,qQ];refine zaa tdet ?_
  have g1:getB ((H2.set (H.length+1) none).set (H1.length+1) none) 0=some [ru,rv]:=by
   rw[zah (by omega),zah (by omega)];exact g0
  simp only[SS,reduceIte,qK,qQ,qX,e6,g1,zlz,show(intV d).firm=true from rfl];refine⟨.inl trivial,_,zeu (id:=0) (by simp only[UU,qQ,e6]) (zbd (zal g1)),.drop _ _ rfl (by intro i cs h;omega)⟩
structure Lead(B n:Nat)(M:List (List Int))(ds:List Int):Prop where
 eq:zkk B M=some ds
 len:ds.length=n
 fits:∀z∈ds,z.natAbs<B
theorem qkq{B n:Nat}{M:List (List Int)}{a:AV}{ds:List Int}(h:Sq n M a)(hd:zkk B M=some ds):Lead B n M ds:=⟨hd,by rw[<-h.len];exact zdg hd,zrh hd⟩
theorem zma{B n:Nat}{M:List (List Int)}{ds:List Int}(hB:DivB B)(h:Lead B n M ds)(k:Nat):(zcq ds k).natAbs<BIG:=by
 unfold zcq;split
 ·exact zgi (by decide)
 ·rw[qJ];cases e:ds[k-1]? with
  |none=>exact zgi (by decide)
  |some z=>exact qL (h.fits z (List.mem_of_getElem? e)) hB.1
theorem zwn{B n:Nat}{M:List (List Int)}{ds:List Int}(hB:DivB B)(h:Lead B n M ds)(hn:n<=8){k:Nat}(hk:k<=n):Rt 130 [rowV ds,.int .i64 (k:Nat)] [] (intV (zcq ds k)) []:=
 jcu (zia (λz hz=>qL (h.fits z hz) hB.1)) (by rw[h.len];exact hk) (by rw[h.len];omega)
theorem quy{B n:Nat}{M:List (List Int)}{a:AV}{ds:List Int}{i j:Nat}{b:Bool}(hB:DivB B)(h:Sq n M a)(hd:Lead B n M ds)(hi:i<n)(hj:j<n)(hb:zkl B M ds i j=some b):
  Rt 125 [a,rowV ds,.int .i64 (i:Nat),.int .i64 (j:Nat)] [] (.bool b) []:=by
 unfold zkl at hb;simp only[xR,xO]at hb;obtain⟨l,hl,x,hx,rfl⟩:=hb;obtain⟨hdet,hlf⟩:=zgj hl;obtain⟨rfl,hxf⟩:=zcr hx;have hn8:=h.hi;have t1:=zzt hB h hi hj hdet hlf;have hz:zag l (intV l):=zbk (qL hlf hB.1);obtain⟨v2,hv2,t2⟩:=zfb 2 (by omega) (by omega);obtain⟨va,hva,t3⟩:=zAbs hz;have hf:(2*(l.natAbs:Int)).natAbs<BIG:=by have:=hB.1;omega
 obtain⟨vm,hvm,t4⟩:=zMul hv2 hva hf;have t5:=zwn hB hd hn8 (k:=j+1) (by omega);have hm:zag (zcq ds (j+1)) (intV (zcq ds (j+1))):=zbk (zma hB hd _);have t6:=zCmp hvm hm;have w5:=wS1 j (by omega);have c1:qW [a,.int .i64 (i:Nat),.int .i64 (j:Nat)]=true:=by simp only[qW,h.closed,AV.closed,qB]
 have c2:qW [v2,va]=true:=by simp only[qW,hv2.closed,hva.closed,qB]
 have c3:qW [vm,intV (zcq ds (j+1))]=true:=by simp only[qW,hvm.closed,hm.closed,qB]
 refine oF o125 ?_;simp only[c125,r125_0,r125_1,SS,reduceCtorEq];refine zaa t2 ?_ rfl hv2.closed;simp only[SS,reduceCtorEq,reduceIte,qQ];refine zaa t1 ?_ c1;simp only[SS,reduceIte,qQ];refine zaa t3 ?_ rfl hva.closed;simp only[SS,reduceIte,qQ];refine zaa t4 ?_ c2 hvm.closed;simp only[SS,reduceIte,qQ,w5];refine zaa t5 ?_;simp only[SS,reduceIte,qQ];refine zaa t6 ?_ c3;simp only[SS,reduceIte,qQ]
 have e:decide ((if 2*(l.natAbs:Int)<zcq ds (j+1)then(-1:Int)else if 2*(l.natAbs:Int)=zcq ds (j+1)then 0 else 1)<=0)=decide (2*(l.natAbs:Int)<=zcq ds (j+1)):=by
  rw[decide_eq_decide];split
  ·omega
  ·split<;>omega
 rw[e];exact dR
theorem qkr{B n:Nat}{M:List (List Int)}{a:AV}{ds:List Int}{i:Nat}{b:Bool}(hB:DivB B)(h:Sq n M a)(hd:Lead B n M ds)(h0:0<i)(hi:i<n)(hb:lovO B M ds i=some b):
  Rt 131 [a,rowV ds,.int .i64 (i:Nat)] [] (.bool b) []:=by
 unfold lovO at hb;simp only[xR,xO]at hb;obtain⟨l,hl,p,hp,q,hq,s,hs,x,hx,r,hr,y,hy,rfl⟩:=hb;obtain⟨hdet,hlf⟩:=zgj hl;obtain⟨rfl,hpf⟩:=zcr hp;obtain⟨rfl,hqf⟩:=zcr hq;obtain⟨rfl,hsf⟩:=zcr hs;obtain⟨rfl,hxf⟩:=zcr hx;obtain⟨rfl,hrf⟩:=zcr hr;obtain⟨rfl,hyf⟩:=zcr hy;have hn8:=h.hi;have up:∀{z:Nat},z<B->z<BIG:=λh=>qL h hB.1
 have t1:=zzt hB h hi (show i-1<n by omega) hdet hlf;have hz:zag l (intV l):=zbk (up hlf);have mi:=λk=>(zbk (zma hB hd k):zag (zcq ds k) (intV (zcq ds k)))
 obtain⟨v4,hv4,t2⟩:=zfb 4 (by omega) (by omega);obtain⟨v3,hv3,t3⟩:=zfb 3 (by omega) (by omega);have t4:=zwn hB hd hn8 (k:=i-1) (by omega);have t5:=zwn hB hd hn8 (k:=i+1) (by omega);have t6:=zwn hB hd hn8 (k:=i) (by omega);obtain⟨vp,hvp,t7⟩:=zMul (mi (i-1)) (mi (i+1)) (up hpf);obtain⟨vq,hvq,t8⟩:=zMul hz hz (up hqf);obtain⟨vs,hvs,t9⟩:=zAdd hvp hvq (up hsf);obtain⟨vx,hvx,t10⟩:=zMul hv4 hvs (up hxf);obtain⟨vr,hvr,t11⟩:=zMul (mi i) (mi i) (up hrf);obtain⟨vy,hvy,t12⟩:=zMul hv3 hvr (up hyf);have t13:=zCmp hvx hvy;have w1:IntKind.i64.wrap ((i:Int)-1)=((i-1:Nat):Int):=wQ (by omega);have w2:=wS1 i (by omega);have c1:qW [a,.int .i64 (i:Nat),.int .i64 ((i-1:Nat):Int)]=true:=by simp only[qW,h.closed,AV.closed,qB]
 have hx0:=hvx;obtain⟨lx,cx,_,_,_,rfl⟩:=hx0
 have k2:∀{u v:AV},u.closed=true->v.closed=true->qW [u,v]=true:=by
  intro u v h1 h2;simp only[qW,h1,h2,qB]
 refine oF o131 ?_;simp only[c131,r131_0,r131_1,SS,reduceCtorEq,reduceIte,qQ,w1];refine zaa t1 ?_ c1;simp only[SS,reduceIte,qK,qQ,qX,zlz,show(intV l).firm=true from rfl];simp only[r131_2,SS];refine zaa t2 ?_ rfl hv4.closed;simp only[SS,reduceIte,qQ,w1];refine zaa t4 ?_;simp only[SS,reduceIte,qQ,w2];refine zaa t5 ?_;simp only[SS,reduceIte,qQ];refine zaa t7 ?_ rfl hvp.closed;simp only[SS,reduceIte,qK,qQ,qX];refine zaa t8 ?_ rfl hvq.closed;simp only[SS,reduceIte,qQ];refine zaa t9 ?_ (k2 hvp.closed hvq.closed) hvs.closed;simp only[SS,reduceIte,qQ];refine zaa t10 ?_ (k2 hv4.closed hvs.closed);simp only[SS,reduceIte,qK,qQ,qX];refine⟨rfl,?_⟩;simp only[r131_3,SS,reduceIte,qK,qQ,qX];refine zaa t3 ?_ rfl hv3.closed;simp only[SS,reduceIte,qQ];refine zaa t6 ?_;simp only[SS,reduceIte,qQ];refine zaa t6 ?_;simp only[SS,reduceIte,qQ];refine zaa t11 ?_ rfl hvr.closed;simp only[SS,reduceIte,qQ];refine zaa t12 ?_ (k2 hv3.closed hvr.closed) hvy.closed;simp only[SS,reduceIte,qQ];refine zaa t13 ?_ (k2 rfl hvy.closed);simp only[SS,reduceIte,qQ];refine⟨rfl,?_⟩;generalize 4*(zcq ds (i-1)*zcq ds (i+1)+l*l)=x;generalize 3*(zcq ds i*zcq ds i)=y
 have e:decide ((0:Int)<=if x<y then(-1:Int)else if x=y then 0 else 1)=decide (y<=x):=by
  rw[decide_eq_decide];split
  ·omega
  ·split<;>omega
 first | rw[e] | (simp only[ge_iff_le];rw[e])
 exact dR
def zrow(n:Nat):List Int:=List.replicate n 0
def zmat(N n:Nat):List (List Int):=List.replicate N (zrow n)
def zcs(n:Nat):List AV:=zeh n [.bool false,.vec [] 0 (some 0)]
theorem zrk:zag 0 (.agg [.bool false,.vec [] 0 (some 0)]):=⟨[],some 0,zbp.nil,by simp,rfl,rfl⟩
theorem zrl:∀n,RowC (zrow n) (zcs n):=by
 intro n
 induction n with
 |zero=>trivial
 |succ n ih=>exact⟨zrk,ih⟩
theorem zni{N n i:Nat}(h:i<N):(zmat N n).getD i []=zrow n:=by
 unfold zmat;rw[qJ,qR,if_pos h,Option.getD_some]
def zps(n i:Nat):List (Nat×Option Nat):=(List.range i).map λk=>(k+1,some n)
def zH(N n i:Nat):Heap:=some ((zps n i).map (zck n)++List.replicate (N-i) nilV)::List.replicate i (some (zcs n))
theorem ztq(n i:Nat):(zps n i).length=i:=by simp[zps]
theorem qyf{n i k:Nat}(h:k<i):(zps n i).getD k (0,none)=(k+1,some n):=by
 rw[qJ];simp[zps,h]
theorem jcv{N n i k:Nat}(h:k<i):getB (zH N n i) (k+1)=some (zcs n):=by
 unfold getB zH;rw[qA,qR,if_pos h]
theorem jcw(N n:Nat):MatH (zH N n N) 0 (zps n N) n (zmat N n):=by
 refine⟨?_,by rw[ztq];simp[zmat],λi hi=>?_,λi hi=>?_,?_⟩
 ·show some ((zps n N).map (zck n)++List.replicate (N-N) nilV)=_
  rw[yU,qU,qI]
 ·have hi:i<N:=by simpa[zmat]using hi
  rw[zni hi];simp[zrow]
 ·have hi:i<N:=by simpa[zmat]using hi
  rw[qyf hi,zni hi];exact⟨_,jcv hi,zrl n⟩
 ·rw[yG];have e:(zps n N).map (·.1)=(List.range N).map (· + 1):=by simp[zps]
  rw[e];refine⟨λh=>?_,?_⟩
  ·obtain⟨k,_,hk⟩:=List.mem_map.1 h;omega
  ·refine List.pairwise_iff_getElem.2 (λi j hi hj hij=>?_);rw[qS,qS,qN,qN];omega
theorem qks{N n:Nat}(hN:N<=16)(hn:n<=16):Rt 123 [.int .i64 (N:Nat),.int .i64 (n:Nat)] [] (.sl 0 0 N 1 (some N)) (zH N n N):=by
 refine oF o123 ?_;simp only[c123,r123_0,r123_1,SS,reduceCtorEq,reduceIte,qQ,qZ];refine⟨by omega,⟨by omega,by omega,by omega,by omega⟩,?_⟩;simp only[r123_2,SS,reduceIte,qQ];refine zaf (λk E H=>∃i,i+k=N/\H=zH N n i/\E 1= .int .i64 (n:Nat)/\E 5= .sl 0 0 N 1 (some N)/\E 10= .int .i64 (N:Nat)/\E 11= .int .i64 (i:Nat)) (n:=N) ⟨0,by omega,?_,?_,?_,?_,?_⟩ ?_
 ·simp[zH,zps]
 ·simp only[UU,qQ]
 ·simp only[UU,qQ,reduceIte]
 ·simp only[UU,qQ,reduceIte]
 ·simp only[UU,qQ,reduceIte];rfl
 rintro k E H ⟨i,hik,rfl,e1,e5,e10,e11⟩;refine wM ?_;simp only[l123_0,r123_3,SS,reduceCtorEq,reduceIte,e10,e11];refine⟨λhlt=>?_,λhge=>?_⟩
 ·obtain⟨k,rfl⟩:∃k',k=k'+1:=⟨k-1,by omega⟩
  have hi:i<N:=by omega
  have w5:=wS1 i (by omega);have hlen:(zH N n i).length=i+1:=by simp[zH]
  have h0:getB (zH N n i++[some (zeh n [AV.bool false,AV.vec [] 0 (some 0)])]) 0=some ((zps n i).map (zck n)++List.replicate (N-i) nilV):=rfl;have hl0:((zps n i).map (zck n)++List.replicate (N-i) nilV).length=N:=by simp[ztq];omega
  simp only[r123_4,r123_5,SS,reduceIte,qK,qQ,e1,e5,e11,qZ,hlen,h0,hl0];refine⟨by omega,⟨by omega,by omega,by omega,by omega⟩,⟨by omega,by omega⟩,by omega,?_⟩;simp only[r123_6,SS,reduceIte,qQ,e11,w5];refine⟨k,_,_,by omega,⟨i+1,by omega,?_,?_,?_,?_,?_⟩,.refl⟩
  ·have e:List.replicate (N-i) nilV=nilV::List.replicate (N-(i+1)) nilV:=by rw[<-xW];congr 1;omega
   have ez:zps n (i+1)=zps n i++[(i+1,some n)]:=by simp[zps,yJ]
   have hset:((zps n i).map (zck n)++List.replicate (N-i) nilV).set i (.sl (i+1) 0 n 2 (some n))=(zps n (i+1)).map (zck n)++List.replicate (N-(i+1)) nilV:=by
    rw[e,ez,yW _ _ (by simp[ztq])];simp[ztq,zck]
   show some (((zps n i).map (zck n)++List.replicate (N-i) nilV).set i (.sl (i+1) 0 n 2 (some n)))::(List.replicate i (some (zcs n))++[some (zcs n)])=zH N n (i+1)
   rw[hset,<-List.replicate_succ'];rfl
  all_goals simp only[UU,qQ,reduceIte, *]
 ·have:i=N:=by omega
  subst this;simp only[r123_7,SS,reduceIte,qQ,e5];exact kR
def i64z(r:List Int):List AV:=r.map λz=>AV.int .i64 z
theorem zbe(r:List Int):(i64z r).length=r.length:=by simp[i64z]
theorem zcf(r:List Int)(j:Nat)(h:j<r.length)(d:AV):(i64z r).getD j d= .int .i64 (r.getD j 0):=by simp[i64z,h]
def In64(z:Int):Prop:= -9223372036854775808<=z/\z<9223372036854775808
structure ImV(M:List (List Int))(a:AV):Prop where
 val:∃rows c,a= .vec rows M.length c/\rows.length=M.length/\∀i,i<M.length->∃c',rows.getD i .junk= .vec (i64z (M.getD i [])) (M.getD i []).length c'
 fit:∀i j,In64 (ent M i j)
theorem ImV.closed{M:List (List Int)}{a:AV}(h:ImV M a):a.closed=true:=by
 obtain⟨rows,c,rfl,_⟩:=h.val;rfl
theorem ztr{N n:Nat}{M M':List (List Int)}(h1:M.length=N)(h2:M'.length=N)(h3:∀i,i<N->(M.getD i []).length=n)(h4:∀i,i<N->(M'.getD i []).length=n)(h:∀i j,i<N->j<n->ent M i j=ent M' i j):M=M':=by
 refine xJ (h1.trans h2.symm) λi hi hi'=>?_
 have e1:M.getD i []=M[i]:=by rw[qJ,qV hi];rfl
 have e2:M'.getD i []=M'[i]:=by rw[qJ,qV hi'];rfl
 have l1:=h3 i (by omega);have l2:=h4 i (by omega);rw[e1]at l1;rw[e2]at l2;refine xJ (l1.trans l2.symm) λj hj hj'=>?_
 have:=h i j (by omega) (by omega);unfold ent at this;rw[e1,e2,qJ,qJ,qV hj,qV hj']at this;simpa using this
theorem zts{H:Heap}{o n:Nat}{ps:List (Nat×Option Nat)}{M:List (List Int)}(h:MatH H o ps n M):zwl H n ps M:=⟨h.len,λi hi=>⟨h.cols i hi,h.rows i hi⟩⟩
theorem zix{H:Heap}{o n:Nat}{ps:List (Nat×Option Nat)}{M:List (List Int)}{cap:Option Nat}{b:Bool}(h:MatH H o ps n M):∃v,AL.Fin 0 (.tup [.sl o 0 M.length 1 cap,.bool b]) H v []/\v.wk= .tup [matC M,.bool b]:=by
 obtain⟨vs,h1,h2,h3⟩:=zto (zts h);have hl:=h.len;refine⟨.tup [.vec vs M.length cap,.bool b],.freeze 4 _ _ _ ?_ (by intro i cs h;omega),?_⟩
 ·have e:frzI 0 H 3 (.sl o 0 M.length 1 cap)=some (.vec vs M.length cap):=by
   rw[frzI];simp only[yZ,if_false,h.outer,need,xT,xN,yK,hl,qH,if_true,xG];rw[qE (by simp[hl]),h1];rfl
  rw[frzI];simp only[xU,List.mapM_nil,e];rfl
 ·have:=zzs (M:=M) (a:= .vec vs M.length cap) ⟨vs,cap,rfl,h2,h3⟩;simp only[AV.wk,AV.wk.wkL]at this ⊢;rw[this]
theorem zko(N n i j:Nat):ent (zmat N n) i j=0:=by
 have hz:∀j,(zrow n).getD j 0=0:=by
  intro j;rw[qJ];unfold zrow;rw[qR];split<;>rfl
 unfold ent;rcases xZ i N with h | h
 ·rw[zni h];exact hz j
 ·have e:(zmat N n).getD i []=[]:=by rw[qJ,List.getElem?_eq_none (by rw[zmat,List.length_replicate];exact h)];rfl
  rw[e];rfl
theorem ziy(N n:Nat):(zmat N n).length=N/\∀i,i<N->((zmat N n).getD i []).length=n:=⟨by simp[zmat],λi hi=>by rw[zni hi];simp[zrow]⟩
theorem zhb{M:List (List Int)}{i j:Nat}{z:Int}(hi:i<M.length)(hj:j<(M.getD i []).length)(s t:Nat):ent (setM M i j z) s t=if s=i/\t=j then z else ent M s t:=by
 have key:∀{α:Type} {l:List α} {i j:Nat} {x d:α},i<l.length->(l.set i x).getD j d=if j=i then x else l.getD j d:=by
  intro α l i j x d h;rw[qJ,yA,qJ];by_cases e:i=j
  ·subst e;rw[if_pos rfl,if_pos h,if_pos rfl];rfl
  ·rw[if_neg e,if_neg (Ne.symm e)]
 unfold ent setM;rw[key hi];by_cases h1:s=i
 ·subst h1;rw[if_pos rfl,key hj];by_cases h2:t=j
  ·rw[if_pos h2,if_pos ⟨rfl,h2⟩]
  ·rw[if_neg h2,if_neg (λe=>h2 e.2)]
 ·rw[if_neg h1,if_neg (λe=>h1 e.1)]
theorem zrm(H:Heap)(N n:Nat):MatH (H++(zH N n N).map (renB (zan [] H.length))) H.length ((zps n N).map λp=>(H.length+p.1,p.2)) n (zmat N n):=zkn (jcw N n)
theorem qrj{M:List (List Int)}{rows:List AV}{c cap:Option Nat}{n:Nat}(hn:n<=16)(hN:M.length<=16)(hl:rows.length=M.length)(hr:∀i,i<M.length->∃c',rows.getD i .junk= .vec (i64z (M.getD i [])) (M.getD i []).length c')(hc:∀i,i<M.length->(M.getD i []).length=n)(hf:∀i j,In64 (ent M i j))
  {i:Nat} (hi:i<M.length) {v49 v50:AV} {Q:Post} {ps:List (Nat×Option Nat)} {X0:List (List Int)} (hX0:X0.length=M.length)
  {E:Env} {H:Heap} (hM:MatH H 0 ps n X0) (e0:E 0= .vec rows M.length c) (e6:E 6= .sl 0 0 M.length 1 cap) (e7:E 7= .int .i64 (i:Nat)) (e49:E 49=v49) (e50:E 50=v50) (e57:E 57= .int .i64 (n:Nat)) (e58:E 58= .int .i64 0)
  (hQ:∀E' H' X,MatH H' 0 ps n X->X.length=M.length->(∀s t,ent X s t=if s=i/\t<n then ent M s t else ent X0 s t)->E' 0= .vec rows M.length c->E' 6= .sl 0 0 M.length 1 cap->E' 49=v49->E' 50=v50->Q (.exit 4) E' H'):
  Wg 0 78 (.loop l64_2) E H Q:=by
 refine zaf (λk E H=>∃j X,j+k=n/\MatH H 0 ps n X/\X.length=M.length/\(∀s t,ent X s t=if s=i/\t<j then ent M s t else ent X0 s t)/\E 0= .vec rows M.length c/\E 6= .sl 0 0 M.length 1 cap/\E 7= .int .i64 (i:Nat)/\E 49=v49/\E 50=v50/\
  E 57= .int .i64 (n:Nat)/\E 58= .int .i64 (j:Nat)) (n:=n) ⟨0,X0,by omega,hM,hX0,λs t=>by rw[if_neg (by omega)],e0,e6,e7,e49,e50,e57,e58⟩ ?_
 rintro k E H ⟨j,X,hjk,hM,hXl,hX,e0,e6,e7,e49,e50,e57,e58⟩;refine wM ?_;simp only[l64_2,r64_14,SS,reduceIte,e57,e58];refine⟨λhlt=>?_,λhge=>?_⟩
 ·obtain⟨k,rfl⟩:∃k',k=k'+1:=⟨k-1,by omega⟩
  have hj:j<n:=by omega
  obtain⟨ci,hci⟩:=hr i hi;have hrl:=hc i hi;have gz:=zcf (M.getD i []) j (by omega) .junk;obtain⟨csk,gk,lk,rk,fk⟩:=zdw hM (i:=i) (by omega);have ok:=zbv (ps:=ps) (n:=n) (i:=i) (by rw[hM.len];omega);have hol:(ps.map (zck n)).length=M.length:=by rw[yK,hM.len];exact hXl
  have hou:=hM.outer;obtain⟨z1,z2⟩:=hf i j;obtain⟨v,hv,ts⟩:=zfb (ent M i j) (by omega) (by omega);have hv0:=hv;obtain⟨lv,cv,_,_,_,rfl⟩:=hv0;have hset:=zhz hM (i:=i) (j:=j) (by omega) hj hv gk;have w5:=wS1 j (by omega);have hent:(M.getD i []).getD j 0=ent M i j:=rfl;simp only[r64_15,r64_16,SS,fC,reduceCtorEq,reduceIte,qQ,e0,e6,e7,e58,qZ,hou,hol,ok,hci,hl,gz,hent,zbe,hrl];refine⟨⟨by omega,by omega⟩,by omega,⟨by omega,by omega⟩,by omega,⟨by omega,by omega⟩,by omega,?_⟩;refine zaa ts ?_;simp only[SS,reduceIte,qK,qQ,gk,lk,qZ];refine⟨⟨by omega,by omega⟩,by omega,rfl,?_⟩;simp only[r64_17,SS,reduceIte,qQ,e58,w5];refine⟨k,_,_,by omega,⟨j+1,setM X i j (ent M i j),by omega,hset,by rw[zcu];exact hXl,?_,?_,?_,?_,?_,?_,?_,?_⟩,.refl⟩
  ·intro s t;rw[zhb (by omega) (by rw[hM.cols i (by omega)];exact hj),hX];by_cases h1:s=i/\t=j
   ·rw[if_pos h1,if_pos ⟨h1.1,by omega⟩,h1.1,h1.2]
   ·rw[if_neg h1];by_cases h2:s=i/\t<j
    ·rw[if_pos h2,if_pos ⟨h2.1,by omega⟩]
    ·rw[if_neg h2,if_neg (by omega)]
  all_goals simp only[UU,qQ,reduceIte, *]
 ·have hjn:j=n:=by omega
  subst hjn;exact hQ _ _ X hM hXl hX (by simp only[UU,qQ,e0]) (by simp only[UU,qQ,e6]) (by simp only[UU,qQ,e49]) (by simp only[UU,qQ,e50])
theorem qkt{M:List (List Int)}{rows:List AV}{c cap:Option Nat}{n:Nat}(hn:n<=16)(hN:M.length<=16)(hl:rows.length=M.length)(hr:∀i,i<M.length->∃c',rows.getD i .junk= .vec (i64z (M.getD i [])) (M.getD i []).length c')(hc:∀i,i<M.length->(M.getD i []).length=n)(hf:∀i j,In64 (ent M i j))
  {Q:Post} {ps:List (Nat×Option Nat)} {E:Env} {H:Heap} (hM:MatH H 0 ps n (zmat M.length n)) (e0:E 0= .vec rows M.length c) (e6:E 6= .sl 0 0 M.length 1 cap) (e49:E 49= .int .i64 (M.length:Nat)) (e50:E 50= .int .i64 0)
  (hQ:∀E' H',MatH H' 0 ps n M->E' 6= .sl 0 0 M.length 1 cap->Q (.exit 2) E' H'):
  Wg 0 78 (.loop l64_1) E H Q:=by
 refine zaf (λk E H=>∃i X,i+k=M.length/\MatH H 0 ps n X/\X.length=M.length/\(∀s t,ent X s t=if s<i/\t<n then ent M s t else 0)/\E 0= .vec rows M.length c/\E 6= .sl 0 0 M.length 1 cap/\E 49= .int .i64 (M.length:Nat)/\E 50= .int .i64 (i:Nat)) (n:=M.length) ⟨0,zmat M.length n,by omega,hM,(ziy _ _).1,λs t=>by rw[if_neg (by omega),zko],e0,e6,e49,e50⟩ ?_;rintro k E H ⟨i,X,hik,hM,hXl,hX,e0,e6,e49,e50⟩;refine wM ?_;simp only[l64_1,r64_11,SS,reduceIte,e49,e50];refine⟨λhlt=>?_,λhge=>?_⟩
 ·obtain⟨k,rfl⟩:∃k',k=k'+1:=⟨k-1,by omega⟩
  have hi:i<M.length:=by omega
  obtain⟨ci,hci⟩:=hr i hi;have hrl:=hc i hi;have w5:=wS1 i (by omega);simp only[r64_12,r64_13,SS,fC,reduceCtorEq,reduceIte,qQ,e0,e50,qZ,hci,hl,hrl];refine⟨⟨by omega,by omega⟩,by omega,?_⟩;refine qrj hn hN hl hr hc hf hi (c:=c) (cap:=cap) hXl hM (by simp only[UU,qQ,e0]) (by simp only[UU,qQ,e6]) (by simp only[UU,qQ,reduceIte]) (by simp only[UU,qQ];exact e49) (by simp only[UU,qQ];exact e50) (by simp only[UU,qQ,reduceIte]) (by simp only[UU,qQ,reduceIte]) ?_;intro E' H' X' hM' hXl' hX' f0 f6 f49 f50;simp only[SS,reduceIte,qQ,r64_18,f50,w5];refine⟨k,_,_,by omega,⟨i+1,X',by omega,hM',hXl',?_,?_,?_,?_,?_⟩,.refl⟩
  ·intro s t;rw[hX',hX];by_cases h1:s=i/\t<n
   ·rw[if_pos h1,if_pos ⟨by omega,h1.2⟩]
   ·rw[if_neg h1];by_cases h2:s<i/\t<n
    ·rw[if_pos h2,if_pos ⟨by omega,h2.2⟩]
    ·rw[if_neg h2,if_neg (by omega)]
  all_goals simp only[UU,qQ,reduceIte, *]
 ·have hiN:i=M.length:=by omega
  subst hiN
  have e:X=M:=by
   refine ztr hXl rfl (λs hs=>hM.cols s (by omega)) hc λs t hs ht=>?_
   rw[hX,if_pos ⟨hs,ht⟩]
  exact hQ _ _ (e ▸ hM) (by simp only[UU,qQ,e6])
theorem zpe{M:List (List Int)}{a:AV}{n:Nat}(h:ImV M a)(hn:1<=n/\n<=16)(hN:1<=M.length/\M.length<=16)(hc:∀i,i<M.length->(M.getD i []).length=n):
  Rt 64 [a] [] (.tup [matC M,.bool true]) []:=by
 have hf:=h.fit;obtain⟨rows,c,rfl,hl,hr⟩:=h.val;refine oFw o64 ?_;simp only[c64,r64_0,r64_1,SS,fC,reduceCtorEq,reduceIte,qQ];refine⟨λ_=>⟨λh=>absurd h (by omega),λ_=>?_⟩,λh=>absurd h (by omega)⟩;simp only[r64_3,SS,reduceCtorEq,reduceIte,qQ];refine zaf (λk E H=>∃i,i+k=M.length/\H=[]/\E 0= .vec rows M.length c/\E 17= .vec rows M.length c/\E 18= .int .i64 (M.length:Nat)/\E 19= .int .i64 (i:Nat)) (n:=M.length) ⟨0,by omega,rfl,by simp only[UU,qQ],by simp only[UU,qQ,reduceIte],by simp only[UU,qQ,reduceIte],by simp only[UU,qQ,reduceIte];rfl⟩ ?_;rintro k E H ⟨i,hik,rfl,e0,e17,e18,e19⟩;obtain⟨c0,hc0⟩:=hr 0 (by omega);have hrl0:=hc 0 (by omega);refine wM ?_;simp only[l64_0,r64_4,SS,reduceCtorEq,reduceIte,e18,e19];refine⟨λhlt=>?_,λhge=>?_⟩
 ·obtain⟨k,rfl⟩:∃k',k=k'+1:=⟨k-1,by omega⟩
  have hi:i<M.length:=by omega
  obtain⟨ci,hci⟩:=hr i hi;have hrl:=hc i hi;have w5:=wS1 i (by omega);simp only[r64_5,r64_6,SS,fC,reduceCtorEq,reduceIte,qQ,e0,e17,e19,qZ,hci,hl,hrl,hc0,hrl0,xH];refine⟨⟨by omega,by omega⟩,by omega,λ_=>⟨λ_=>⟨⟨by omega,by omega⟩,by omega,?_⟩,λh=>absurd h (by omega)⟩,λh=>absurd h (by omega)⟩;refine⟨λh=>absurd rfl h,λ_=>?_⟩;simp only[r64_8,SS,reduceIte,qQ,e19,w5];refine⟨k,_,_,by omega,⟨i+1,by omega,rfl,?_,?_,?_,?_⟩,.refl⟩
  all_goals simp only[UU,qQ,reduceIte, *]
 ·have hiN:i=M.length:=by omega
  subst hiN;simp only[r64_9,SS,fC,reduceCtorEq,reduceIte,qQ,e0,hc0,hl,hrl0,xH];refine⟨⟨by omega,by omega⟩,by omega,?_⟩;refine zdz (qks hN.2 hn.2) rfl ?_;have hz:MatH ((zH M.length n M.length).map (renB (zan [] 0))) 0 ((zps n M.length).map λp=>(0+p.1,p.2)) n (zmat M.length n):=zrm [] M.length n;simp only[zay,SS,reduceIte,qQ,AV.ren,zcb,qO]
  have hH1:zad (effs (zan [] 0) 0 (zH M.length n M.length)) (List.replicate (zH M.length n M.length).length none)=(zH M.length n M.length).map (renB (zan [] 0)):=
   zgz (H:=[]) (zan [] 0) (λi=>zcb 0 i) (zH M.length n M.length) []
  simp only[hH1];generalize (zH M.length n M.length).map (renB (zan [] 0))=H1 at*;simp only[SS,reduceCtorEq,reduceIte,qQ,r64_10,e0];refine qkt (c:=c) (cap:=some M.length) hn.2 hN.2 hl hr hc hf hz (by simp only[UU,qQ,e0]) (by simp only[UU,qQ,reduceIte]) (by simp only[UU,qQ,reduceIte]) (by simp only[UU,qQ,reduceIte]) ?_;intro E' H' hM' f6;simp only[SS,reduceCtorEq,reduceIte,r64_19,f6];obtain⟨v,g1,g2⟩:=zix (cap:=some M.length) (b:=true) hM';exact⟨.inl trivial,_,v,rfl,g1,g2⟩
theorem mOf{M:List (List Int)}{a:AV}{n:Nat}(h:ImV M a)(hn:1<=n/\n<=16)(hN:1<=M.length/\M.length<=16)(hc:∀i,i<M.length->(M.getD i []).length=n):
  Rt 24 [a] [] (matC M) []:=by
 have ts:=zpe h hn hN hc;obtain⟨rows,c,rfl,hl,hr⟩:=h.val;refine oF o24 ?_;simp only[c24,r24_0,r24_1,SS,reduceCtorEq,reduceIte];refine zaa ts ?_;simp only[SS,reduceIte,qQ,r24_2,qD,qA];exact kR
end Go.Proofs.YtpflahgcdgdkjaaGreatDoor
namespace Go.Limb
open Nat renaming mod_lt -> qG, mul_assoc -> qM, pow_lt_pow_right -> xQ, div_div_eq_div_mul -> xA, pow_add -> xD, pow_succ -> xE, mul_comm -> yQ, mod_mul_right_mod -> yV, add_mul -> yE
def dblL:List Nat->Nat->List Nat
 | [],b=>[b]
 |x::r,b=>(2*x%4294967296+b)::dblL r (x/2147483648)
theorem qbz:∀(l:List Nat) (b:Nat),(dblL l b).length=l.length+1:=by
 intro l
 induction l with
 |nil=>intro b;rfl
 |cons x r ih=>intro b;simp[dblL,ih]
theorem qrk:∀(l:List Nat) (b:Nat),val (dblL l b)=2*val l+b:=by
 intro l
 induction l with
 |nil=>intro b;simp[dblL,val]
 |cons x r ih=>
  intro b;simp only[dblL,val,ih];omega
theorem qrl:∀(l:List Nat) (b:Nat),Dig l->b<=1->Dig (dblL l b):=by
 intro l
 induction l with
 |nil=>intro b _ hb;exact Dig.cons (by omega) Dig.nil
 |cons x r ih=>
  intro b h hb;have hx:=h.head;exact Dig.cons (by omega) (ih _ h.tail (by omega))
theorem zwo:∀(l:List Nat) (w:Nat),Dig l->l.getD w 0=val l/4294967296^w%4294967296:=by
 intro l
 induction l with
 |nil=>intro w _;simp[val]
 |cons x r ih=>
  intro w h;have hx:=h.head;cases w with
  |zero=>simp only[val,List.getD_cons_zero,Nat.pow_zero,Nat.div_one];omega
  |succ w=>
   rw[List.getD_cons_succ,ih w h.tail,val,xE,yQ (4294967296^w),<-xA];congr 2;omega
theorem qyg(l:List Nat)(i:Nat)(h:Dig l):l.getD (i/32) 0/2^(i%32)%2=val l/2^i%2:=by
 rw[zwo l _ h];have e:4294967296^(i/32)=2^(32*(i/32)):=by rw[Nat.pow_mul]
 have hi:i=32*(i/32)+i%32:=by omega
 have e2:val l/2^i=val l/2^(32*(i/32))/2^(i%32):=by
  rw[xA,<-xD,<-hi]
 rw[e,e2];generalize val l/2^(32*(i/32))=x;have hs:i%32<32:=qG _ (by decide);generalize i%32=s at hs
 have e3:(4294967296:Nat)=2^s*(2*2^(31-s)):=by
  rw[<-Nat.pow_succ',<-xD];have:s+(31-s+1)=32:=by omega
  rw[this]
 rw[e3,Nat.mod_mul_right_div_self,yV]
theorem qca{V n Q r b:Nat}(hb:b<2)(hV:V/2=Q*n+r)(hr:r<n)(hbit:V%2=b):
  (2*r+b<n->V=2*Q*n+(2*r+b))/\(n<=2*r+b->V=(2*Q+1)*n+(2*r+b-n)/\2*r+b-n<n):=by
 have hV2:V=2*(V/2)+V%2:=by omega
 have e1:2*Q*n=2*(Q*n):=qM _ _ _;have e2:(2*Q+1)*n=2*(Q*n)+n:=by rw[yE,qM,Nat.one_mul]
 constructor
 ·intro _;omega
 ·intro h;omega
theorem qku{a s:Nat}(h:a%2^(s+1)=0):a ||| 2^s=a+2^s:=by
 have e:a=2^(s+1)*(a/2^(s+1)):=by
  have:=Nat.div_add_mod a (2^(s+1));omega
 have hlt:2^s<2^(s+1):=xQ (by decide) (by omega);have:=Nat.two_pow_add_eq_or_of_lt hlt (a/2^(s+1));rw[<-e]at this;exact this.symm
end Go.Limb
namespace Go.Proofs.YtpflahgcdgdkjaaGreatDoor
open Nat renaming reduceEqDiff -> qQ, reduceLeDiff -> qX, reduceAdd -> qK, mod_lt -> qG, le_refl -> qH, mul_assoc -> qM, add_zero -> qO, pow_le_pow_right -> qP, mul_add -> qT, lt_or_ge -> xZ, mod_eq_of_lt -> xK, mul_zero -> xB, pow_add -> xD, pow_succ -> xE, mul_one -> xN, zero_add -> xT, sub_self -> yU, or_lt_two_pow -> yB, add_mul -> yE, mod_add_div -> yH
open Int renaming toNat_natCast -> qZ, fdiv_eq_ediv_of_nonneg -> xX, natCast_add -> xV, toNat_zero -> xH, natCast_mul -> yI
open List renaming getD_eq_getElem?_getD -> qJ, getElem?_eq_getElem -> qV, replicate_zero -> qU, getElem?_cons_succ -> qA, length_set -> qC, getElem?_cons_zero -> qD, take_of_length_le -> qE, append_nil -> qI, getElem_range -> qN, getElem?_replicate -> qR, getElem_map -> qS, ext_getElem -> xJ, replicate_succ -> xW, take_length -> xC, drop_zero -> xG, getElem?_append_left -> xL, range_succ -> yJ, length_map -> yK, set_append_right -> yW, getElem?_set -> yA, nodup_cons -> yG
open Go.AL.AV.closed renaming closedL -> qW
open Bool renaming and_self -> qB
open Option.some renaming injEq -> xO
open Go Go.AL Go.Proofs Go.Limb
theorem or32{a b:Nat}(ha:a<4294967296)(hb:b<4294967296):IntKind.u32.wrap (((BitVec.ofInt IntKind.u32.bits (a:Int) ||| BitVec.ofInt IntKind.u32.bits (b:Int)).toNat:Nat):Int)=((a ||| b:Nat):Int):=by
 have h:(BitVec.ofInt IntKind.u32.bits (a:Int) ||| BitVec.ofInt IntKind.u32.bits (b:Int)).toNat=a ||| b:=by
  show(BitVec.ofInt 32 (a:Int) ||| BitVec.ofInt 32 (b:Int)).toNat=a ||| b
  rw[BitVec.toNat_or,BitVec.ofInt_natCast,BitVec.ofInt_natCast,BitVec.toNat_ofNat,BitVec.toNat_ofNat,xK ha,xK hb]
 rw[h];exact zzj (yB (n:=32) ha hb)
theorem shl1(x:Nat):IntKind.u32.wrap ((x:Int)*2^min (Int.toNat 1) IntKind.u32.bits)=((2*x%4294967296:Nat):Int):=by
 have e:(2:Int)^min (Int.toNat 1) IntKind.u32.bits=2:=rfl;rw[e,show(x:Int)*2=((2*x:Nat):Int) by omega,wu32]
theorem jfg(x:Nat):Int.fdiv (x:Int) (2^min (Int.toNat 31) IntKind.u32.bits)=((x/2147483648:Nat):Int):=by
 have e:(2:Int)^min (Int.toNat 31) IntKind.u32.bits=((2147483648:Nat):Int):=rfl;rw[e,xX _ (by omega)];rfl
theorem jcx{x b:Nat}(hb:b<=1):2*x%4294967296 ||| b=2*x%4294967296+b:=by
 rcases xZ b 1 with h | h
 ·obtain rfl:b=0:=by omega
  rw[Nat.or_zero];omega
 ·obtain rfl:b=1:=by omega
  exact qku (s:=0) (by omega)
theorem qyh(m:List Nat)(c:Option Nat)(b:Nat)(dm:Dig m)(hb:b<=1)(hm:m.length<1048576):∃c',Rt 214 [.vec (u32s m) m.length c,.int .u32 (b:Nat)] [] (.vec (u32s (dblL m b)) (dblL m b).length c') []:=by
 refine⟨none,?_⟩;refine oF o214 ?_;generalize hfin:dblL m b=fin;have hfl:fin.length=m.length+1:=by rw[<-hfin,qbz]
 simp only[c214,r214_0,r214_1,r214_2,SS,reduceCtorEq,reduceIte]
 refine zaf (λk E H=>∃i b out a,k+i=m.length/\out.length=i/\b<=1/\out++dblL (m.drop i) b=fin/\E 1= .int .u32 (b:Nat)/\E 5=a/\E 8= .vec (u32s m) m.length c/\E 9= .int .i64 (m.length:Nat)/\E 10= .int .i64 (i:Nat)/\zzl [] 1 i (u32s out) a H) (n:=m.length)
  ⟨0,b,[],_,by omega,rfl,hb,by simpa using hfin,?_,rfl,?_,?_,?_,.inl ⟨rfl,rfl,?_,0,rfl⟩⟩ ?_
 ·simp only[UU,qQ]
 ·simp only[UU,qQ,reduceIte]
 ·simp only[UU,qQ,reduceIte]
 ·simp only[UU,qQ,reduceIte];rfl
 ·simp only[UU,qQ,reduceIte]
 rintro k E H ⟨i,b,out,a,hki,hol,hb,hf,h1,h5,h8,h9,h10,hO⟩;refine wM ?_;simp only[l214_0,r214_3,SS,reduceCtorEq,reduceIte,h9,h10];refine⟨λhlt=>?_,λhge=>?_⟩
 ·obtain⟨k,rfl⟩:∃k',k=k'+1:=⟨k-1,by omega⟩
  have hi:i<m.length:=by omega
  have bm:=dm.getD i;have g:=zbc m i hi AV.junk
  have hd:m.drop i=m.getD i 0::m.drop (i+1):=by
   rw[List.drop_eq_getElem_cons hi,qJ,qV hi];rfl
  obtain⟨e,rd,H4,H5,hap,hH4,hg,hw,hO'⟩:=zov (bytes:=4) (xs:=[.int .u32 ((2*m.getD i 0%4294967296+b:Nat):Int)]) hO rfl rfl (by omega) (by omega);have w5:=wS1 i (by omega);have b2:2*m.getD i 0%4294967296<4294967296:=qG _ (by omega);have wo:=or32 b2 (show b<4294967296 by omega);rw[jcx hb]at wo;have e1:u32s out++[.int .u32 ((2*m.getD i 0%4294967296+b:Nat):Int)]=u32s (out++[2*m.getD i 0%4294967296+b]):=by simp[u32s]
  rw[e1]at hO';rw[hd,dblL]at hf;simp only[r214_4,r214_5,SS,fC,reduceIte,qQ,qX,h1,h5,h8,h10,qZ,g,zap,shl1,wo,zdi,hap];refine⟨⟨by omega,by omega⟩,by omega,by omega,?_⟩;simp only[r214_6,r214_7,SS,reduceIte,qQ,h10,w5,jfg];rw[hH4];refine⟨by omega,k,_,H5,by omega,⟨i+1,m.getD i 0/2147483648,out++[2*m.getD i 0%4294967296+b],.sl (H.length+1) 0 (i+1) 1 none,by omega,by simp[hol],by omega,by rw[List.append_assoc];exact hf,?_,rfl,?_,?_,?_,?_⟩,hw _ _ _ (by simp)⟩
  ·simp only[UU,qQ,reduceIte]
  all_goals first | exact hO' | simp only[UU,qQ,reduceIte, *]
 ·have hi:i=m.length:=by omega
  subst hi;rw[List.drop_length,dblL]at hf;obtain⟨e,rd,H4,H5,hap,hH4,hg,hw,hO'⟩:=zov (bytes:=4) (xs:=[.int .u32 (b:Nat)]) hO rfl rfl (by omega) (by omega);simp only[r214_8,SS,reduceIte,qQ,qX,h1,h5,zdi,hap];refine⟨.inl trivial,_,rfl,?_⟩;have e1:u32s out++[.int .u32 (b:Nat)]=u32s fin:=by rw[<-hf];simp[u32s]
  rw[e1]at hg;rw[hfl];refine zot ?_ hfl.symm;rw[hH4];exact hg
theorem qkv{id k i:Nat}:zan [id] k (i+1)=k+i:=by simp[zan]
theorem zrn{id k:Nat}:zan [id] k 0=id:=by simp[zan]
theorem zgk{f:FuncId}{args args0:List AV}{id:Nat}{cs cs':List AV}{v:AV}{H L:Heap}{K:AV->Eff->List Nat->Nat->Prop}(h:Rt f args0 [some cs] v (some cs'::L))(hid:getB H id=some cs)
  (hargs:args=args0.map (AV.ren (zan [id] H.length))) (hu:AV.under.underL 1 args0=true) (hcs:qW cs=true) (hcs':qW cs'=true)
  (hk:K (v.ren (zan [id] H.length)) ((id,some cs')::effs (zan [id] H.length) 1 L) [id] L.length):zls Tryz.prog G f args H K:=by
 have hlt:=zal hid;have hid2:H[id]?=some (some cs):=zce hid
 have:=CallR0.mk (P:= Tryz.prog) (Γ:=G) (f:=f) (args:=args) (k:=H.length) (H:=H++List.replicate L.length none) [id] args0 [some cs] v (some cs'::L) h rfl (by simp) (by simpa using hlt) hargs hu (by
  intro i c hi;cases i with
  |zero=>
   simp at hi;subst hi;refine⟨cs,rfl,zbg _ _ hcs,?_⟩;rw[zrn,xL hlt,hid2];simp only[renB];rw[zaw _ _ hcs]
  |succ i=>simp at hi)
 refine⟨_,_,_,_,.base this,?_⟩
 have e:effs (zan [id] H.length) 0 (some cs'::L)=(id,some cs')::effs (zan [id] H.length) 1 L:=by
  simp only[effs,zrn,renB];rw[zaw _ _ hcs']
 rw[e];simpa using hk
theorem zeq{f:FuncId}{args args0:List AV}{id:Nat}{cs cs':List AV}{v:AV}{H:Heap}{K:AV->Eff->List Nat->Nat->Prop}(h:Rt f args0 [some cs] v [some cs'])(hid:getB H id=some cs)
  (hargs:args=args0.map (AV.ren (zan [id] H.length))) (hk:K v [(id,some cs')] [id] 0) (hu:AV.under.underL 1 args0=true:=by rfl) (hcs:qW cs=true:=by rfl) (hcs':qW cs'=true:=by rfl) (hv:v.closed=true:=by rfl):zls Tryz.prog G f args H K:=by
 refine zgk h hid hargs hu hcs hcs' ?_;rw[zef _ _ hv];exact hk
theorem qyi{M:List (List Int)}{a:AV}{i j:Nat}(hV:ImV M a)(hi:i<M.length)(hj:j<(M.getD i []).length):∃v,zag (ent M i j) v/\Rt 155 [.int .i64 (i:Int),.int .i64 (j:Int),.ptr 0 0] [some [a]] v [some [a]]:=by
 obtain⟨v,iv,t1⟩:=zrf (ent M i j) (hV.fit i j).1 (hV.fit i j).2;obtain⟨_,_,rfl⟩:=iv.shape;refine⟨_,iv,?_⟩;obtain⟨rows,c,rfl,hl,hr⟩:=hV.val;obtain⟨c',e⟩:=hr i hi;have g:(i64z (M.getD i [])).getD j .junk= .int .i64 (ent M i j):=zcf (M.getD i []) j hj .junk;have hil:=zbe (M.getD i []);refine oF o155 ?_;simp only[c155,r155_0,r155_1,SS,fC,reduceCtorEq,reduceIte,qQ,qX,qZ,hl,e,g];refine⟨⟨by omega,by omega⟩,by omega,⟨by omega,by omega⟩,by omega,?_⟩;refine zaa t1 ?_;simp only[SS,reduceIte,qK,qQ,qX]
 exact⟨.inl trivial,_,rfl,.drop _ _ rfl (by
  intro i cs hi hc;obtain rfl:i=0:=by omega
  cases hc;rfl)⟩
def ps2(n i:Nat):List (Nat×Option Nat):=(List.range i).map λk=>(k+2,some n)
theorem zmb(n i:Nat):(ps2 n i).length=i:=by simp[ps2]
theorem qyj{n i k:Nat}(h:k<i):(ps2 n i).getD k (0,none)=(k+2,some n):=by
 rw[qJ];simp[ps2,h]
theorem qrm(n i:Nat):ps2 n (i+1)=ps2 n i++[(i+2,some n)]:=by simp[ps2,yJ]
def out2(N n i:Nat):List AV:=(ps2 n i).map (zck n)++List.replicate (N-i) nilV
theorem znj{N n i:Nat}(h:i<=N):(out2 N n i).length=N:=by simp[out2,zmb];omega
theorem qrn{N n i:Nat}(h:i<N):(out2 N n i).set i (.sl (i+2) 0 n 2 (some n))=out2 N n (i+1):=by
 unfold out2;rw[show List.replicate (N-i) nilV=nilV::List.replicate (N-(i+1)) nilV by rw[<-xW];congr 1;omega,qrm,yW _ _ (by simp[zmb])];simp[zmb,zck]
theorem qcb{N n i k:Nat}(h:k<i):(out2 N n i).getD k .junk= .sl (k+2) 0 n 2 (some n):=by
 unfold out2;rw[qJ,xL (by simp[zmb];exact h)];simp[ps2,zck,h]
structure BP(N n i:Nat)(M:List (List Int))(x:List AV)(H:Heap):Prop where
 len:H.length=i+2
 h0:getB H 0=some x
 h1:getB H 1=some (out2 N n i)
 rows:∀k,k<i->∃cs,getB H (k+2)=some cs/\RowC (M.getD k []) cs
theorem BP.mat{N n:Nat}{M:List (List Int)}{x:List AV}{H:Heap}(h:BP N n N M x H)(hM:M.length=N)(hc:∀i,i<N->(M.getD i []).length=n):MatH H 1 (ps2 n N) n M:=by
 refine⟨?_,by rw[zmb,hM],λi hi=>hc i (by omega),λi hi=>?_,?_⟩
 ·rw[h.h1];unfold out2;rw[yU,qU,qI]
 ·rw[qyj (by omega)];exact h.rows i (by omega)
 ·have e:(ps2 n N).map (·.1)=(List.range N).map (· + 2):=by simp[ps2]
  rw[e,yG];refine⟨λh=>?_,?_⟩
  ·obtain⟨k,_,hk⟩:=List.mem_map.1 h;omega
  ·refine List.pairwise_iff_getElem.2 (λi j hi hj hij=>?_);rw[qS,qS,qN,qN];omega
def rowW(M:List (List Int))(n i j:Nat):List Int:=(List.range n).map λt=>if t<j then ent M i t else 0
theorem zkp(M:List (List Int))(n i j:Nat):(rowW M n i j).length=n:=by simp[rowW]
theorem qkw(M:List (List Int))(n i:Nat):rowW M n i 0=zrow n:=by
 unfold rowW zrow;refine xJ (by simp) λt h1 h2=>?_
 simp
theorem qro(M:List (List Int)){n i j:Nat}(hj:j<n):(rowW M n i j).set j (ent M i j)=rowW M n i (j+1):=by
 refine xJ (by simp[rowW]) λt h1 h2=>?_
 rw[List.getElem_set];simp only[rowW,qS,qN];by_cases e:j=t
 ·subst e;rw[if_pos rfl,if_pos (by omega)]
 ·rw[if_neg e];by_cases h:t<j
  ·rw[if_pos h,if_pos (by omega)]
  ·rw[if_neg h,if_neg (by omega)]
theorem qrp{M:List (List Int)}{n i:Nat}(h:(M.getD i []).length=n):rowW M n i n=M.getD i []:=by
 refine xJ (by rw[zkp,h]) λt h1 h2=>?_
 simp only[rowW,qS,qN];rw[if_pos (by rw[zkp]at h1;exact h1)];unfold ent;rw[qJ,qV h2];rfl
structure BR(N n i j:Nat)(M:List (List Int))(x:List AV)(H:Heap):Prop where
 len:H.length=i+3
 h0:getB H 0=some x
 h1:getB H 1=some (out2 N n (i+1))
 rows:∀k,k<i->∃cs,getB H (k+2)=some cs/\RowC (M.getD k []) cs
 row:∃cs,getB H (i+2)=some cs/\RowC (rowW M n i j) cs
theorem BP.row{N n i:Nat}{M:List (List Int)}{x:List AV}{H:Heap}(h:BP N n i M x H)(hi:i<N):BR N n i 0 M x ((H++[some (zcs n)]).set 1 (some ((out2 N n i).set i (.sl H.length 0 n 2 (some n))))):=by
 have hl:=h.len;refine⟨by simp[hl],by rw[zah (by decide),zca (by omega)];exact h.h0,?_,λk hk=>?_,zcs n,?_,by rw[qkw];exact zrl n⟩
 ·rw[zbd (by simp[hl]),hl,qrn hi]
 ·obtain⟨cs,g,r⟩:=h.rows k hk;exact⟨cs,by rw[zah (by omega),zca (by omega)];exact g,r⟩
 ·rw[zah (by omega),<-hl,zbr]
theorem BR.done{N n i:Nat}{M:List (List Int)}{x:List AV}{H:Heap}(h:BR N n i n M x H)(hc:(M.getD i []).length=n):BP N n (i+1) M x H:=by
 refine⟨h.len,h.h0,h.h1,λk hk=>?_⟩;by_cases e:k=i
 ·subst e;have:=h.row
  rwa[qrp hc]at this
 ·exact h.rows k (by omega)
theorem BR.step{N n i j:Nat}{M:List (List Int)}{x:List AV}{H:Heap}(h:BR N n i j M x H)(hj:j<n){u v:AV}(hz:zag (ent M i j) (.agg [u,v])){cs:List AV}(hcs:getB H (i+2)=some cs):BR N n i (j+1) M x (H.set (i+2) (some (setL cs (j*2) [u,v]))):=by
 have hl:=h.len;refine⟨by rw[qC];exact hl,by rw[zah (by omega)];exact h.h0,by rw[zah (by omega)];exact h.h1,λk hk=>?_,_,zbd (by omega),?_⟩
 ·obtain⟨cs',g,r⟩:=h.rows k hk;exact⟨cs',by rw[zah (by omega)];exact g,r⟩
 ·obtain⟨cs',g,r⟩:=h.row;obtain rfl:cs'=cs:=by rw[hcs]at g;exact(Option.some.inj g).symm
  have:=ztj r j _ u v (by rw[zkp];exact hj) hz
  rwa[qro M hj]at this
theorem qrq{H:Heap}{p:Nat}{x:List AV}(h:getB H p=some x):H.set p (some x)=H:=by
 have h1:=zce h;refine List.ext_getElem? λt=>?_
 rw[yA];by_cases e:p=t
 ·subst e;rw[if_pos rfl,h1];obtain⟨hl,_⟩:=List.getElem?_eq_some_iff.1 h1;rw[if_pos hl]
 ·rw[if_neg e]
theorem okF:okC (okFn Tryz.prog) 155=true:=zsj qjv (by decide)
theorem qyk{M:List (List Int)}{a:AV}{n:Nat}(hV:ImV M a)(hn:1<=n/\n<=16)(hN:1<=M.length/\M.length<=16)(hc:∀i,i<M.length->(M.getD i []).length=n):
  Rt 154 [.int .i64 (M.length:Nat),.int .i64 (n:Nat),.clo 155 [.ptr 0 0]] [some [a]] (matC M) [some [a]]:=by
 have hacl:qW [a]=true:=by simp only[qW,hV.closed,qB]
 have hNN:M.length=M.length:=rfl;generalize hNe:M.length=N at hNN hN hc ⊢;refine oFw o154 ?_;simp only[c154,r154_0,r154_1,r154_2,SS,reduceCtorEq,reduceIte,qQ,qZ];refine⟨by omega,⟨by omega,by omega,by omega,by omega⟩,?_⟩
 refine zaf (λk E H=>∃i,i+k=N/\BP N n i M [a] H/\E 1= .int .i64 (n:Nat)/\E 2= .clo 155 [.ptr 0 0]/\E 7= .sl 1 0 N 1 (some N)/\E 13= .int .i64 (N:Nat)/\E 14= .int .i64 (i:Nat)) (n:=N)
  ⟨0,by omega,⟨rfl,rfl,by simp[out2,ps2,getB],λk hk=>absurd hk (by omega)⟩,by simp only[UU,qQ],by simp only[UU,qQ],by simp only[UU,qQ,reduceIte],by simp only[UU,qQ,reduceIte],by simp only[UU,qQ,reduceIte];rfl⟩ ?_
 rintro k E H ⟨i,hik,hB,e1,e2,e7,e13,e14⟩;refine wM ?_;simp only[l154_0,r154_3,SS,reduceCtorEq,reduceIte,e13,e14];refine⟨λhlt=>?_,λhge=>?_⟩
 ·obtain⟨k,rfl⟩:∃k',k=k'+1:=⟨k-1,by omega⟩
  have hi:i<N:=by omega
  have hol:=znj (n:=n) (show i<=N by omega);have hol2:=znj (n:=n) (show i+1<=N by omega);have hog:=qcb (N:=N) (n:=n) (show i<i+1 by omega);have hl:=hB.len;have hR:=hB.row hi;have g1:getB (H++[some (zeh n [AV.bool false,AV.vec [] 0 (some 0)])]) 1=some (out2 N n i):=by rw[zca (by omega)];exact hB.h1
  have q1:=hR.h1;have w5:=wS1 i (by omega);simp only[r154_4,r154_5,SS,reduceIte,qK,qQ,e1,e7,e14,qZ,g1,hol];refine⟨by omega,⟨by omega,by omega,by omega,by omega⟩,⟨by omega,by omega⟩,by omega,?_⟩;change BR N n i 0 M [a] ((H++[some (zeh n [AV.bool false,AV.vec [] 0 (some 0)])]).set 1 (some ((out2 N n i).set i (.sl H.length 0 n 2 (some n)))))at hR;change getB ((H++[some (zeh n [AV.bool false,AV.vec [] 0 (some 0)])]).set 1 (some ((out2 N n i).set i (.sl H.length 0 n 2 (some n))))) 1=_ at q1;generalize (H++[some (zeh n [AV.bool false,AV.vec [] 0 (some 0)])]).set 1 (some ((out2 N n i).set i (.sl H.length 0 n 2 (some n))))=H1 at*;simp only[r154_6,SS,fC,reduceIte,qQ,e7,qZ,q1,hol2,hog];refine⟨⟨by omega,by omega⟩,by omega,?_⟩
  refine zaf (λm E H=>∃j,j+m=n/\BR N n i j M [a] H/\E 1= .int .i64 (n:Nat)/\E 2= .clo 155 [.ptr 0 0]/\E 7= .sl 1 0 N 1 (some N)/\E 8= .int .i64 (i:Nat)/\E 13= .int .i64 (N:Nat)/\E 14= .int .i64 (i:Nat)/\E 26= .int .i64 (n:Nat)/\E 27= .int .i64 (j:Nat)) (n:=n)
   ⟨0,by omega,hR,by simp only[UU,qQ,e1],by simp only[UU,qQ,e2],by simp only[UU,qQ,e7],by simp only[UU,qQ,reduceIte],by simp only[UU,qQ,e13],by simp only[UU,qQ,e14],by simp only[UU,qQ,reduceIte],by simp only[UU,qQ,reduceIte];rfl⟩ ?_
  clear hR q1 e1 e2 e7 e13 e14 hB hl g1 E;rintro m E H2 ⟨j,hjm,hR,e1,e2,e7,e8,e13,e14,e26,e27⟩;refine wM ?_;simp only[l154_1,r154_7,SS,reduceCtorEq,reduceIte,qQ,e26,e27];refine⟨λhjn=>?_,λhjn=>?_⟩
  ·obtain⟨m,rfl⟩:∃k',m=k'+1:=⟨m-1,by omega⟩
   have hj:j<n:=by omega
   obtain⟨v,iv,t1⟩:=qyi hV (i:=i) (j:=j) (by omega) (by rw[hc i hi];exact hj);obtain⟨lv,cv,rfl⟩:=iv.shape;obtain⟨cs,gc,rc⟩:=hR.row;have hcl:=zcp rc;rw[zkp]at hcl;have hst:=hR.step hj iv gc;have q1:=hR.h1;have w6:=wS1 j (by omega);simp only[r154_8,r154_9,SS,fC,reduceIte,qQ,e2,e7,e8,e27,qZ,q1,hol2,hog];refine⟨⟨by omega,by omega⟩,by omega,_,_,rfl,okF,?_⟩;refine zeq (id:=0) (args0:=[.int .i64 (i:Nat),.int .i64 (j:Nat),.ptr 0 0]) t1 hR.h0 rfl ?_ rfl hacl hacl rfl;simp only[zay,zad,keys,qU,qI,SS,reduceIte,qK,qQ];rw[qrq hR.h0];simp only[SS,gc,hcl];refine⟨⟨by omega,by omega⟩,by omega,rfl,?_⟩;simp only[r154_10,SS,reduceIte,qQ,e27,w6];refine⟨m,_,_,by omega,⟨j+1,by omega,hst,?_,?_,?_,?_,?_,?_,?_,?_⟩,.refl⟩
   all_goals simp only[UU,qQ,reduceIte, *]
  ·obtain rfl:j=n:=by omega
   simp only[r154_11,SS,reduceIte,qQ,e14,w5];refine⟨k,_,_,by omega,⟨i+1,by omega,hR.done (hc i hi),?_,?_,?_,?_,?_⟩,.refl⟩
   all_goals simp only[UU,qQ,reduceIte, *]
 ·obtain rfl:i=N:=by omega
  have hM:=hB.mat hNe hc
  obtain⟨vs,f1,f2,f3⟩:=zwm (m:=1) (zts hM) (λq hq=>by
   obtain⟨k,_,rfl⟩:=List.mem_map.1 hq
   show 1<=k+2;omega)
  have hl:=hB.len;have hpl:=zmb n i;simp only[r154_12,SS,reduceIte,qQ,e7];refine⟨.inl trivial,_,.vec vs i (some i),rfl,?_,by rw[<-hNe];exact zzs ⟨vs,some M.length,rfl,f2,f3⟩⟩
  have ht:H.take 1=[some [a]]:=by
   have:=zce hB.h0;cases H with
   |nil=>simp at hl
   |cons b H=>simp at this;subst this;rfl
  rw[<-ht]
  refine .freeze 3 _ _ _ ?_ (by
   intro k cs hk hcs;obtain rfl:k=0:=by omega
   have:=zce hB.h0;rw[this]at hcs;simp only[xO]at hcs;subst hcs;exact zbg _ _ hacl)
  show frzI 1 H 3 (.sl 1 0 i 1 (some i))=_
  rw[frzI];simp only[show¬1<1 by omega,if_false,hM.outer,need,xT,xN,yK,hpl,qH,if_true,xG];rw[qE (by simp[hpl]),f1];rfl
theorem qrr{rows:List AV}{c:Option Nat}{N n:Nat}(hl:rows.length=N)(hN:1<=N/\N<=16)(hn:1<=n/\n<=16)(hr:∀i,i<N->∃x c',rows.getD i .junk= .vec x n c'):
  Rt 153 [.vec rows N c] [] (.tup [.int .i64 (N:Nat),.int .i64 (n:Nat),.bool true]) []:=by
 have d1:decide ((N:Int)<1)=false:=dF;have d2:decide ((16:Int)<(N:Nat))=false:=dF;have d3:decide ((n:Int)<1)=false:=dF;have d4:decide ((16:Int)<(n:Nat))=false:=dF;obtain⟨x0,c0,e0⟩:=hr 0 (by omega);refine oF o153 ?_;simp only[c153,r153_0,SS,reduceCtorEq];simp only[r153_1,↓zcn,SS,fC,reduceCtorEq,reduceIte,qQ,d1,d2];simp only[r153_3,SS,fC,reduceCtorEq,reduceIte,qQ,xH,e0,hl];refine⟨⟨by omega,by omega⟩,by omega,?_⟩;simp only[r153_4,↓zcn,SS,fC,reduceIte,qQ,d3,d4];simp only[r153_6,SS,reduceCtorEq,reduceIte,qQ]
 refine zaf (λk E H=>∃i,i+k=N/\E 0= .vec rows N c/\E 5= .int .i64 (n:Nat)/\E 26= .vec rows N c/\E 27= .int .i64 (N:Nat)/\E 28= .int .i64 (i:Nat)/\H=[]) (n:=N)
  ⟨0,by omega,by simp only[UU,qQ],by simp only[UU,qQ,reduceIte],by simp only[UU,qQ,reduceIte],by simp only[UU,qQ,reduceIte],by simp only[UU,qQ,reduceIte];rfl,rfl⟩ ?_
 rintro k E H ⟨i,hik,h0,h5,h26,h27,h28,rfl⟩;refine wM ?_;simp only[l153_0,r153_7,SS,reduceCtorEq,reduceIte,h27,h28];refine⟨λhlt=>?_,λhge=>?_⟩
 ·obtain⟨k,rfl⟩:∃k',k=k'+1:=⟨k-1,by omega⟩
  obtain⟨xi,ci,ei⟩:=hr i (by omega);have d5:decide ((n:Int)≠(n:Nat))=false:=dF;have w5:=wS1 i (by omega);simp only[r153_8,r153_9,r153_11,SS,fC,reduceIte,qQ,h5,h26,h28,qZ,ei,hl,d5,w5];refine⟨⟨by omega,by omega⟩,by omega,?_⟩;refine⟨k,_,_,by omega,⟨i+1,by omega,?_,?_,?_,?_,?_,rfl⟩,.refl⟩<;>simp only[UU,qQ,reduceIte, *]
 ·simp only[r153_12,SS,reduceCtorEq,reduceIte,qQ,h0,h5];exact dR
theorem qrs{rows:List AV}{c:Option Nat}{N n:Nat}(hl:rows.length=N)(hN:1<=N/\N<=16)(hn:1<=n/\n<=16)(hr:∀i,i<N->∃x c',rows.getD i .junk= .vec x n c'):
  Rt 156 [.vec rows N c] [] (.tup [.int .i64 (N:Nat),.int .i64 (n:Nat),.bool true]) []:=by
 have d1:decide ((N:Int)<1)=false:=dF;have d2:decide ((16:Int)<(N:Nat))=false:=dF;have d3:decide ((n:Int)<1)=false:=dF;have d4:decide ((16:Int)<(n:Nat))=false:=dF;obtain⟨x0,c0,e0⟩:=hr 0 (by omega);refine oF o156 ?_;simp only[c156,r156_0,SS,reduceCtorEq];simp only[r156_1,↓zcn,SS,fC,reduceCtorEq,reduceIte,qQ,d1,d2];simp only[r156_3,SS,fC,reduceCtorEq,reduceIte,qQ,xH,e0,hl];refine⟨⟨by omega,by omega⟩,by omega,?_⟩;simp only[r156_4,↓zcn,SS,fC,reduceIte,qQ,d3,d4];simp only[r156_6,SS,reduceCtorEq,reduceIte,qQ]
 refine zaf (λk E H=>∃i,i+k=N/\E 0= .vec rows N c/\E 5= .int .i64 (n:Nat)/\E 26= .vec rows N c/\E 27= .int .i64 (N:Nat)/\E 28= .int .i64 (i:Nat)/\H=[]) (n:=N)
  ⟨0,by omega,by simp only[UU,qQ],by simp only[UU,qQ,reduceIte],by simp only[UU,qQ,reduceIte],by simp only[UU,qQ,reduceIte],by simp only[UU,qQ,reduceIte];rfl,rfl⟩ ?_
 rintro k E H ⟨i,hik,h0,h5,h26,h27,h28,rfl⟩;refine wM ?_;simp only[l156_0,r156_7,SS,reduceCtorEq,reduceIte,h27,h28];refine⟨λhlt=>?_,λhge=>?_⟩
 ·obtain⟨k,rfl⟩:∃k',k=k'+1:=⟨k-1,by omega⟩
  obtain⟨xi,ci,ei⟩:=hr i (by omega);have d5:decide ((n:Int)≠(n:Nat))=false:=dF;have w5:=wS1 i (by omega);simp only[r156_8,r156_9,r156_11,SS,fC,reduceIte,qQ,h5,h26,h28,qZ,ei,hl,d5,w5];refine⟨⟨by omega,by omega⟩,by omega,?_⟩;refine⟨k,_,_,by omega,⟨i+1,by omega,?_,?_,?_,?_,?_,rfl⟩,.refl⟩<;>simp only[UU,qQ,reduceIte, *]
 ·simp only[r156_12,SS,reduceCtorEq,reduceIte,qQ,h0,h5];exact dR
theorem jcy{M:List (List Int)}{a:AV}{n:Nat}(hV:ImV M a)(hn:1<=n/\n<=16)(hN:1<=M.length/\M.length<=16)(hc:∀i,i<M.length->(M.getD i []).length=n):
  Rt 89 [a] [] (.tup [matC M,.bool true]) []:=by
 have t2:=qyk hV hn hN hc;have hca:=hV.closed;have hacl:qW [a]=true:=by simp only[qW,hca,qB]
 obtain⟨rows,c,rfl,hl,hr⟩:=hV.val
 have t1:=qrr (c:=c) hl hN hn (λi hi=>by
  obtain⟨c',e⟩:=hr i hi;rw[hc i hi]at e;exact⟨_,_,e⟩)
 refine oF o89 ?_;simp only[c89,r89_0,SS,reduceCtorEq];simp only[r89_1,SS,fC,reduceIte,qQ,qX];refine zaa t1 ?_ hacl;simp only[SS,reduceIte,qQ,qD,qA];simp only[r89_2,SS,fC,reduceIte,qQ];simp only[r89_4,SS,reduceIte,qQ];refine zeq (id:=0) (args0:=[.int .i64 (M.length:Nat),.int .i64 (n:Nat),.clo 155 [.ptr 0 0]]) (H:=[some [.vec rows M.length c]]) t2 rfl rfl ?_ rfl hacl hacl rfl;simp only[zay,zad,qU,qI,SS,reduceIte,qQ];exact dR
theorem icmp(m n:List Nat)(c d:Option Nat)(hm:m.length<16777216)(hn:n.length<16777216):Rt 107 [.vec (u32s m) m.length c,.vec (u32s n) n.length d] [] (.int .i64 (cmpL m n)) []:=by
 refine oF o107 ?_;simp only[c107,r107_0,r107_1,SS,reduceCtorEq,reduceIte,qQ];refine⟨λh=>?_,λh=>?_⟩
 ·rw[show cmpL m n= -1 by unfold cmpL;rw[if_neg (by omega),if_pos (by omega)]];simp only[r107_2,SS];exact kR
 simp only[r107_3,SS,reduceCtorEq,reduceIte,qQ];refine⟨λh2=>?_,λh2=>?_⟩
 ·rw[show cmpL m n=1 by unfold cmpL;rw[if_neg (by omega),if_neg (by omega)]];simp only[r107_4,SS];exact kR
 have h:m.length=n.length:=by omega
 rw[show cmpL m n=cmpN m n m.length by unfold cmpL;rw[if_pos h]];simp only[r107_5,SS,reduceCtorEq,reduceIte,qQ];refine zaf (λk E H=>k<=m.length/\cmpN m n k=cmpN m n m.length/\E 0= .vec (u32s m) m.length c/\E 1= .vec (u32s n) n.length d/\E 5= .int .i64 ((k:Int)-1)/\H=[]) (n:=m.length) ⟨by omega,rfl,?_,?_,?_,rfl⟩ ?_
 ·simp only[UU,qQ]
 ·simp only[UU,qQ]
 ·simp only[UU,qQ,reduceIte];rw[w64 (by omega) (by omega)]
 rintro k E H ⟨hk,ht,h0,h1,h5,rfl⟩;refine wM ?_;simp only[l107_0,r107_6,SS,reduceCtorEq,reduceIte,qQ,h5];refine⟨λhge=>?_,λhlt=>?_⟩
 ·obtain⟨k,rfl⟩:∃j,k=j+1:=⟨k-1,by omega⟩
  have e5:((k+1:Nat):Int)-1=(k:Nat):=by omega
  rw[e5]at h5;have g1:=zbc m k (by omega) AV.junk;have g2:=zbc n k (by omega) AV.junk;simp only[cmpN]at ht;simp only[r107_7,SS,fC,reduceCtorEq,reduceIte,qQ,e5,h0,h1,h5,qZ,g1,g2,zap];refine⟨⟨by omega,by omega⟩,by omega,⟨by omega,by omega⟩,by omega,rfl,λhl=>?_,λhl=>?_⟩
  ·rw[if_neg (by omega),if_pos (by omega)]at ht;rw[<-ht];simp only[r107_8,SS];exact kR
  simp only[r107_9,SS,fC,reduceCtorEq,reduceIte,qQ,h0,h1,h5,qZ,g1,g2,zap];refine⟨⟨by omega,by omega⟩,by omega,⟨by omega,by omega⟩,by omega,rfl,λhg=>?_,λhg=>?_⟩
  ·rw[if_neg (by omega),if_neg (by omega)]at ht;rw[<-ht];simp only[r107_10,SS];exact kR
  rw[if_pos (by omega)]at ht;simp only[r107_11,SS,reduceIte,qQ,h5];refine⟨k,_,_,by omega,⟨by omega,ht,?_,?_,?_,rfl⟩,.refl⟩
  ·simp only[UU,qQ, *]
  ·simp only[UU,qQ, *]
  ·simp only[UU,qQ,reduceIte];rw[w64 (by omega) (by omega)]
 ·obtain rfl:k=0:=by omega
  rw[<-ht];simp only[r107_12,SS];exact kR
theorem qcc{m n out:List Nat}{i cy:Nat}(ho:i<out.length)(hz:out.getD i 0=0)(h:val out+4294967296^i*cy=val (m.take i)+val (n.take i)):
  val (out.set i ((cy+(m.getD i 0+n.getD i 0))%4294967296))+4294967296^(i+1)*((cy+(m.getD i 0+n.getD i 0))/4294967296)=val (m.take (i+1))+val (n.take (i+1)):=by
 have h1:=zhw (v:=(cy+(m.getD i 0+n.getD i 0))%4294967296) ho;rw[hz,xB,qO]at h1;rw[h1,zbn,zbn,xE];generalize 4294967296^i=p at*
 have e:p*((cy+(m.getD i 0+n.getD i 0))%4294967296)+p*4294967296*((cy+(m.getD i 0+n.getD i 0))/4294967296)=p*cy+(p*m.getD i 0+p*n.getD i 0):=by
  rw[qM,<-qT,<-qT,<-qT,yH]
 omega
theorem zgl{l:List Nat}{i v t:Nat}(h:i<t):(l.set i v).getD t 0=l.getD t 0:=by
 rw[qJ,qJ,List.getElem?_set_ne (by omega)]
theorem rep0(k i:Nat):(List.replicate k 0).getD i 0=0:=by rw[qJ,qR];split<;>rfl
theorem zzu(k:Nat):val (List.replicate k 0)=0:=by
 induction k with
 |zero=>rfl
 |succ k ih=>simp only[xW,Limb.val,ih]
theorem zzv(k:Nat):Dig (List.replicate k 0):=λd h=>by rw[(List.mem_replicate.1 h).2];decide
theorem zzw(k:Nat):List.replicate k (AV.int .u32 0)=u32s (List.replicate k 0):=by simp[u32s]
theorem zcd(l:List Nat)(n:Nat)(c:Option Nat):(AV.vec (u32s l) n c).closed=true:=by simp only[AV.closed]
theorem zpf{f:FuncId}{id n:Nat}{c:Option Nat}{l:List Nat}{v:AV}{H:Heap}{K:AV->Eff->List Nat->Nat->Prop}(h:Rt f [.vec (u32s l) n c] [] v [])(hid:H[id]?=some (some (u32s l)))(hn:n=l.length)(hv:v.closed=true)(hk:K v [(id,none)] [id] 0):zls Tryz.prog G f [.sl id 0 n 1 c] H K:=
 zgg (d:=2) (args0:=[.sl 0 0 n 1 c]) h hid (by simp[zzm hn]) (by simp[AV.ren,zan]) hk rfl (zgy l) hv
theorem quz(m n:List Nat)(c d:Option Nat)(hn:n.length<=m.length)(hm:m.length<=1100)(dm:Dig m)(dn:Dig n){E:Env}{Q:Post}(e0:E 0= .vec (u32s m) m.length c)(e1:E 1= .vec (u32s n) n.length d)
  (hQ:∀E' H',E' 4= .vec (u32s (zau (val m+val n))) (zau (val m+val n)).length (some (m.length+1))->Q .ret E' H'):
  Wg 0 83 (.seq (rN r144_3) (.seq (rN r144_4) (.seq (.seq (rN r144_5) (.block 0 (.loop l144_0))) (.seq (.seq (rN r144_12) (.block 2 (.loop l144_1))) (.seq (rN r144_19) (.seq (rN r144_20) .ret)))))) E [] Q:=by
 refine wM ?_;have w1:=wS1 m.length (by omega);simp only[r144_3,r144_4,r144_5,SS,reduceIte,qQ,e0,e1,w1,zzw,qZ];refine⟨by omega,⟨by omega,by omega,by omega,by omega⟩,?_⟩
 refine zaf (λk E H=>∃i cy out,i+k=n.length/\out.length=m.length+1/\Dig out/\(∀t,i<=t->out.getD t 0=0)/\cy<=1/\val out+4294967296^i*cy=val (m.take i)+val (n.take i)/\
   E 0= .vec (u32s m) m.length c/\E 1= .vec (u32s n) n.length d/\E 5= .sl 0 0 (m.length+1) 1 (some (m.length+1))/\E 6= .int .u64 (cy:Nat)/\E 21= .int .i64 (n.length:Nat)/\E 22= .int .i64 (i:Nat)/\H=[some (u32s out)]) (n:=n.length)
  ⟨0,0,List.replicate (m.length+1) 0,by omega,by simp,zzv _,λt _=>rep0 _ t,by omega,by rw[zzu];rfl,?_,?_,?_,?_,?_,?_,rfl⟩ ?_
 ·simp only[UU,qQ,e0]
 ·simp only[UU,qQ,e1]
 ·simp only[UU,qQ,reduceIte]
 ·simp only[UU,qQ,reduceIte];rfl
 ·simp only[UU,qQ,reduceIte]
 ·simp only[UU,qQ,reduceIte];rfl
 clear e0 e1 E;rintro k E H ⟨i,cy,out,hik,hol,hd,hz,hcy,hv,h0,h1,h5,h6,h21,h22,rfl⟩;refine wM ?_;have bm:=dm.getD i;have bn:=dn.getD i;cases k with
 |succ k=>
  have g1:=zbc m i (by omega) AV.junk;have g2:=zbc n i (by omega) AV.junk;have d1:decide ((i:Int)<(n.length:Nat))=true:=dT;have w2:IntKind.u64.wrap (((m.getD i 0:Nat):Int)+((n.getD i 0:Nat):Int))=((m.getD i 0+n.getD i 0:Nat):Int):=by rw[<-xV];exact zdl (by omega)
  have w3:IntKind.u64.wrap ((cy:Int)+((m.getD i 0+n.getD i 0:Nat):Int))=((cy+(m.getD i 0+n.getD i 0):Nat):Int):=by rw[<-xV];exact zdl (by omega)
  have w5:=wS1 i (by omega);simp only[l144_0,r144_6,r144_7,r144_8,SS,fC,reduceCtorEq,reduceIte,qQ,h0,h1,h6,h21,h22,d1,qZ,g1,g2,zap,zdl (show m.getD i 0<18446744073709551616 by omega),zdl (show n.getD i 0<18446744073709551616 by omega),w2,w3];refine⟨⟨by omega,by omega⟩,by omega,⟨by omega,by omega⟩,by omega,rfl,?_⟩;simp only[r144_9,r144_10,r144_11,SS,reduceIte,qQ,h5,h22,qZ,wu32,zzk,zap,zet,w5];refine⟨by omega,by omega,by omega,k,_,_,by omega,⟨i+1,_,_,by omega,by rw[qC];exact hol,hd.set (qG _ (by decide)),λt ht=>by rw[zgl (by omega)];exact hz t (by omega),by omega,qcc (by omega) (hz i (qH _)) hv,?_,?_,?_,?_,?_,?_,rfl⟩,.refl⟩
  all_goals simp only[UU,qQ,reduceIte, *]
 |zero=>
  obtain rfl:i=n.length:=by omega
  have d1:decide ((n.length:Int)<(n.length:Nat))=false:=dF;have wd:IntKind.i64.wrap ((m.length:Int)-(n.length:Int))=((m.length-n.length:Nat):Int):=wQ (by omega);simp only[l144_0,r144_6,SS,fC,reduceIte,h21,h22,d1];simp only[r144_12,SS,reduceCtorEq,reduceIte,qQ,h0,h1,wd]
  refine zaf (λk E H=>∃i cy out,i+k=m.length/\n.length<=i/\out.length=m.length+1/\Dig out/\(∀t,i<=t->out.getD t 0=0)/\cy<=1/\val out+4294967296^i*cy=val (m.take i)+val (n.take i)/\
    E 0= .vec (u32s m) m.length c/\E 1= .vec (u32s n) n.length d/\E 5= .sl 0 0 (m.length+1) 1 (some (m.length+1))/\E 6= .int .u64 (cy:Nat)/\E 50= .int .i64 ((m.length-n.length:Nat):Int)/\E 51= .int .i64 ((i-n.length:Nat):Int)/\H=[some (u32s out)]) (n:=m.length-n.length)
   ⟨n.length,cy,out,by omega,qH _,hol,hd,hz,hcy,hv,?_,?_,?_,?_,?_,?_,rfl⟩ ?_
  ·simp only[UU,qQ,h0]
  ·simp only[UU,qQ,h1]
  ·simp only[UU,qQ,h5]
  ·simp only[UU,qQ,h6]
  ·simp only[UU,qQ,reduceIte]
  ·simp only[UU,qQ,reduceIte,yU];rfl
  clear hik hz hd hv hcy hol h0 h1 h5 h6 h21 h22 d1;rintro k E H ⟨i,cy,out,hik,hni,hol,hd,hz,hcy,hv,h0,h1,h5,h6,h21,h22,rfl⟩;refine wM ?_;have bm:=dm.getD i;have bn:n.getD i 0=0:=zow hni;cases k with
  |succ k=>
   have g1:=zbc m i (by omega) AV.junk;have d1:decide (((i-n.length:Nat):Int)<((m.length-n.length:Nat):Int))=true:=dT;have w4:IntKind.i64.wrap ((n.length:Int)+((i-n.length:Nat):Int))=(i:Int):=wQ (by omega);have w3:IntKind.u64.wrap ((cy:Int)+((m.getD i 0:Nat):Int))=((cy+(m.getD i 0+n.getD i 0):Nat):Int):=by rw[bn,qO,<-xV];exact zdl (by omega)
   have w5:IntKind.i64.wrap (((i-n.length:Nat):Int)+1)=((i+1-n.length:Nat):Int):=wQ (by omega);simp only[l144_1,r144_13,r144_14,r144_15,SS,fC,reduceCtorEq,reduceIte,qQ,h0,h1,h6,h21,h22,d1,w4,qZ,g1,zap,zdl (show m.getD i 0<18446744073709551616 by omega),w3];refine⟨⟨by omega,by omega⟩,by omega,?_⟩;simp only[r144_16,r144_17,r144_18,SS,reduceIte,qQ,h1,h5,h22,w4,qZ,wu32,zzk,zap,zet,w5];refine⟨⟨by omega,by omega⟩,by omega,by omega,k,_,_,by omega,⟨i+1,_,_,by omega,by omega,by rw[qC];exact hol,hd.set (qG _ (by decide)),λt ht=>by rw[zgl (by omega)];exact hz t (by omega),by omega,qcc (by omega) (hz i (qH _)) hv,?_,?_,?_,?_,?_,?_,rfl⟩,.refl⟩
   all_goals simp only[UU,qQ,reduceIte, *]
  |zero=>
   obtain rfl:i=m.length:=by omega
   have d1:decide (((m.length-n.length:Nat):Int)<((m.length-n.length:Nat):Int))=false:=dF;have hv2:=zhw (i:=m.length) (v:=cy) (l:=out) (by omega);rw[hz m.length (qH _),xB,qO,hv,xC,qE hn]at hv2;have hc:zbp (zbf (out.set m.length cy)):=zaz (hd.set (by omega));have hL:zbf (out.set m.length cy)=zau (val m+val n):=zdf hc (zak _) (by rw[zbq,hv2,zar]);have t1:=qfp (out.set m.length cy) (some (m.length+1)) (by rw[qC];omega);rw[hL,qC,hol]at t1;simp only[l144_1,r144_13,SS,fC,reduceIte,h21,h22,d1];simp only[r144_19,r144_20,SS,reduceCtorEq,reduceIte,qQ,h0,h5,h6,qZ,zzj (show cy<4294967296 by omega),zap,zet];refine⟨⟨by omega,by omega⟩,by omega,?_⟩;refine zpf t1 rfl (by rw[qC];exact hol.symm) (zcd _ _ _) ?_;simp only[zay,zad,qU,qI,SS,reduceIte,qQ];exact hQ _ _ (by simp only[UU,qQ,reduceIte])
theorem qyl(m n:List Nat)(c d:Option Nat)(hm:m.length<=1100)(hn:n.length<=1100)(dm:Dig m)(dn:Dig n):
  ∃c',Rt 144 [.vec (u32s m) m.length c,.vec (u32s n) n.length d] [] (.vec (u32s (zau (val m+val n))) (zau (val m+val n)).length c') []:=by
 refine⟨some (max m.length n.length+1),?_⟩;refine oFW o144 ?_;simp only[c144];refine wW ?_;simp only[r144_0,SS];refine zkf (wM ?_);by_cases h:m.length<n.length
 ·have d1:decide ((m.length:Int)<(n.length:Nat))=true:=dT;simp only[r144_1,r144_2,SS,fC,reduceCtorEq,reduceIte,qQ,d1];rw[Nat.add_comm (val m)]at*;rw[Nat.max_eq_right (by omega)];refine quz n m d c (by omega) hn dn dm (by simp only[UU,qQ,reduceIte]) (by simp only[UU,qQ,reduceIte]) λE' H' h=>⟨.inl rfl,_,by simp[resA,zdv,h],.drop _ _ rfl (by intro i cs h;omega)⟩
 ·have d1:decide ((m.length:Int)<(n.length:Nat))=false:=dF;simp only[r144_1,SS,fC,reduceCtorEq,reduceIte,qQ,d1];rw[Nat.max_eq_left (by omega)];refine quz m n c d (by omega) hm dm dn (by simp only[UU,qQ]) (by simp only[UU,qQ]) λE' H' h=>⟨.inl rfl,_,by simp[resA,zdv,h],.drop _ _ rfl (by intro i cs h;omega)⟩
theorem jcz(x:Nat):Int.fdiv (x:Int) (2^min (Int.toNat 63) IntKind.u64.bits)=((x/9223372036854775808:Nat):Int):=by
 show Int.fdiv (x:Int) 9223372036854775808=_
 rw[xX _ (by decide)];omega
def subT(a b:Nat):Nat:=(a+18446744073709551616-b)%18446744073709551616
theorem jfh{a b:Nat}(ha:a<4294967296)(hb:b<=1):IntKind.u64.wrap ((a:Int)-(b:Int))=(subT a b:Nat):=by
 unfold subT;simp[IntKind.wrap,IntKind.bits,IntKind.signed];omega
theorem jfi{a b c:Nat}(ha:a<4294967296)(hb:b<=1)(hc:c<4294967296):IntKind.u64.wrap ((subT a b:Nat)-(c:Int))=(subT a (b+c):Nat):=by
 unfold subT;simp[IntKind.wrap,IntKind.bits,IntKind.signed];omega
theorem qkx{a b:Nat}(hb:b<=4294967296):subT a b%4294967296=(a+8589934592-b)%4294967296:=by unfold subT;omega
theorem qym{a b:Nat}(ha:a<4294967296)(hb:b<=4294967296):subT a b/9223372036854775808=brw a b:=by unfold subT brw;split<;>omega
theorem qcd{m n out:List Nat}{i b:Nat}(ho:i<out.length)(hz:out.getD i 0=0)(hm:m.getD i 0<4294967296)(hb:b+n.getD i 0<=4294967296)(h:val (m.take i)+4294967296^i*b=val out+val (n.take i)):
  val (m.take (i+1))+4294967296^(i+1)*brw (m.getD i 0) (b+n.getD i 0)=val (out.set i (subT (m.getD i 0) (b+n.getD i 0)%4294967296))+val (n.take (i+1)):=by
 have h1:=zhw (v:=subT (m.getD i 0) (b+n.getD i 0)%4294967296) ho;rw[hz,xB,qO,qkx hb]at h1;rw[qkx hb];exact qjy (zbn m i) (zbn n i) h1 (pw i) (qbq hm hb) h
theorem qky(m n:List Nat)(c d:Option Nat)(hn:n.length<=m.length)(hm:m.length<=1100)(dm:Dig m)(dn:Dig n)(hle:val n<=val m):
  Rt 145 [.vec (u32s m) m.length c,.vec (u32s n) n.length d] [] (.vec (u32s (zau (val m-val n))) (zau (val m-val n)).length (some m.length)) []:=by
 refine oF o145 ?_;simp only[c145,r145_0,r145_1,r145_2,r145_3,SS,reduceCtorEq,reduceIte,qQ,zzw,qZ];refine⟨by omega,⟨by omega,by omega,by omega,by omega⟩,?_⟩
 refine zaf (λk E H=>∃i b out,i+k=m.length/\out.length=m.length/\Dig out/\(∀t,i<=t->out.getD t 0=0)/\b<=1/\val (m.take i)+4294967296^i*b=val out+val (n.take i)/\
   E 0= .vec (u32s m) m.length c/\E 1= .vec (u32s n) n.length d/\E 5= .sl 0 0 m.length 1 (some m.length)/\E 6= .int .u64 (b:Nat)/\E 13= .int .i64 (m.length:Nat)/\E 14= .int .i64 (i:Nat)/\H=[some (u32s out)]) (n:=m.length)
  ⟨0,0,List.replicate m.length 0,by omega,by simp,zzv _,λt _=>rep0 _ t,by omega,by rw[zzu];rfl,?_,?_,?_,?_,?_,?_,rfl⟩ ?_
 ·simp only[UU,qQ]
 ·simp only[UU,qQ]
 ·simp only[UU,qQ,reduceIte]
 ·simp only[UU,qQ,reduceIte];rfl
 ·simp only[UU,qQ,reduceIte]
 ·simp only[UU,qQ,reduceIte];rfl
 rintro k E H ⟨i,b,out,hik,hol,hd,hz,hb,hv,h0,h1,h5,h6,h13,h14,rfl⟩;refine wM ?_;have bm:=dm.getD i;have bn:=dn.getD i;cases k with
 |succ k=>
  have g1:=zbc m i (by omega) AV.junk;have d1:decide ((i:Int)<(m.length:Nat))=true:=dT;have w5:=wS1 i (by omega);have t1:=jfh bm hb;have t2:=jfi bm hb bn;have lo:=qym bm (show b+n.getD i 0<=4294967296 by omega);simp only[l145_0,r145_4,r145_5,r145_6,SS,fC,reduceCtorEq,reduceIte,qQ,h0,h6,h13,h14,d1,qZ,g1,zap,zdl (show m.getD i 0<18446744073709551616 by omega),t1];refine⟨⟨by omega,by omega⟩,by omega,?_⟩;by_cases hin:i<n.length
  ·have g2:=zbc n i hin AV.junk;have d2:decide ((i:Int)<(n.length:Nat))=true:=dT;simp only[r145_7,r145_8,r145_9,r145_10,r145_11,SS,fC,reduceIte,qQ,h1,h5,h14,d2,qZ,g2,zap,zdl (show n.getD i 0<18446744073709551616 by omega),t2,wu32,zet,jcz,lo,w5];refine⟨⟨by omega,by omega⟩,by omega,⟨by omega,by omega⟩,by omega,by omega,k,_,_,by omega,⟨i+1,_,_,by omega,by rw[qC];exact hol,hd.set (qG _ (by decide)),λt ht=>by rw[zgl (by omega)];exact hz t (by omega),qjz _ _,qcd (by omega) (hz i (qH _)) bm (by omega) hv,?_,?_,?_,?_,?_,?_,rfl⟩,.refl⟩
   all_goals simp only[UU,qQ,reduceIte, *]
  ·have d2:decide ((i:Int)<(n.length:Nat))=false:=dF;have e0:n.getD i 0=0:=zow (by omega);have st:=qcd (by omega) (hz i (qH _)) bm (by omega) hv;simp only[e0,qO]at st lo;simp only[r145_7,r145_9,r145_10,r145_11,SS,fC,reduceIte,qQ,h1,h5,h14,d2,qZ,zap,wu32,zet,jcz,lo,w5];refine⟨⟨by omega,by omega⟩,by omega,by omega,k,_,_,by omega,⟨i+1,_,_,by omega,by rw[qC];exact hol,hd.set (qG _ (by decide)),λt ht=>by rw[zgl (by omega)];exact hz t (by omega),qjz _ _,st,?_,?_,?_,?_,?_,?_,rfl⟩,.refl⟩
   all_goals simp only[UU,qQ,reduceIte, *]
 |zero=>
  obtain rfl:i=m.length:=by omega
  have d1:decide ((m.length:Int)<(m.length:Nat))=false:=dF;rw[xC,qE hn]at hv;have hlt:=zgh hd;rw[hol]at hlt;have b0:=qbr hv hlt hle hb;rw[b0,xB,qO]at hv;have hL:zbf out=zau (val m-val n):=zdf (zaz hd) (zak _) (by rw[zbq,zar];omega);have t1:=qfp out (some m.length) (by omega);rw[hL,hol]at t1;simp only[l145_0,r145_4,SS,fC,reduceCtorEq,reduceIte,h13,h14,d1];simp only[r145_12,SS,reduceIte,qQ,h5];refine zpf t1 rfl hol.symm (zcd _ _ _) ?_;simp only[zay,zad,qU,qI,SS,reduceIte,qQ];exact dR
theorem zro{x y:Int}(m n:List Nat)(c d:Option Nat)(hm:m.length<=1100)(hn:n.length<=1100)(cm:zbp m)(cn:zbp n)(vm:val m=x.natAbs)(vn:val n=y.natAbs)(s t:Bool)(hs:sgnZ s x.natAbs=x)(ht:sgnZ t y.natAbs=y)(hf:(x+y).natAbs<BIG):
  ∃v,zag (x+y) v/\Rt 212 [.bool s,.vec (u32s m) m.length c,.bool t,.vec (u32s n) n.length d] [] v []:=by
 have t3:=icmp m n c d (by omega) (by omega);rw[zel cm cn]at t3;have big:∀k,k<BIG->(zau k).length<=1100:=λk hk=>canon_len (zak k) (by rw[zar];exact hk)
 by_cases hst:s=t
 ·subst hst;obtain⟨c1,t1⟩:=qyl m n c d hm hn cm.1 cn.1;have e:sgnZ s (val m+val n)=x+y:=by rw[vm,vn];unfold sgnZ at *;split at hs<;>split at ht<;>split<;>simp_all<;>omega
  have ea:(x+y).natAbs=val m+val n:=by rw[<-e,zft]
  obtain⟨v,iv,t2⟩:=zhx s c1 (zak (val m+val n)) (big _ (by rw[<-ea];exact hf));rw[zar,e]at iv;obtain⟨l',c',_,_,_,rfl⟩:=iv;refine⟨_,⟨l',c',by assumption,by assumption,by assumption,rfl⟩,?_⟩;refine oF o212 ?_;simp only[c212,r212_0,r212_1,SS,fC,reduceCtorEq,reduceIte,qQ,beq_self_eq_true];simp only[r212_2,SS,reduceCtorEq,reduceIte,qQ];refine zaa t1 ?_ rfl (zcd _ _ _);simp only[SS,reduceIte,qQ];refine zaa t2 ?_;simp only[SS,reduceIte,qK,qQ,qX];exact dR
 ·have hst':(s == t)=false:=by cases s<;>cases t<;>simp_all
  by_cases hc:val n<=val m
  ·have hsg:decide ((0:Int)<=sgn (val m) (val n))=true:=decide_eq_true (by unfold sgn;split<;>(try split)<;>omega)
   have hl:n.length<=m.length:=by
    have h:=hc;rcases xZ m.length n.length with h1 | h1
    ·have h2:=zgh cm.1;have h3:=zhv cn.2 (by intro e;rw[e]at h1;simp at h1);have h4:4294967296^m.length<=4294967296^(n.length-1):=qP (by decide) (by omega);omega
    ·exact h1
   have t1:=qky m n c d hl hm cm.1 cn.1 hc;have e:sgnZ s (val m-val n)=x+y:=by rw[vm,vn]at *;unfold sgnZ at *;cases s<;>cases t<;>simp_all<;>omega
   have ea:(x+y).natAbs=val m-val n:=by rw[<-e,zft]
   obtain⟨v,iv,t2⟩:=zhx s (some m.length) (zak (val m-val n)) (big _ (by rw[<-ea];exact hf));rw[zar,e]at iv;obtain⟨l',c',_,_,_,rfl⟩:=iv;refine⟨_,⟨l',c',by assumption,by assumption,by assumption,rfl⟩,?_⟩;refine oF o212 ?_;simp only[c212,r212_0,r212_1,SS,fC,reduceCtorEq,reduceIte,qQ,hst'];simp only[r212_3,SS,reduceIte,qQ];refine zaa t3 ?_;simp only[SS,fC,reduceIte,qQ,hsg];simp only[r212_4,SS,reduceCtorEq,reduceIte,qQ];refine zaa t1 ?_ rfl (zcd _ _ _);simp only[SS,reduceIte,qQ];refine zaa t2 ?_;simp only[SS,reduceIte,qK,qQ,qX];exact dR
  ·have hsg:decide ((0:Int)<=sgn (val m) (val n))=false:=decide_eq_false (by unfold sgn;rw[if_pos (by omega)];omega)
   have hl:m.length<=n.length:=by
    rcases xZ n.length m.length with h1 | h1
    ·have h2:=zgh cn.1;have h3:=zhv cm.2 (by intro e;rw[e]at h1;simp at h1);have h4:4294967296^n.length<=4294967296^(m.length-1):=qP (by decide) (by omega);omega
    ·exact h1
   have t1:=qky n m d c hl hn cn.1 cm.1 (by omega);have e:sgnZ t (val n-val m)=x+y:=by rw[vm,vn]at *;unfold sgnZ at *;cases s<;>cases t<;>simp_all<;>omega
   have ea:(x+y).natAbs=val n-val m:=by rw[<-e,zft]
   obtain⟨v,iv,t2⟩:=zhx t (some n.length) (zak (val n-val m)) (big _ (by rw[<-ea];exact hf));rw[zar,e]at iv;obtain⟨l',c',_,_,_,rfl⟩:=iv;refine⟨_,⟨l',c',by assumption,by assumption,by assumption,rfl⟩,?_⟩;refine oF o212 ?_;simp only[c212,r212_0,r212_1,SS,fC,reduceCtorEq,reduceIte,qQ,hst'];simp only[r212_3,SS,reduceIte,qQ];refine zaa t3 ?_;simp only[SS,fC,reduceIte,qQ,hsg];simp only[r212_5,SS,reduceIte,qQ];refine zaa t1 ?_ rfl (zcd _ _ _);simp only[SS,reduceIte,qQ];refine zaa t2 ?_;simp only[SS,reduceIte,qK,qQ,qX];exact dR
theorem iAdd{x y:Int}{a b:AV}(ha:zag x a)(hb:zag y b)(hf:(x+y).natAbs<BIG):∃v,zag (x+y) v/\Rt 200 [a,b] [] v []:=by
 obtain⟨l,c,hc,hl,hv,rfl⟩:=ha;obtain⟨r,d,hd,hlr,hw,rfl⟩:=hb;have t1:=zfl c hc (by omega);have t2:=zfl d hd (by omega);obtain⟨v,iv,t3⟩:=zro l r c d hl hlr hc hd hv hw _ _ (zti x) (zti y) hf;obtain⟨l',c',_,_,_,rfl⟩:=iv;refine⟨_,⟨l',c',by assumption,by assumption,by assumption,rfl⟩,?_⟩;refine oF o200 ?_;simp only[c200,r200_0,r200_1,SS,fC,reduceCtorEq,reduceIte,qK,qQ,qX];refine zaa t1 ?_;simp only[SS,fC,reduceIte,qK,qQ,qX];refine zaa t2 ?_;simp only[SS,reduceIte,qQ];refine zaa t3 ?_;simp only[SS,reduceIte,qK,qQ,qX];refine⟨rfl,?_⟩;exact dR
theorem iSub{x y:Int}{a b:AV}(ha:zag x a)(hb:zag y b)(hf:(x-y).natAbs<BIG):∃v,zag (x-y) v/\Rt 199 [a,b] [] v []:=by
 obtain⟨l,c,hc,hl,hv,rfl⟩:=ha;obtain⟨r,d,hd,hlr,hw,rfl⟩:=hb;have t1:=zfl c hc (by omega);have t2:=zfl d hd (by omega);obtain⟨v,iv,t3⟩:=zro (y:= -y) l r c d hl hlr hc hd hv (by omega) _ (!decide (y<0)) (zti x) (by rw[show(-y).natAbs=y.natAbs by omega];exact qkf y) hf;obtain⟨l',c',_,_,_,rfl⟩:=iv;refine⟨_,⟨l',c',by assumption,by assumption,by assumption,rfl⟩,?_⟩;refine oF o199 ?_;simp only[c199,r199_0,r199_1,SS,fC,reduceCtorEq,reduceIte,qK,qQ,qX];refine zaa t1 ?_;simp only[SS,fC,reduceIte,qK,qQ,qX];refine zaa t2 ?_;simp only[SS,reduceIte,qQ];refine zaa t3 ?_;simp only[SS,reduceIte,qK,qQ,qX];refine⟨rfl,?_⟩;exact dR
theorem jfj{x:Int}{a b:AV}(ha:zag x a)(hb:zag x b):Rt 51 [a,b] [] (.int .i64 0) []:=by
 have s1:=zwd ha;have s2:=zwd hb;obtain⟨l,c,hc,hl,hv,rfl⟩:=ha;obtain⟨r,d,hd,hlr,hw,rfl⟩:=hb;obtain rfl:l=r:=zdf hc hd (hv.trans hw.symm);have t1:=zfl c hc (by omega);have t2:=zfl d hd (by omega);have t3:=icmp l l c d (by omega) (by omega);rw[zel hc hc,show sgn (val l) (val l)=0 by unfold sgn;rw[if_neg (by omega),if_pos rfl]]at t3;have d1:decide (x.sign<x.sign)=false:=dF;refine oF o51 ?_;simp only[c51,r51_0,r51_1,SS,reduceCtorEq,reduceIte,qK,qQ,qX];refine zaa s1 ?_;simp only[SS,reduceIte,qK,qQ,qX];refine zaa s2 ?_;simp only[SS,reduceIte,qQ];refine⟨rfl,?_⟩;simp only[r51_2,r51_4,SS,fC,reduceIte,qQ,d1];simp only[r51_6,SS,fC,reduceIte,qK,qQ,qX];refine zaa t1 ?_;simp only[SS,fC,reduceIte,qK,qQ,qX];refine zaa t2 ?_;simp only[SS,reduceIte,qQ];refine zaa t3 ?_;simp only[SS,reduceIte,qQ,Int.mul_zero];refine⟨rfl,?_⟩;exact dR
theorem qrt{n out:List Nat}{i j cy x V:Nat}(ho:i+j<out.length)(h:val out+4294967296^(i+j)*cy=V+4294967296^i*(x*val (n.take j))):
  val (out.set (i+j) ((cy+(x*n.getD j 0+out.getD (i+j) 0))%4294967296))+4294967296^(i+(j+1))*((cy+(x*n.getD j 0+out.getD (i+j) 0))/4294967296)=V+4294967296^i*(x*val (n.take (j+1))):=by
 have h1:=zhw (v:=(cy+(x*n.getD j 0+out.getD (i+j) 0))%4294967296) ho;rw[zbn,show i+(j+1)=i+j+1 from rfl,xE]
 have e:4294967296^i*(x*(val (n.take j)+4294967296^j*n.getD j 0))=4294967296^i*(x*val (n.take j))+4294967296^(i+j)*(x*n.getD j 0):=by
  rw[xD,qT,qT,qM (4294967296^i),Nat.mul_left_comm x]
 rw[e];generalize 4294967296^(i+j)=p at*;generalize n.getD j 0=y at*;generalize out.getD (i+j) 0=o at*
 have e2:p*((cy+(x*y+o))%4294967296)+p*4294967296*((cy+(x*y+o))/4294967296)=p*cy+(p*(x*y)+p*o):=by
  rw[qM,<-qT,<-qT,<-qT,yH]
 omega
theorem qkz{x y o cy:Nat}(hx:x<4294967296)(hy:y<4294967296)(ho:o<4294967296)(hc:cy<4294967296):x*y<=18446744065119617025/\cy+(x*y+o)<18446744073709551616:=by
 have:=Nat.mul_le_mul (show x<=4294967295 by omega) (show y<=4294967295 by omega);omega
theorem jda{m n:List Nat}{c d cap:Option Nat}{i x V L:Nat}(hL:L<=2200)(hi:i+n.length<L)(hx:x<4294967296)(dn:Dig n){E:Env}{out:List Nat}{Q:Post}(hol:out.length=L)(hd:Dig out)(hz:∀t,i+n.length<=t->out.getD t 0=0)(hv:val out=V)
  (e1:E 1= .vec (u32s n) n.length d) (e5:E 5= .sl 0 0 L 1 (some L)) (e7:E 7= .int .u32 (x:Int)) (e8:E 8= .sl 0 i (n.length+1) 1 cap) (e9:E 9= .int .u64 0) (e32:E 32= .vec (u32s m) m.length c) (e33:E 33= .int .i64 (m.length:Nat)) (e34:E 34= .int .i64 (i:Nat)) (e49:E 49= .vec (u32s n) n.length d) (e50:E 50= .int .i64 (n.length:Nat)) (e51:E 51= .int .i64 0)
  (hQ:∀E out cy,out.length=L->Dig out->cy<4294967296->(∀t,i+n.length<=t->out.getD t 0=0)->val out+4294967296^(i+n.length)*cy=V+4294967296^i*(x*val n)->E 1= .vec (u32s n) n.length d->E 5= .sl 0 0 L 1 (some L)->E 8= .sl 0 i (n.length+1) 1 cap->E 9= .int .u64 (cy:Nat)->E 32= .vec (u32s m) m.length c->E 33= .int .i64 (m.length:Nat)->E 34= .int .i64 (i:Nat)->Q (.exit 2) E [some (u32s out)]):
  Wg 0 86 (.loop l109_1) E [some (u32s out)] Q:=by
 refine zaf (λk E H=>∃j cy out,j+k=n.length/\out.length=L/\Dig out/\cy<4294967296/\(∀t,i+n.length<=t->out.getD t 0=0)/\val out+4294967296^(i+j)*cy=V+4294967296^i*(x*val (n.take j))/\
   E 1= .vec (u32s n) n.length d/\E 5= .sl 0 0 L 1 (some L)/\E 7= .int .u32 (x:Int)/\E 8= .sl 0 i (n.length+1) 1 cap/\E 9= .int .u64 (cy:Nat)/\E 32= .vec (u32s m) m.length c/\E 33= .int .i64 (m.length:Nat)/\E 34= .int .i64 (i:Nat)/\E 49= .vec (u32s n) n.length d/\E 50= .int .i64 (n.length:Nat)/\E 51= .int .i64 (j:Nat)/\H=[some (u32s out)]) (n:=n.length)
  ⟨0,0,out,by omega,hol,hd,by omega,hz,by rw[hv];simp[Limb.val],e1,e5,e7,e8,e9,e32,e33,e34,e49,e50,e51,rfl⟩ ?_
 clear e1 e5 e7 e8 e9 e32 e33 e34 e49 e50 e51 hol hd hz hv out E;rintro k E H ⟨j,cy,out,hjk,hol,hd,hcy,hz,hv,e1,e5,e7,e8,e9,e32,e33,e34,e49,e50,e51,rfl⟩;refine wM ?_;have bn:=dn.getD j;have bo:=hd.getD (i+j);cases k with
 |zero=>
  obtain rfl:j=n.length:=by omega
  have d1:decide ((n.length:Int)<(n.length:Nat))=false:=dF;rw[xC]at hv;simp only[l109_1,r109_11,SS,fC,reduceIte,e50,e51,d1];refine hQ _ out cy hol hd hcy hz hv ?_ ?_ ?_ ?_ ?_ ?_ ?_
  all_goals simp only[UU,qQ, *]
 |succ k=>
  obtain⟨b1,b2⟩:=qkz hx bn bo hcy;have d1:decide ((j:Int)<(n.length:Nat))=true:=dT;have g2:=zbc n j (by omega) AV.junk;have g3:=zbc out (i+j) (by omega) AV.junk;have w1:IntKind.u64.wrap ((x:Int)*((n.getD j 0:Nat):Int))=((x*n.getD j 0:Nat):Int):=by rw[<-yI];exact zdl (by omega)
  have w2:IntKind.u64.wrap (((x*n.getD j 0:Nat):Int)+((out.getD (i+j) 0:Nat):Int))=((x*n.getD j 0+out.getD (i+j) 0:Nat):Int):=by rw[<-xV];exact zdl (by omega)
  have w3:IntKind.u64.wrap ((cy:Int)+((x*n.getD j 0+out.getD (i+j) 0:Nat):Int))=((cy+(x*n.getD j 0+out.getD (i+j) 0):Nat):Int):=by rw[<-xV];exact zdl b2
  have w5:=wS1 j (by omega);simp only[l109_1,r109_11,r109_12,SS,fC,reduceIte,qQ,e49,e50,e51,d1,qZ,g2,zap];refine⟨⟨by omega,by omega⟩,by omega,?_⟩;simp only[r109_13,SS,fC,reduceIte,qQ,e7,e8,e9,qZ,g3,zap,zdl (show x<18446744073709551616 by omega),zdl (show n.getD j 0<18446744073709551616 by omega),zdl (show out.getD (i+j) 0<18446744073709551616 by omega),w1,w2,w3];refine⟨⟨by omega,by omega⟩,by omega,?_⟩;simp only[r109_14,r109_15,r109_16,SS,reduceIte,qQ,e8,e51,qZ,wu32,zzk,zap,zet,w5];refine⟨⟨by omega,by omega⟩,by omega,by omega,k,_,_,by omega,⟨j+1,_,_,by omega,by rw[qC];exact hol,hd.set (qG _ (by decide)),by omega,λt ht=>by rw[zgl (by omega)];exact hz t ht,qrt (by omega) hv,?_,?_,?_,?_,?_,?_,?_,?_,?_,?_,?_,rfl⟩,.refl⟩
  all_goals simp only[UU,qQ,reduceIte, *]
theorem qyn(m n:List Nat)(c d:Option Nat)(hm:m.length<=1100)(hn:n.length<=1100)(cm:zbp m)(cn:zbp n):
  ∃c',Rt 109 [.vec (u32s m) m.length c,.vec (u32s n) n.length d] [] (.vec (u32s (zau (val m*val n))) (zau (val m*val n)).length c') []:=by
 by_cases h:m.length<=1/\n.length<=1
 ·have lt:∀l:List Nat,Dig l->l.length<=1->val l<4294967296:=λl hd hl=>by
   have h1:=zgh hd;have h2:4294967296^l.length<=4294967296^1:=qP (by decide) hl;omega
  have vm:=lt m cm.1 h.1;have vn:=lt n cn.1 h.2;have hmul:=(qkz vm vn (show 0<4294967296 by decide) (show 0<4294967296 by decide)).1;obtain⟨l,c',hc,_,hv,t3⟩:=zox (u:=val m*val n) (by omega);obtain rfl:l=zau (val m*val n):=zdf hc (zak _) (by rw[hv,zar]);have t1:=zzo c cm.1 (by omega);have t2:=zzo d cn.1 (by omega);have d1:decide ((m.length:Int)<=1)=true:=dT;have d2:decide ((n.length:Int)<=1)=true:=dT;have w1:IntKind.u64.wrap (((val m:Nat):Int)*((val n:Nat):Int))=((val m*val n:Nat):Int):=by rw[<-yI];exact zdl (by omega)
  refine⟨c',?_⟩;refine oF o109 ?_;simp only[c109,r109_0,r109_1,↓zcn,SS,fC,reduceCtorEq,reduceIte,qQ,d1,d2];simp only[r109_2,SS,reduceCtorEq,reduceIte,qQ];refine zaa t1 ?_;simp only[SS,reduceIte,qQ];refine zaa t2 ?_;simp only[SS,reduceIte,qQ,w1];refine zaa t3 ?_ rfl (zcd _ _ _);simp only[SS,reduceIte,qQ];exact dR
 ·refine⟨some (m.length+n.length),?_⟩
  have rest:∀E:Env,E 0= .vec (u32s m) m.length c->E 1= .vec (u32s n) n.length d->E 5= .sl 0 0 (m.length+n.length) 1 (some (m.length+n.length))->∀Q:Post,(∀E out,out.length=m.length+n.length->Dig out->val out=val m*val n->E 5= .sl 0 0 (m.length+n.length) 1 (some (m.length+n.length))->Q (.exit 0) E [some (u32s out)])->
    E 32= .vec (u32s m) m.length c->E 33= .int .i64 (m.length:Nat)->E 34= .int .i64 0->Wg 0 86 (.loop l109_0) E [some (u32s (List.replicate (m.length+n.length) 0))] Q:=by
   intro E e0 e1 e5 Q hQ e32 e33 e34
   refine zaf (λk E H=>∃i out,i+k=m.length/\out.length=m.length+n.length/\Dig out/\(∀t,i+n.length<=t->out.getD t 0=0)/\val out=val (m.take i)*val n/\
     E 1= .vec (u32s n) n.length d/\E 5= .sl 0 0 (m.length+n.length) 1 (some (m.length+n.length))/\E 32= .vec (u32s m) m.length c/\E 33= .int .i64 (m.length:Nat)/\E 34= .int .i64 (i:Nat)/\H=[some (u32s out)]) (n:=m.length)
    ⟨0,_,by omega,by simp,zzv _,λt _=>rep0 _ t,by rw[zzu,List.take_zero];simp[Limb.val],e1,e5,e32,e33,e34,rfl⟩ ?_
   clear e0 e1 e5 e32 e33 e34 E;rintro k E H ⟨i,out,hik,hol,hd,hz,hv,e1,e5,e32,e33,e34,rfl⟩;refine wM ?_;have bm:=cm.1.getD i;cases k with
   |zero=>
    obtain rfl:i=m.length:=by omega
    have d1:decide ((m.length:Int)<(m.length:Nat))=false:=dF;rw[xC]at hv;simp only[l109_0,r109_5,SS,fC,reduceIte,e33,e34,d1];refine hQ _ out hol hd hv ?_;simp only[UU,qQ,e5]
   |succ k=>
    have d1:decide ((i:Int)<(m.length:Nat))=true:=dT;have g1:=zbc m i (by omega) AV.junk;have w5:=wS1 i (by omega);have vs:=zbn m i;simp only[l109_0,r109_5,r109_6,r109_7,SS,fC,reduceIte,qQ,e32,e33,e34,d1,qZ,g1,zap];refine⟨⟨by omega,by omega⟩,by omega,λh0=>?_,λh0=>?_⟩
    ·have h0:m.getD i 0=0:=by omega
     simp only[r109_18,SS,reduceIte,qQ,e34,w5];refine⟨k,_,_,by omega,⟨i+1,out,by omega,hol,hd,λt ht=>hz t (by omega),by rw[vs,h0,xB,qO];exact hv,?_,?_,?_,?_,?_,rfl⟩,.refl⟩
     all_goals simp only[UU,qQ,reduceIte, *]
    ·have wa:IntKind.i64.wrap ((i:Int)+(n.length:Int))=((i+n.length:Nat):Int):=wQ (by omega);have wb:IntKind.i64.wrap (((i+n.length:Nat):Int)+1)=((i+n.length+1:Nat):Int):=wQ (by omega);have hne:i≠i+n.length+1:=by omega
     simp only[r109_8,r109_9,r109_10,SS,reduceIte,qQ,e1,e5,wa,wb,qZ,hne,if_false,show i+n.length+1-i=n.length+1 by omega];refine⟨by omega,by omega,⟨by omega,by omega⟩,?_⟩;refine jda (m:=m) (n:=n) (c:=c) (d:=d) (cap:=zdx i (some (m.length+n.length))) (i:=i) (x:=m.getD i 0) (V:=val out) (L:=m.length+n.length) (by omega) (by omega) bm cn.1 hol hd hz rfl ?_ ?_ ?_ ?_ ?_ ?_ ?_ ?_ ?_ ?_ ?_ ?_
     ·simp only[UU,qQ,e1]
     ·simp only[UU,qQ,e5]
     ·simp only[UU,qQ,reduceIte]
     ·simp only[UU,qQ,reduceIte]
     ·simp only[UU,qQ,reduceIte]
     ·simp only[UU,qQ,e32]
     ·simp only[UU,qQ,e33]
     ·simp only[UU,qQ,e34]
     ·simp only[UU,qQ,reduceIte]
     ·simp only[UU,qQ,reduceIte]
     ·simp only[UU,qQ,reduceIte]
     clear e1 e5 e32 e33 e34 E;intro E out2 cy hol2 hd2 hcy hz2 hv2 e1 e5 e8 e9 e32 e33 e34;have hs:=zhw (l:=out2) (i:=i+n.length) (v:=cy) (by omega);rw[hz2 _ (qH _),xB,qO,hv2,hv]at hs;simp only[r109_17,r109_18,SS,reduceIte,qQ,e1,e8,e9,e34,qZ,zzj hcy,zap,zet,w5];refine⟨⟨by omega,by omega⟩,by omega,k,_,_,by omega,⟨i+1,_,by omega,by rw[qC];exact hol2,hd2.set hcy,λt ht=>by rw[zgl (by omega)];exact hz2 t (by omega),?_,?_,?_,?_,?_,?_,rfl⟩,.refl⟩
     ·rw[hs,vs,yE,qM]
     all_goals simp only[UU,qQ,reduceIte, *]
  have wl:IntKind.i64.wrap ((m.length:Int)+(n.length:Int))=((m.length+n.length:Nat):Int):=wQ (by omega)
  have go:∀E:Env,E 0= .vec (u32s m) m.length c->E 1= .vec (u32s n) n.length d->Wg 0 86 (.seq (rN r109_3) (.seq (.seq (rN r109_4) (.block 0 (.loop l109_0))) (.seq (rN r109_19) .ret))) E [] (λx E' H'=>(x= .ret\/x= .normal)/\∃v',resA Tryz.prog [.tmp 4] E' H'=some v'/\AL.Fin 0 v' H' (.vec (u32s (zau (val m*val n))) (zau (val m*val n)).length (some (m.length+n.length))) []):=by
   intro E e0 e1;refine wM ?_;simp only[r109_3,r109_4,SS,reduceCtorEq,reduceIte,qQ,e0,e1,wl,zzw,qZ];refine⟨by omega,⟨by omega,by omega,by omega,by omega⟩,?_⟩;refine rest _ (by simp only[UU,qQ,e0]) (by simp only[UU,qQ,e1]) (by simp only[UU,qQ,reduceIte]) _ ?_ (by simp only[UU,qQ,reduceIte]) (by simp only[UU,qQ,reduceIte]) (by simp only[UU,qQ,reduceIte]);intro E out hol hd hv e5;have t1:=qfp out (some (m.length+n.length)) (by omega);rw[zdf (zaz hd) (zak (val m*val n)) (by rw[zbq,zar,hv]),hol]at t1;simp only[r109_19,SS,reduceCtorEq,reduceIte,e5];refine zpf t1 rfl hol.symm (zcd _ _ _) ?_;simp only[zay,zad,qU,qI,SS,reduceIte,qQ];exact dR
  refine oFW o109 ?_;simp only[c109];refine wW ?_;simp only[r109_0,SS];refine zkf (wM ?_);by_cases h1:m.length<=1
  ·have d1:decide ((m.length:Int)<=1)=true:=dT;have d2:decide ((n.length:Int)<=1)=false:=dF;simp only[r109_1,↓zcn,SS,fC,reduceCtorEq,reduceIte,qQ,d1,d2];exact go _ (by simp only[UU,qQ]) (by simp only[UU,qQ])
  ·have d1:decide ((m.length:Int)<=1)=false:=dF;simp only[r109_1,↓zki,SS,fC,reduceCtorEq,reduceIte,qQ,d1];exact go _ (by simp only[UU,qQ]) (by simp only[UU,qQ])
theorem iMul{x y:Int}{a b:AV}(ha:zag x a)(hb:zag y b)(hf:(x*y).natAbs<BIG):∃v,zag (x*y) v/\Rt 52 [a,b] [] v []:=by
 obtain⟨l,c,hc,hl,hv,rfl⟩:=ha;obtain⟨r,d,hd,hlr,hw,rfl⟩:=hb;have t1:=zfl c hc (by omega);have t2:=zfl d hd (by omega);obtain⟨c3,t3⟩:=qyn l r c d hl hlr hc hd;rw[hv,hw,<-Int.natAbs_mul]at t3;obtain⟨v,iv,t4⟩:=zhx (decide (x<0) != decide (y<0)) c3 (zak (x*y).natAbs) (canon_len (zak _) (by rw[zar];exact hf));have e:=qkc x y;rw[zar,e]at iv;obtain⟨l',c',_,_,_,rfl⟩:=iv;refine⟨_,⟨l',c',by assumption,by assumption,by assumption,rfl⟩,?_⟩;refine oF o52 ?_;simp only[c52,r52_0,r52_1,SS,fC,reduceCtorEq,reduceIte,qK,qQ,qX];refine zaa t1 ?_;simp only[SS,fC,reduceIte,qK,qQ,qX];refine zaa t2 ?_;simp only[SS,reduceIte,qQ];refine zaa t3 ?_ rfl (zcd _ _ _);simp only[SS,reduceIte,qQ];refine zaa t4 ?_;simp only[SS,reduceIte,qK,qQ,qX];refine⟨rfl,?_⟩;exact dR
end Go.Proofs.YtpflahgcdgdkjaaGreatDoor
namespace Go.Proofs.YtpflahgcdgdkjaaGreatDoor
open Nat renaming reduceEqDiff -> qQ, reduceLeDiff -> qX, reduceAdd -> qK, lt_of_le_of_lt -> qY, mod_lt -> qG, mod_eq_of_lt -> xK, div_le_self -> xY, eq_zero_or_pos -> xI, div_eq_of_lt -> xS, gcd_comm -> yX, gcd_zero_right -> yY, gcd_zero_left -> yC, gcd_le_left -> yL, mod_le -> yM
open List renaming getElem?_cons_succ -> qA, getElem?_cons_zero -> qD
open Go.AL.AV.closed renaming closedL -> qW
open Bool renaming and_self -> qB
open Go Go.AL Go.Proofs
noncomputable section
def q14:=V (RS Tryz.f14=·)
def q15:=V (RS Tryz.f15=·)
def r15_0:=X q15 0
def r15_1:=X q15 1
def r15_2:=X q15 2
def r15_3:=X q15 3
def r15_4:=X q15 4
def r15_5:=X q15 5
def r15_6:=X q15 6
def r15_7:=X q15 7
def r15_8:=X q15 8
def r15_9:=X q15 9
def r15_10:=X q15 10
def r15_11:=X q15 11
def r15_12:=X q15 12
def c15:CC:=(.seq (rN r15_0) (.seq (.seq (rN r15_1) (.seq (rN r15_2) (.cond (.t 21) (.seq (rN r15_3) .ret) .skip))) (.seq (.seq (rN r15_4) (.cond (.t 29) (.seq (rN r15_5) .ret) .skip)) (.seq (rN r15_6) (.seq (rN r15_7) (.seq (.seq (rN r15_8) (.cond (.t 50) (.seq (rN r15_9) .ret) .skip)) (.seq (rN r15_10) (.seq (rN r15_11) (.seq (.reg r15_12 (some [(5,7),(6,7)])) .ret)))))))))
theorem o15:FnI 15 73 Tryz.f15 c15 [.cell 6 42,.tmp 7]:=oM Tryz.func15
def q20:=V (RS Tryz.f20=·)
def r20_0:=X q20 0
def r20_1:=X q20 1
def r20_2:=X q20 2
def r20_3:=X q20 3
def r20_4:=X q20 4
def r20_5:=X q20 5
def r20_6:=X q20 6
def r20_7:=X q20 7
def r20_8:=X q20 8
def c20:CC:=(.seq (rN r20_0) (.seq (rN r20_1) (.seq (.reg r20_2 (some [(0,2),(1,2),(0,4),(1,4),(2,4),(3,4),(0,5),(1,5),(2,5),(3,5),(4,5)])) (.seq (.seq (.reg r20_3 (some [(1,4),(2,4)])) (.block 0 (.seq (rN r20_4) (.cond (.t 20) (.seq (rN r20_5) .ret) (.seq (rN r20_6) (.cond (.t 24) (.seq (rN r20_7) .ret) .skip)))))) (.seq (.reg r20_8 (some [(1,3),(1,6),(3,6),(4,6),(1,8),(3,8),(4,8),(6,8)])) .ret)))))
theorem o20:FnI 20 39 Tryz.f20 c20 [.tmp 4]:=oM Tryz.func20
def q34:=V (RS Tryz.f34=·)
def r34_0:=X q34 0
def r34_1:=X q34 1
def r34_2:=X q34 2
def r34_3:=X q34 3
def r34_4:=X q34 4
def r34_5:=X q34 5
def r34_6:=X q34 6
def r34_7:=X q34 7
def r34_8:=X q34 8
def r34_9:=X q34 9
def r34_10:=X q34 10
def r34_11:=X q34 11
def l34_0:CC:=(.seq (.seq (.reg r34_9 (some [])) (.cond (.t 38) .skip (.exit 0))) (.block 1 (.seq (rN r34_10) (rN r34_11))))
def r34_12:=X q34 12
def r34_13:=X q34 13
def r34_14:=X q34 14
def r34_15:=X q34 15
def l34_1:CC:=(.seq (.seq (rN r34_13) (.cond (.t 55) .skip (.exit 2))) (.seq (.block 3 (.reg r34_14 (some []))) (rN r34_15)))
def r34_16:=X q34 16
def c34:CC:=(.seq (rN r34_0) (.seq (.seq (rN r34_1) (.cond (.t 15) (.seq (rN r34_2) .ret) .skip)) (.seq (.seq (rN r34_3) (.cond (.t 19) (.seq (rN r34_4) .ret) .skip)) (.seq (rN r34_5) (.seq (rN r34_6) (.seq (rN r34_7) (.seq (rN r34_8) (.seq (.block 0 (.loop l34_0)) (.seq (.seq (rN r34_12) (.block 2 (.loop l34_1))) (.seq (.reg r34_16 (some [(0,1)])) .ret))))))))))
theorem o34:FnI 34 68 Tryz.f34 c34 [.tmp 4,.cell 5 40,.tmp 6]:=oM Tryz.func34
def q36:=V (RS Tryz.f36=·)
def r36_0:=X q36 0
def r36_1:=X q36 1
def r36_2:=X q36 2
def r36_3:=X q36 3
def r36_4:=X q36 4
def r36_5:=X q36 5
def r36_6:=X q36 6
def r36_7:=X q36 7
def r36_8:=X q36 8
def r36_9:=X q36 9
def c36:CC:=(.seq (rN r36_0) (.seq (rN r36_1) (.seq (.seq (rN r36_2) (.cond (.t 25) (.seq (rN r36_3) .ret) .skip)) (.seq (.reg r36_4 (some [(1,3),(1,4),(3,4),(1,5),(3,5),(4,5),(3,6)])) (.seq (.seq (rN r36_5) (.cond (.t 32) (.reg r36_6 (some [(2,3)])) .skip)) (.seq (rN r36_7) (.seq (rN r36_8) (.seq (rN r36_9) .ret))))))))
theorem o36:FnI 36 52 Tryz.f36 c36 [.cell 4 42,.tmp 5]:=oM Tryz.func36
def r37_0:RL:=[oP 2 (.box (.k (.agg [(.bool false),(.vec [] 0 (some 0)),(.bool false),(.vec [] 0 (some 0))])))]
def r37_1:RL:=[mV 3 0,cL 4 35 [.t 3],cL 5 84 [.t 4],sT (.store 4 (.t 2) (.t 5))]
def c37:CC:=(.seq (rN r37_0) (.seq (rN r37_1) .ret))
theorem o37:FnI 37 6 Tryz.f37 c37 [.cell 2 42]:=oM Tryz.func37
def q38:=V (RS Tryz.f38=·)
def r38_0:=X q38 0
def r38_1:=X q38 1
def r38_2:=X q38 2
def c38:CC:=(.seq (rN r38_0) (.seq (rN r38_1) (.seq (rN r38_2) .ret)))
theorem o38:FnI 38 14 Tryz.f38 c38 [.cell 4 42]:=oM Tryz.func38
def q40:=V (RS Tryz.f40=·)
def r49_0:RL:=[oP 1 (.box (.t 0)),oP 2 (.mov (kI 0))]
def r49_1:RL:=[oP 3 (.fld 0 (.t 1)),ldO 4 true 2 3,cL 5 76 [.t 4],mV 2 5]
def c49:CC:=(.seq (rN r49_0) (.seq (rN r49_1) .ret))
theorem o49:FnI 49 6 Tryz.f49 c49 [.tmp 2]:=oM Tryz.func49
def r50_0:RL:=[oP 1 (.box (.t 0)),oP 2 (.box (.k (.agg [(.bool false),(.vec [] 0 (some 0)),(.bool false),(.vec [] 0 (some 0))])))]
def r50_1:RL:=[ldO 3 true 4 1,cL 4 106 [.t 3],sT (.store 4 (.t 2) (.t 4))]
def c50:CC:=(.seq (rN r50_0) (.seq (rN r50_1) .ret))
theorem o50:FnI 50 5 Tryz.f50 c50 [.cell 2 75]:=oM Tryz.func50
def q82:=V (RS Tryz.f82=·)
def r82_0:=X q82 0
def r82_1:=X q82 1
def r82_2:=X q82 2
def r82_3:=X q82 3
def r82_4:=X q82 4
def r82_5:=X q82 5
def r82_6:=X q82 6
def r82_7:=X q82 7
def r82_8:=X q82 8
def r82_9:=X q82 9
def l82_0:CC:=(.seq (.seq (rN r82_5) (.cond (.t 17) .skip (.exit 0))) (.seq (.block 1 (.seq (rN r82_6) (.seq (rN r82_7) (.cond (.t 26) (rN r82_8) .skip)))) (rN r82_9)))
def r82_10:=X q82 10
def c82:CC:=(.seq (rN r82_0) (.seq (.seq (rN r82_1) (.cond (.t 13) (.seq (rN r82_2) .ret) .skip)) (.seq (rN r82_3) (.seq (.seq (rN r82_4) (.block 0 (.loop l82_0))) (.seq (rN r82_10) .ret)))))
theorem o82:FnI 82 31 Tryz.f82 c82 [.cell 4 40,.tmp 5]:=oM Tryz.func82
def q83:=V (RS Tryz.f83=·)
def r83_0:=X q83 0
def r83_1:=X q83 1
def r83_2:=X q83 2
def r83_3:=X q83 3
def r83_4:=X q83 4
def r83_5:=X q83 5
def r83_6:=X q83 6
def c83:CC:=(.seq (rN r83_0) (.seq (rN r83_1) (.seq (.seq (rN r83_2) (.cond (.t 11) (rN r83_3) .skip)) (.seq (rN r83_4) (.seq (rN r83_5) (.seq (rN r83_6) .ret))))))
theorem o83:FnI 83 31 Tryz.f83 c83 [.cell 4 42]:=oM Tryz.func83
def q84:=V (RS Tryz.f84=·)
def r84_0:=X q84 0
def r84_1:=X q84 1
def c84:CC:=(.seq (rN r84_0) (.seq (rN r84_1) .ret))
theorem o84:FnI 84 7 Tryz.f84 c84 [.cell 2 42]:=oM Tryz.func84
def q85:=V (RS Tryz.f85=·)
def r85_0:=X q85 0
def r85_1:=X q85 1
def r85_2:=X q85 2
def r85_3:=X q85 3
def r85_4:=X q85 4
def c85:CC:=(.seq (rN r85_0) (.seq (rN r85_1) (.seq (.seq (rN r85_2) (.cond (.t 11) (.seq (rN r85_3) .ret) .skip)) (.seq (rN r85_4) .ret))))
theorem o85:FnI 85 21 Tryz.f85 c85 [.cell 4 42,.tmp 5]:=oM Tryz.func85
def q106:=V (RS Tryz.f106=·)
def r106_0:=X q106 0
def r106_1:=X q106 1
def r106_2:=X q106 2
def r106_3:=X q106 3
def c106:CC:=(.seq (rN r106_0) (.seq (.seq (rN r106_1) (.cond (.t 6) (.seq (rN r106_2) .ret) .skip)) (.seq (rN r106_3) .ret)))
theorem o106:FnI 106 14 Tryz.f106 c106 [.cell 2 42]:=oM Tryz.func106
def q146:=V (RS Tryz.f146=·)
def r146_0:=X q146 0
def r146_1:=X q146 1
def c146:CC:=(.seq (rN r146_0) (.seq (.reg r146_1 (some [(1,4),(2,4)])) .ret))
theorem o146:FnI 146 13 Tryz.f146 c146 [.cell 4 40]:=oM Tryz.func146
def q148:=V (RS Tryz.f148=·)
def r148_0:=X q148 0
def r148_1:=X q148 1
def r148_2:=X q148 2
def r148_3:=X q148 3
def r148_4:=X q148 4
def r148_5:=X q148 5
def r148_6:=X q148 6
def r148_7:=X q148 7
def l148_0:CC:=(.seq (rN r148_3) (.seq (.cond (.t 13) .skip (.exit 0)) (.seq (.block 1 (.seq (rN r148_4) (.seq (rN r148_5) (.reg r148_6 (some [(0,2),(0,4),(2,4),(3,4),(0,6),(2,6),(3,6),(4,6)]))))) (rN r148_7))))
def r148_8:=X q148 8
def c148:CC:=(.seq (rN r148_0) (.seq (rN r148_1) (.seq (.seq (rN r148_2) (.block 0 (.loop l148_0))) (.seq (rN r148_8) .ret))))
theorem o148:FnI 148 30 Tryz.f148 c148 [.cell 2 42]:=oM Tryz.func148
def q196:=V (RS Tryz.f196=·)
def r196_0:=X q196 0
def r196_1:=X q196 1
def r196_2:=X q196 2
def r196_3:=X q196 3
def r196_4:=X q196 4
def r196_5:=X q196 5
def l196_0:CC:=(.seq (.seq (rN r196_1) (.cond (.t 16) .skip (.exit 0))) (.block 1 (.seq (.seq (rN r196_2) (.cond (.t 19) (.seq (rN r196_3) .ret) .skip)) (.seq (rN r196_4) (rN r196_5)))))
def r196_6:=X q196 6
def r196_7:=X q196 7
def r196_8:=X q196 8
def l196_1:CC:=(.seq (.seq (rN r196_7) (.cond (.t 35) .skip (.exit 2))) (.block 3 (.reg r196_8 (some []))))
def r196_9:=X q196 9
def c196:CC:=(.seq (rN r196_0) (.seq (.block 0 (.loop l196_0)) (.seq (rN r196_6) (.seq (.block 2 (.loop l196_1)) (.seq (rN r196_9) .ret)))))
theorem o196:FnI 196 42 Tryz.f196 c196 [.tmp 4]:=oM Tryz.func196
end
open Go.Limb
theorem qva{l:List Nat}{x:Nat}(hc:zbp l)(h:val l=x):l=zau x:=zdf hc (zak x) (by rw[h,zar])
theorem qla{u:Nat}(hu:u<18446744073709551616):∃c,Rt 81 [.int .u64 (u:Int)] [] (.vec (u32s (zau u)) (zau u).length c) []:=by
 obtain⟨l,c,hc,_,hv,t⟩:=zox hu;rw[qva hc hv]at t;exact⟨c,t⟩
theorem qyo(m n:List Nat)(c d:Option Nat)(cm:zbp m)(cn:zbp n)(hm:val m<18446744073709551616)(hn:val n<18446744073709551616)(hn0:val n≠0):
  ∃c1 c2,Rt 143 [.vec (u32s m) m.length c,.vec (u32s n) n.length d] [] (.tup [.vec (u32s (zau (val m/val n))) (zau (val m/val n)).length c1,.vec (u32s (zau (val m%val n))) (zau (val m%val n)).length c2]) []:=by
 have lm:=zdc cm hm;have ln:=zdc cn hn;have t0:=icmp m n c d (by omega) (by omega);rw[zel cm cn]at t0;by_cases h:val m<val n
 ·have hsg:decide (sgn (val m) (val n)<0)=true:=decide_eq_true (by unfold sgn;rw[if_pos h];omega);obtain⟨c2,t1⟩:=qke m c (by omega);rw[xS h,xK h,<-qva cm rfl];refine⟨some 0,c2,?_⟩;refine oF o143 ?_;simp only[c143,r143_0,r143_1,SS,reduceCtorEq,reduceIte,qQ];refine zaa t0 ?_;simp only[SS,fC,reduceIte,qQ,hsg];simp only[r143_2,SS,reduceCtorEq,reduceIte,qQ];refine zaa t1 ?_ rfl (zcd _ _ _);simp only[SS,reduceIte,qQ];exact dR
 ·have hsg:decide (sgn (val m) (val n)<0)=false:=decide_eq_false (by unfold sgn;rw[if_neg h];split<;>omega);have d1:decide ((m.length:Int)<=2)=true:=dT;have t1:=zzo c cm.1 lm;have t2:=zzo d cn.1 ln;obtain⟨c1,t3⟩:=qla (u:=val m/val n) (qY (xY _ _) hm);obtain⟨c2,t4⟩:=qla (u:=val m%val n) (qY (yM _ _) hm)
  have w1:IntKind.u64.wrap (Int.tdiv (val m:Nat) (val n:Nat))=((val m/val n:Nat):Int):=by
   show IntKind.u64.wrap ((val m/val n:Nat):Int)=_
   exact zdl (qY (xY _ _) hm)
  have w2:Int.tmod (val m:Nat) (val n:Nat)=((val m%val n:Nat):Int):=rfl;refine⟨c1,c2,?_⟩;refine oF o143 ?_;simp only[c143,r143_0,r143_1,SS,reduceCtorEq,reduceIte,qQ];refine zaa t0 ?_;simp only[SS,fC,reduceIte,qQ,hsg];simp only[r143_3,SS,fC,reduceCtorEq,reduceIte,qQ,d1];simp only[r143_4,SS,reduceCtorEq,reduceIte,qQ];refine zaa t1 ?_;simp only[SS,reduceIte,qQ];refine zaa t2 ?_;simp only[SS,reduceIte,qQ];simp only[r143_5,SS,reduceIte,qQ,w1];refine⟨by omega,?_⟩;refine zaa t3 ?_ rfl (zcd _ _ _);simp only[SS,reduceIte,qQ];refine⟨by omega,?_⟩;refine zaa t4 ?_ rfl (zcd _ _ _);simp only[SS,reduceIte,qQ];refine⟨rfl,?_⟩;exact dR
theorem zpg{x:Nat}(h:x<18446744073709551616):(zau x).length<=1100:=by
 have:=zdc (zak x) (by rw[zar];exact h);omega
theorem ztt{x y:Int}{a b:AV}(ha:zag x a)(hb:zag y b)(hx:x.natAbs<18446744073709551616)(hy:y.natAbs<18446744073709551616)(h0:y≠0)(hd:0<=x\/y∣x):
  ∃v w,zag (x/y) v/\zag (x%y) w/\Rt 79 [a,b] [] (.tup [v,w,.bool true]) []:=by
 obtain⟨l,c,hc,hl,hv,rfl⟩:=ha;obtain⟨r,d,hd',hlr,hw,rfl⟩:=hb;have t1:=zfl c hc (by omega);have t2:=zfl d hd' (by omega);obtain⟨c1,c2,t3⟩:=qyo l r c d hc hd' (by omega) (by omega) (by omega);rw[hv,hw]at t3;have hq:x.natAbs/y.natAbs<18446744073709551616:=qY (xY _ _) hx;have hr:x.natAbs%y.natAbs<18446744073709551616:=qY (yM _ _) hx;have hz:=zkg hd'
 have dr:decide ((r.length:Int)=0)=false:=decide_eq_false λe=>h0 (by
  have:=hz.2 (List.length_eq_zero_iff.1 (by omega));omega)
 have hm:=qG x.natAbs (show 0<y.natAbs by omega);obtain⟨hQ,hR⟩:=zre (x:=x) h0
 have hcase:¬(x.natAbs%y.natAbs≠0/\x<0):=λ⟨h1,h2⟩=>by
  rcases hd with h | h
  ·omega
  ·exact h1 (Nat.mod_eq_zero_of_dvd (Int.natAbs_dvd_natAbs.2 h))
 rw[if_neg hcase]at hQ hR;obtain⟨v,iv,t4⟩:=zhx (decide (x<0) != decide (y<0)) c1 (zak (x.natAbs/y.natAbs)) (zpg hq);obtain⟨w,iw,t5⟩:=zhx false c2 (zak (x.natAbs%y.natAbs)) (zpg hr);rw[zar,<-hQ]at iv
 rw[zar,show sgnZ false (x.natAbs%y.natAbs)=x%y by
  rw[hR];unfold sgnZ;simp only[Bool.false_eq_true,if_false,decide_eq_true_eq];split<;>omega]at iw
 obtain⟨l1,k1,_,_,_,rfl⟩:=id iv;obtain⟨l2,k2,_,_,_,rfl⟩:=id iw;refine⟨_,_,iv,iw,?_⟩
 have dlen:x<0->decide ((0:Int)<((zau (x.natAbs%y.natAbs)).length:Nat))=false:=λh=>by
  have e:x.natAbs%y.natAbs=0:=by omega
  rw[e];rfl
 refine oF o79 ?_;simp only[c79,r79_0,r79_1,SS,fC,reduceCtorEq,reduceIte,qK,qQ,qX];refine zaa t2 ?_;simp only[SS,reduceIte,qQ];simp only[r79_2,SS,fC,reduceIte,qQ,dr];simp only[r79_4,SS,fC,reduceIte,qK,qQ,qX];refine zaa t1 ?_;simp only[SS,reduceIte,qQ];refine zaa t3 ?_ rfl (by simp only[AV.closed,qW,qB]);simp only[SS,reduceIte,qQ,qD,qA];simp only[r79_5,SS,fC,reduceIte,qK,qQ,qX];by_cases hneg:x<0
 ·have d1:decide (x<0)=true:=decide_eq_true hneg;have d2:=dlen hneg;rw[d1]at t4;have e:(true != decide (y<0))=!decide (y<0):=by cases decide (y<0)<;>rfl
  rw[e]at t4;simp only[r79_6,↓zcn,↓zki,SS,fC,reduceIte,qK,qQ,qX,d1,d2];simp only[r79_7,SS,fC,reduceIte,qK,qQ,qX];simp only[r79_10,SS,reduceIte,qQ];simp only[r79_11,SS,reduceIte,qQ];refine zaa t4 ?_;simp only[SS,reduceIte,qQ];refine zaa t5 ?_;simp only[SS,reduceIte,qK,qQ,qX];exact dR
 ·have d1:decide (x<0)=false:=decide_eq_false hneg;rw[d1]at t4;have e:(false != decide (y<0))=decide (y<0):=by cases decide (y<0)<;>rfl
  rw[e]at t4;simp only[r79_6,↓zcn,↓zki,SS,fC,reduceIte,qK,qQ,qX,d1];simp only[r79_7,SS,fC,reduceIte,qK,qQ,qX];simp only[r79_11,SS,reduceIte,qQ];refine zaa t4 ?_;simp only[SS,reduceIte,qQ];refine zaa t5 ?_;simp only[SS,reduceIte,qK,qQ,qX];exact dR
theorem qyp(m n:List Nat)(c d:Option Nat)(cm:zbp m)(cn:zbp n)(hm:val m<18446744073709551616)(hn:val n<18446744073709551616):
  ∃c',Rt 196 [.vec (u32s m) m.length c,.vec (u32s n) n.length d] [] (.vec (u32s (zau (Nat.gcd (val m) (val n)))) (zau (Nat.gcd (val m) (val n))).length c') []:=by
 have lm:=zdc cm hm;have ln:=zdc cn hn
 have hg:Nat.gcd (val m) (val n)<18446744073709551616:=by
  rcases xI (val m)with h | h
  ·rw[h,yC];exact hn
  ·exact qY (yL _ h) hm
 obtain⟨c',t3⟩:=qla hg;refine⟨c',?_⟩;have t1:=zzo c cm.1 lm;have t2:=zzo d cn.1 ln;have d1:decide (2<(m.length:Int))=false:=dF;have d2:decide (2<(n.length:Int))=false:=dF;refine oF o196 ?_;simp only[c196,r196_0,SS,reduceCtorEq];refine W_un zoq 1 (zlu ?_);simp only[l196_0,r196_1,↓zcn,SS,fC,reduceCtorEq,reduceIte,qQ,d1,d2];simp only[r196_6,SS,reduceCtorEq,reduceIte,qQ];refine zaa t1 ?_;simp only[SS,reduceIte,qQ];refine zaa t2 ?_;simp only[SS,reduceIte,qQ]
 refine zaf (λq E H=>∃a b:Nat,b=q/\H=[]/\Nat.gcd a b=Nat.gcd (val m) (val n)/\E 7= .int .u64 (a:Int)/\E 8= .int .u64 (b:Int)) (n:=val n)
  ⟨val m,val n,rfl,rfl,rfl,by simp only[UU,qQ,reduceIte],by simp only[UU,qQ,reduceIte]⟩ ?_
 rintro q E H ⟨a,b,rfl,rfl,hgab,e7,e8⟩;refine wM ?_;rcases xI b with rfl | hb
 ·have d1:decide (((0:Nat):Int)≠0)=false:=by simp
  rw[yY]at hgab;rw[<-hgab]at t3 ⊢;simp only[l196_1,r196_7,SS,fC,reduceCtorEq,reduceIte,qQ,e8,d1];simp only[r196_9,SS,reduceIte,qQ,e7];refine zaa t3 ?_ rfl (zcd _ _ _);simp only[SS,reduceIte,qQ];exact dR
 ·have d1:decide ((b:Int)≠0)=true:=by simp;omega
  have et:Int.tmod (a:Int) (b:Int)=((a%b:Nat):Int):=rfl;simp only[l196_1,r196_7,r196_8,SS,fC,reduceCtorEq,reduceIte,qQ,e7,e8,d1,et];refine⟨by omega,rfl,a%b,_,_,qG a hb,⟨b,a%b,rfl,rfl,?_,?_,?_⟩,.refl⟩
  ·rw[<-hgab,yX a b];exact(Nat.gcd_rec b a).symm ▸ (yX _ _)
  all_goals simp only[UU,qQ,reduceIte, *]
theorem iGcd{x y:Int}{a b:AV}(ha:zag x a)(hb:zag y b)(hx:x.natAbs<18446744073709551616)(hy:y.natAbs<18446744073709551616):∃v,zag (Int.gcd x y:Nat) v/\Rt 146 [a,b] [] v []:=by
 obtain⟨l,c,hc,hl,hv,rfl⟩:=ha;obtain⟨r,d,hd,hlr,hw,rfl⟩:=hb;have t1:=zfl c hc (by omega);have t2:=zfl d hd (by omega);obtain⟨c3,t3⟩:=qyp l r c d hc hd (by omega) (by omega);rw[hv,hw]at t3
 have hg:Nat.gcd x.natAbs y.natAbs<18446744073709551616:=by
  rcases xI x.natAbs with h | h
  ·rw[h,yC];exact hy
  ·exact qY (yL _ h) hx
 obtain⟨v,iv,t4⟩:=zhx false c3 (zak _) (zpg hg);rw[zar]at iv;obtain⟨l1,k1,_,_,_,rfl⟩:=id iv;refine⟨_,iv,?_⟩;refine oF o146 ?_;simp only[c146,r146_0,r146_1,SS,fC,reduceCtorEq,reduceIte,qK,qQ,qX];refine zaa t1 ?_;simp only[SS,fC,reduceIte,qK,qQ,qX];refine zaa t2 ?_;simp only[SS,reduceIte,qQ];refine zaa t3 ?_ rfl (zcd _ _ _);simp only[SS,reduceIte,qQ];refine zaa t4 ?_;simp only[SS,reduceIte,qK,qQ,qX];refine⟨rfl,?_⟩;exact dR
end Go.Proofs.YtpflahgcdgdkjaaGreatDoor
namespace Go.Limb
open Nat renaming mod_lt -> qG, mul_assoc -> qM, mul_add -> qT, pow_lt_pow_right -> xQ, mod_eq_of_lt -> xK, div_div_eq_div_mul -> xA, pow_add -> xD, pow_succ -> xE, mul_one -> xN, div_eq_of_lt -> xS, mul_comm -> yQ, mod_mul_right_mod -> yV, or_lt_two_pow -> yB, add_mul -> yE
open List renaming replicate_succ -> xW
def zph(l:List Nat)(i:Nat):List Nat:=l.set (i/32) (l.getD (i/32) 0 ||| 2^(i%32))
theorem qfs(l:List Nat)(i:Nat):(zph l i).length=l.length:=by simp[zph]
theorem qyq(w:Nat):(4294967296:Nat)^w=2^(32*w):=by rw[Nat.pow_mul]
theorem qru{l:List Nat}{i:Nat}(h:Dig l)(h0:val l%2^(i+1)=0):l.getD (i/32) 0%2^(i%32+1)=0:=by
 rw[zwo l _ h,qyq];have hs:i%32<32:=qG _ (by decide);have hi:i+1=32*(i/32)+(i%32+1):=by omega
 obtain⟨t,ht⟩:2^(i+1)∣val l:=Nat.dvd_of_mod_eq_zero h0;rw[ht];have hp:2^(i+1)=2^(32*(i/32))*2^(i%32+1):=by rw[<-xD,<-hi]
 rw[hp,qM,Nat.mul_div_cancel_left _ (Nat.pow_pos (by decide))];generalize i%32=s at*
 have e3:(4294967296:Nat)=2^(s+1)*2^(31-s):=by
  rw[<-xD,show s+1+(31-s)=32 by omega]
 rw[e3,yV,Nat.mul_mod_right]
theorem zzx{l:List Nat}{i:Nat}(h:Dig l)(hi:i/32<l.length)(h0:val l%2^(i+1)=0):val (zph l i)=val l+2^i/\Dig (zph l i):=by
 have hz:=qru h h0;have hs:i%32<32:=qG _ (by decide);have hb:=h.getD (i/32)
 have hpl:2^(i%32)<4294967296:=by
  have:2^(i%32)<2^32:=xQ (by decide) hs;exact this
 have hor:l.getD (i/32) 0 ||| 2^(i%32)<4294967296:=yB (n:=32) hb hpl
 refine⟨?_,h.set hor⟩;have hv:=zhw (l:=l) (i:=i/32) (v:=l.getD (i/32) 0 ||| 2^(i%32)) hi;rw[qku hz,qT]at hv
 have e:4294967296^(i/32)*2^(i%32)=2^i:=by
  rw[qyq,<-xD];congr 1;omega
 rw[e]at hv;unfold zph;rw[qku hz];omega
structure DivS(m n:List Nat)(k:Nat)(qs r:List Nat):Prop where
 len:qs.length=m.length
 dig:Dig qs
 canon:zbp r
 lt:val r<val n
 ex:∃Q,val qs=Q*2^k/\val m/2^k=Q*val n+val r
theorem DivS.start{m n:List Nat}(hm:Dig m)(hn:val n≠0):DivS m n (32*m.length) (List.replicate m.length 0) []:=by
 have hr:∀k,val (List.replicate k 0)=0:=by
  intro k
  induction k with
  |zero=>rfl
  |succ k ih=>rw[xW,val,ih]
 refine⟨by simp,?_,zbp.nil,by show 0<val n;omega,0,by rw[hr];omega,?_⟩
 ·intro d hd;rw[List.eq_of_mem_replicate hd];decide
 ·have:=zgh hm;rw[qyq]at this;rw[xS this]
  show 0=0*val n+0
  omega
theorem qce{m:List Nat}{k:Nat}:val m/2^(k+1)=val m/2^k/2:=by
 rw[xA,xE]
theorem qcf(Q k:Nat):Q*2^(k+1)=2*Q*2^k:=by
 rw[xE,<-qM,yQ _ 2,qM]
theorem DivS.low{m n qs r r2:List Nat}{k:Nat}(h:DivS m n (k+1) qs r)(c2:zbp r2)(hv:val r2=2*val r+val m/2^k%2)(hlt:val r2<val n):DivS m n k qs r2:=by
 obtain⟨Q,e1,e2⟩:=h.ex;rw[qce]at e2;have:=(qca (V:=val m/2^k) (b:=val m/2^k%2) (qG _ (by decide)) e2 h.lt rfl).1 (by omega);exact⟨h.len,h.dig,c2,hlt,2*Q,by rw[e1,qcf],by rw[hv];exact this⟩
theorem DivS.high{m n qs r r2:List Nat}{k:Nat}(h:DivS m n (k+1) qs r)(hk:k<32*m.length)(c2:zbp r2)(hge:val n<=2*val r+val m/2^k%2)(hv:val r2+val n=2*val r+val m/2^k%2):DivS m n k (zph qs k) r2:=by
 obtain⟨Q,e1,e2⟩:=h.ex;rw[qce]at e2;have h2:=(qca (V:=val m/2^k) (b:=val m/2^k%2) (qG _ (by decide)) e2 h.lt rfl).2 hge;have hs:=zzx (i:=k) h.dig (by rw[h.len];omega) (by rw[e1];exact Nat.mul_mod_left _ _);refine⟨by rw[qfs,h.len],hs.2,c2,by omega,2*Q+1,?_,?_⟩
 ·rw[hs.1,e1,qcf,yE,Nat.one_mul]
 ·have e:val r2=2*val r+val m/2^k%2-val n:=by omega
  rw[e];exact h2.1
theorem DivS.done{m n qs r:List Nat}(h:DivS m n 0 qs r):val qs=val m/val n/\val r=val m%val n:=by
 obtain⟨Q,e1,e2⟩:=h.ex;simp only[Nat.pow_zero,xN,Nat.div_one]at e1 e2;have hlt:=h.lt;rw[e1,e2];constructor
 ·rw[yQ,Nat.mul_add_div (by omega),xS hlt];omega
 ·rw[yQ,Nat.mul_add_mod,xK hlt]
end Go.Limb
namespace Go.Proofs.YtpflahgcdgdkjaaGreatDoor
open Nat renaming reduceEqDiff -> qQ, reduceLeDiff -> qX, reduceAdd -> qK, lt_of_le_of_lt -> qY, mod_lt -> qG, le_refl -> qH, pow_le_pow_right -> qP, pow_lt_pow_right -> xQ, lt_or_ge -> xZ, mod_eq_of_lt -> xK, div_le_self -> xY, gcd_comm -> yX, gcd_zero_right -> yY, mod_le -> yM
open Int renaming toNat_natCast -> qZ, fdiv_eq_ediv_of_nonneg -> xX, natAbs_ediv_le_natAbs -> xM
open List renaming replicate_zero -> qU, getElem?_cons_succ -> qA, getElem?_cons_zero -> qD, append_nil -> qI, mapM_cons -> xU
open Go Go.AL Go.Proofs Go.Limb
theorem canon_len{m n:List Nat}(hm:zbp m)(hn:zbp n)(h:val m<=val n):m.length<=n.length:=by
 rcases xZ n.length m.length with h1 | h1
 ·have h2:=zgh hn.1;have h3:=zhv hm.2 (by intro e;rw[e]at h1;simp at h1);have h4:4294967296^n.length<=4294967296^(m.length-1):=qP (by decide) (by omega);omega
 ·exact h1
theorem and1{x:Nat}(hx:x<4294967296):IntKind.u32.wrap (((BitVec.ofInt IntKind.u32.bits (x:Int) &&& BitVec.ofInt IntKind.u32.bits 1).toNat:Nat):Int)=((x%2:Nat):Int):=by
 have h:(BitVec.ofInt IntKind.u32.bits (x:Int) &&& BitVec.ofInt IntKind.u32.bits 1).toNat=x%2:=by
  show(BitVec.ofInt 32 (x:Int) &&& BitVec.ofInt 32 ((1:Nat):Int)).toNat=x%2
  rw[BitVec.toNat_and,BitVec.ofInt_natCast,BitVec.ofInt_natCast,BitVec.toNat_ofNat,BitVec.toNat_ofNat,xK hx];exact Nat.and_one_is_mod x
 rw[h];exact zzj (by omega)
theorem shrN{x s:Nat}(hs:s<32):Int.fdiv (x:Int) (2^min s IntKind.u32.bits)=((x/2^s:Nat):Int):=by
 have e:min s IntKind.u32.bits=s:=by show min s 32=s;omega
 rw[e];have e2:(2:Int)^s=((2^s:Nat):Int):=by simp
 rw[e2,xX _ (Int.natCast_nonneg _)];rfl
theorem shlN{s:Nat}(hs:s<32):IntKind.u32.wrap ((1:Int)*2^min s IntKind.u32.bits)=((2^s:Nat):Int):=by
 have e:min s IntKind.u32.bits=s:=by show min s 32=s;omega
 rw[e,Int.one_mul];have e2:(2:Int)^s=((2^s:Nat):Int):=by simp
 rw[e2];refine zzj ?_;have:2^s<2^32:=xQ (by decide) hs;exact this
theorem zwp{m n:List Nat}{c d:Option Nat}(cm:zbp m)(cn:zbp n)(lm:m.length<=1100)(ln:n.length<=1100)(hn0:val n≠0){E:Env}{Q:Post}(e0:E 0= .vec (u32s m) m.length c)(e1:E 1= .vec (u32s n) n.length d)
  (e4:E 4= .sl 0 0 m.length 1 (some m.length)) (e5:E 5= .vec [] 0 (some 0)) (e8:E 8= .int .i64 (((32*m.length:Nat):Int)-1))
  (hQ:∀E' qs r cr,DivS m n 0 qs r->E' 4= .sl 0 0 m.length 1 (some m.length)->E' 5= .vec (u32s r) r.length cr->Q (.exit 0) E' [some (u32s qs)]):
  Wg 0 75 (.loop l211_0) E [some (u32s (List.replicate m.length 0))] Q:=by
 refine zaf (λk E H=>∃qs r cr,DivS m n k qs r/\k<=32*m.length/\E 0= .vec (u32s m) m.length c/\E 1= .vec (u32s n) n.length d/\E 4= .sl 0 0 m.length 1 (some m.length)/\E 5= .vec (u32s r) r.length cr/\E 8= .int .i64 ((k:Int)-1)/\H=[some (u32s qs)])
  (n:=32*m.length) ⟨_,[],some 0,DivS.start cm.1 hn0,qH _,e0,e1,e4,e5,e8,rfl⟩ ?_
 clear e0 e1 e4 e5 e8;rintro k E H ⟨qs,r,cr,hD,hk,e0,e1,e4,e5,e8,rfl⟩;refine wM ?_;simp only[l211_0,r211_6,SS,reduceIte,qQ,e8];refine⟨λhge=>?_,λhlt=>?_⟩
 ·obtain⟨k,rfl⟩:∃k',k=k'+1:=⟨k-1,by omega⟩
  have e5k:((k+1:Nat):Int)-1=(k:Nat):=by omega
  rw[e5k]at e8;have hw:k/32<m.length:=by omega
  have hs:k%32<32:=qG _ (by decide);have g1:=zbc m (k/32) hw AV.junk;have bm:=cm.1.getD (k/32);have lr:=canon_len hD.canon cn (Nat.le_of_lt hD.lt);have hb1:m.getD (k/32) 0/2^(k%32)<4294967296:=qY (xY _ _) bm;have hbit:=qyg m k cm.1;have hbl:m.getD (k/32) 0/2^(k%32)%2<=1:=by omega
  obtain⟨c1,t1⟩:=qyh r cr (m.getD (k/32) 0/2^(k%32)%2) hD.canon.1 hbl (by omega);have dd:=qrl r _ hD.canon.1 hbl;have dl:=qbz r (m.getD (k/32) 0/2^(k%32)%2);have dv:=qrk r (m.getD (k/32) 0/2^(k%32)%2);generalize hdb:dblL r (m.getD (k/32) 0/2^(k%32)%2)=db at*;obtain⟨c2,t2⟩:=zmx db c1 (by omega);have kc:=zaz dd;have kv:=zbq db;have kl:=zkh db;generalize zbf db=r1 at*;rw[dv,hbit]at kv;have t3:=zcmp r1 n c2 d (by omega) (by omega);rw[zel kc cn]at t3;have w3:IntKind.i64.wrap ((k:Int)-1)=(k:Int)-1:=w64 (by omega) (by omega);have q1:Int.tdiv (k:Int) 32=((k/32:Nat):Int):=rfl;have q2:Int.tmod (k:Int) 32=((k%32:Nat):Int):=rfl;have q3:IntKind.i64.wrap ((k/32:Nat):Int)=((k/32:Nat):Int):=w64 (by omega) (by omega);have q4:IntKind.i64.wrap ((k%32:Nat):Int)=((k%32:Nat):Int):=w64 (by omega) (by omega);simp only[r211_7,SS,fC,reduceCtorEq,reduceIte,qQ,e0,e5,e8,q1,q2,q3,qZ,g1,zap,shrN hs,and1 hb1];refine⟨by omega,⟨by omega,by omega⟩,by omega,by omega,by omega,?_⟩;refine zaa t1 ?_;simp only[SS,reduceIte,qQ];refine zaa t2 ?_;simp only[SS,reduceIte,qQ];simp only[r211_8,SS,reduceIte,qQ,e1];refine zaa t3 ?_;simp only[SS,reduceIte,qQ];refine⟨λhc=>?_,λhc=>?_⟩
  ·have hle:val n<=val r1:=by
    unfold sgn at hc;split at hc
    ·omega
    ·split at hc<;>omega
   have hl2:=canon_len cn kc hle;obtain⟨c3,t4⟩:=zjn r1 n c2 d (by omega) hl2 kc.1 cn.1;obtain⟨v1,v2,v3⟩:=zor r1 n kc.1 cn.1 hl2 hle r1.length 0 0 [] (by decide) rfl Dig.nil (by omega) (by simp[Limb.val]);generalize difL r1 n r1.length 0 0 []=r2 at*;obtain⟨c4,t5⟩:=zmx r2 c3 (by omega);have mc:=zaz v2;have mv:=zbq r2;generalize zbf r2=r3 at*;have hD2:=hD.high (r2:=r3) (by omega) mc (by rw[<-kv];exact hle) (by rw[mv,v1,kv]);have bq:=hD.dig.getD (k/32);have g2:=zbc qs (k/32) (by rw[hD.len];exact hw) AV.junk
   have hpl:2^(k%32)<4294967296:=by
    have:2^(k%32)<2^32:=xQ (by decide) hs;exact this
   have wo:=or32 bq hpl;simp only[r211_9,SS,reduceIte,qQ,e1];refine zaa t4 ?_;simp only[SS,reduceIte,qQ];refine zaa t5 ?_;simp only[SS,reduceIte,qQ];simp only[r211_10,SS,fC,reduceIte,qQ,e4,e8,q1,q2,q3,qZ,g2,zap,hD.len,shlN hs,wo,zet];refine⟨by omega,⟨by omega,by omega⟩,by omega,by omega,by omega,⟨by omega,by omega⟩,by omega,rfl,?_⟩;simp only[r211_11,SS,reduceIte,qQ,e8,w3];refine⟨k,_,_,by omega,⟨zph qs k,r3,c4,hD2,by omega,?_,?_,?_,?_,?_,rfl⟩,.refl⟩<;>simp only[UU,qQ,reduceIte, *]
  ·have hle:val r1<val n:=by
    unfold sgn at hc;split at hc
    ·assumption
    ·exfalso;split at hc<;>omega
   have hD2:=hD.low (r2:=r1) kc kv hle;simp only[r211_11,SS,reduceIte,qQ,e8,w3];refine⟨k,_,_,by omega,⟨qs,r1,c2,hD2,by omega,?_,?_,?_,?_,?_,rfl⟩,.refl⟩<;>simp only[UU,qQ,reduceIte, *]
 ·have hk0:k=0:=by omega
  subst hk0;exact hQ _ qs r cr hD (by simp only[UU,qQ,e4]) (by simp only[UU,qQ,e5])
theorem qyr(m n:List Nat)(c d:Option Nat)(cm:zbp m)(cn:zbp n)(lm:m.length<=1100)(ln:n.length<=1100)(hn0:val n≠0):DivC m n c d:=by
 by_cases hsm:m.length<=2/\n.length<=2
 ·have p2:∀l:List Nat,Dig l->l.length<=2->val l<18446744073709551616:=by
   intro l hl h;have h1:=zgh hl;have h2:4294967296^l.length<=4294967296^2:=qP (by decide) h;omega
  exact zth m n c d cm cn (p2 m cm.1 hsm.1) (p2 n cn.1 hsm.2) hn0
 have dq:val m/val n<=val m:=xY _ _;have dr:val m%val n<=val m:=yM _ _;have lq:=canon_len (zak (val m/val n)) cm (by rw[zar];exact dq);have lr:=canon_len (zak (val m%val n)) cm (by rw[zar];exact dr);refine⟨zau (val m/val n),zau (val m%val n),none,none,zak _,zak _,by omega,by omega,zar _,zar _,?_⟩;have w1:IntKind.i64.wrap (32*(m.length:Int))=((32*m.length:Nat):Int):=wQ (by omega);have w2:IntKind.i64.wrap (((32*m.length:Nat):Int)-1)=((32*m.length:Nat):Int)-1:=w64 (by omega) (by omega);have hrep:List.replicate m.length (AV.int IntKind.u32 0)=u32s (List.replicate m.length 0):=by simp[u32s]
 refine oFw o211 ?_
 have fin:∀E' qs r cr,DivS m n 0 qs r->E' 4= .sl 0 0 m.length 1 (some m.length)->E' 5= .vec (u32s r) r.length cr->
   wG 0 75 (.seq (.reg r211_12 none) .ret) E' [some (u32s qs)] (λx E' H'=>(x= .ret\/x= .normal)/\∃v' v'',resA Tryz.prog [(.tmp 4),(.tmp 5)] E' H'=some v'/\AL.Fin 0 v' H' v'' []/\v''.wk=(.tup [.vec (u32s (zau (val m/val n))) (zau (val m/val n)).length none,.vec (u32s (zau (val m%val n))) (zau (val m%val n)).length none])):=by
  intro E' qs r cr hD e4 e5;obtain⟨v1,v2⟩:=hD.done;obtain⟨c3,t1⟩:=zmx qs (some m.length) (by rw[hD.len];omega);have eq:zbf qs=zau (val m/val n):=zdf (zaz hD.dig) (zak _) (by rw[zbq,v1,zar]);have er:r=zau (val m%val n):=zdf hD.canon (zak _) (by rw[v2,zar]);rw[eq]at t1;subst er;simp only[r211_12,SS,reduceCtorEq,reduceIte,e4];refine zgg (id:=0) (cs:=u32s qs) (d:=2) (args0:=[.sl 0 0 m.length 1 (some m.length)]) (args':=[.vec (u32s qs) qs.length (some m.length)]) t1 rfl ?_ rfl ?_ rfl (zgy _) rfl
  ·have:=zzm (l:=qs) (n:=m.length) (c:=some m.length) hD.len.symm;rw[xU,this];simp[hD.len]
  simp only[zay,zad,qU,qI,SS,reduceIte,qQ,e5];refine⟨.inl trivial,_,_,rfl,.drop _ _ rfl (by intro i cs h;omega),?_⟩;simp only[AV.wk,AV.wk.wkL,qki,UU,qQ,reduceIte]
 rcases xZ 2 m.length with h2 | h2
 ·have d1:decide ((m.length:Int)<=2)=false:=dF;simp only[c211,r211_0,r211_1,SS,fC,reduceCtorEq,reduceIte,qQ,d1];simp only[r211_4,r211_5,SS,reduceCtorEq,reduceIte,qQ,qZ,w1,w2,hrep];refine⟨by omega,⟨by omega,by omega,by omega,by omega⟩,?_⟩;refine zwp (c:=c) (d:=d) cm cn lm ln hn0 (by simp only[UU,qQ]) (by simp only[UU,qQ]) (by simp only[UU,qQ,reduceIte]) (by simp only[UU,qQ,reduceIte]) (by simp only[UU,qQ,reduceIte]) ?_;intro E' qs r cr hD f4 f5;have:=fin E' qs r cr hD f4 f5;simp only[SS,reduceCtorEq,reduceIte]at this ⊢;exact this
 ·have d1:decide ((m.length:Int)<=2)=true:=dT;have d2:decide ((n.length:Int)<=2)=false:=dF;simp only[c211,r211_0,r211_1,SS,fC,reduceCtorEq,reduceIte,qQ,d1,d2];simp only[r211_4,r211_5,SS,reduceCtorEq,reduceIte,qQ,qZ,w1,w2,hrep];refine⟨by omega,⟨by omega,by omega,by omega,by omega⟩,?_⟩;refine zwp (c:=c) (d:=d) cm cn lm ln hn0 (by simp only[UU,qQ]) (by simp only[UU,qQ]) (by simp only[UU,qQ,reduceIte]) (by simp only[UU,qQ,reduceIte]) (by simp only[UU,qQ,reduceIte]) ?_;intro E' qs r cr hD f4 f5;have:=fin E' qs r cr hD f4 f5;simp only[SS,reduceCtorEq,reduceIte]at this ⊢;exact this
theorem zdj:DivB BIG:=⟨qH _,λx y _ _ h0 m n c d cm cn lm ln _ hn=>qyr m n c d cm cn lm ln (by omega)⟩
theorem qys{x y:Int}{a b:AV}(ha:zag x a)(hb:zag y b)(hy:y≠0):∃v,zag (x/y) v/\Rt 151 [a,b] [] v []:=
 zQuo ha hb hy (zdj.2 x y ha.fits hb.fits hy) (qY (xM x y) ha.fits)
theorem zRem{x y:Int}{a b:AV}(ha:zag x a)(hb:zag y b)(hy:y≠0):∃v,zag (x%y) v/\Rt 197 [a,b] [] v []:=by
 obtain⟨v,w,hv,hw,t⟩:=qkd ha hb hy (zdj.2 x y ha.fits hb.fits hy) (qY (xM x y) ha.fits);obtain⟨l,ca,_,_,_,rfl⟩:=ha;obtain⟨n,cb,_,_,_,rfl⟩:=hb;have hw0:=hw;obtain⟨lv,cv,_,_,_,rfl⟩:=hv;obtain⟨lw,cw,_,_,_,rfl⟩:=hw;refine⟨_,hw0,?_⟩;refine oF o197 ?_;simp only[c197,r197_0,r197_1,SS,reduceCtorEq,reduceIte,qK,qQ,qX];refine zaa t ?_;simp only[SS,reduceIte,qK,qQ,qX,qD,qA];simp only[r197_2,SS,reduceIte,qK,qQ,qX];exact dR
theorem zGcd{x y:Int}{a b:AV}(ha:zag x a)(hb:zag y b):Rt 150 [a,b] [] (intV (Int.gcd x y:Int)) []:=by
 obtain⟨va,hva,t1⟩:=zAbs ha;obtain⟨vb,hvb,t2⟩:=zAbs hb;obtain⟨l,ca,_,_,_,rfl⟩:=ha;obtain⟨n,cb,_,_,_,rfl⟩:=hb;obtain⟨la,da,_,_,_,hea⟩:=id hva;obtain⟨lb,db,_,_,_,heb⟩:=id hvb;subst hea heb;refine oFw o150 ?_;simp only[c150,r150_0,r150_1,SS,reduceCtorEq,reduceIte,qK,qQ,qX];refine zaa t1 ?_;simp only[SS,reduceIte,qK,qQ,qX];refine zaa t2 ?_;simp only[SS,reduceIte,qK,qQ,qX];refine⟨rfl,?_⟩
 refine zaf (λk E H=>∃(p q:Nat) (u1 v1 u2 v2:AV),q=k/\Nat.gcd p q=Int.gcd x y/\zag (p:Int) (.agg [u1,v1])/\zag (q:Int) (.agg [u2,v2])/\E 4= .ptr 2 0/\E 5= .ptr 3 0/\E 6= .ptr 4 0/\
  H=[some [.bool (decide (x<0)),.vec (u32s l) l.length ca],some [.bool (decide (y<0)),.vec (u32s n) n.length cb],some [.bool false,.vec [] 0 (some 0)],some [u1,v1],some [u2,v2]]) (n:=y.natAbs)
  ⟨x.natAbs,y.natAbs,_,_,_,_,rfl,rfl,hva,hvb,by simp only[UU,qQ,reduceIte],by simp only[UU,qQ,reduceIte],by simp only[UU,qQ,reduceIte],rfl⟩ ?_
 rintro k E H ⟨p,q,u1,v1,u2,v2,rfl,hg,h1,h2,e4,e5,e6,rfl⟩;refine wM ?_;have t3:=zwb h2;obtain⟨l1,c1,x1,y1⟩:=zam h1;obtain⟨l2,c2,x2,y2⟩:=zam h2;subst x1 y1 x2 y2;simp only[l150_0,r150_2,SS,reduceCtorEq,reduceIte,qK,qQ,qX,e6];refine zaa t3 ?_;simp only[SS,reduceIte,qQ];refine⟨λhne=>?_,λheq=>?_⟩
 ·have hq:(q:Int)≠0:=by
   intro e;rw[e]at hne;exact hne rfl
  obtain⟨w,hw,t4⟩:=zRem h1 h2 hq;obtain⟨lw,cw,_,_,_,rfl⟩:=id hw;have em:((p:Int)%(q:Int))=((p%q:Nat):Int):=by omega
  rw[em]at hw;have hlt:p%q<q:=qG _ (by omega);simp only[r150_3,SS,reduceIte,qK,qQ,qX,e5,e6];refine zaa t4 ?_;simp only[SS,reduceIte,qK,qQ,qX,e5,e6];refine⟨rfl,?_⟩;refine⟨p%q,_,_,hlt,⟨q,p%q,_,_,_,_,rfl,?_,h2,hw,?_,?_,?_,?_⟩,.refl⟩
  ·rw[<-hg,yX p q,Nat.gcd_rec q p,yX]
  ·simp only[UU,qQ,e4]
  ·simp only[UU,qQ,e5]
  ·simp only[UU,qQ,e6]
  ·rw[em]
 ·have hq:q=0:=by
   have h0:((q:Nat):Int).sign=0:=Decidable.not_not.1 heq;have:=Int.sign_eq_zero_iff_zero.1 h0;omega
  subst hq;rw[yY]at hg;rw[hg]at h1;simp only[r150_4,SS,reduceIte,qK,qQ,qX,e4,e5];exact⟨.inl trivial,_,_,zeu (id:=2) (by simp only[UU,qQ,e4]) rfl,.drop _ _ rfl (by intro i cs h;omega),h1.wk⟩
