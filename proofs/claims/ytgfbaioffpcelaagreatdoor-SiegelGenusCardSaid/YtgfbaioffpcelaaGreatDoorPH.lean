/- A part of the proof. -/
import Derived.Test.YtgfbaioffpcelaaGreatDoorPG
import Derived.Test.YtgfbaioffpcelaaGreatDoorKG
set_option linter.all false
set_option maxRecDepth 1000000
open Nat renaming reduceEqDiff -> qQ, reduceLeDiff -> qJ, reduceAdd -> qV, le_refl -> qA, zero_add -> qH, sub_self -> qN, mul_le_mul -> qS, reduceMul -> qT, add_zero -> xQ, le_trans -> xX, mul_assoc -> xZ, pow_le_pow_right -> xW, lt_or_ge -> xV, le_mul_of_pos_right -> xC, zero_le -> xE, eq_zero_or_pos -> xH, lt_of_le_of_lt -> xI, pow_succ -> xM, one_mul -> xN, pow_zero -> xO, mul_le_mul_right -> xP, not_lt_zero -> yZ, pow_one -> yJ, mul_pos -> yO, pow_add -> yP, mul_one -> yR, mul_le_mul_left -> yS, le_mul_of_pos_left -> zU, div_add_mod -> zE, add_assoc -> zO, add_sub_cancel -> jX, mul_comm -> jW, lt_trans -> jA
open Go.AL.AV.closed renaming closedL -> qX
open List renaming replicate_zero -> qZ, getD_eq_getElem?_getD -> qK, append_nil -> qW, getElem?_cons_succ -> qB, getElem?_cons_zero -> qC, getElem?_eq_getElem -> qE, take_of_length_le -> qG, getElem?_append_right -> qI, set_append_right -> qL, length_set -> qM, length_cons -> qP, length_nil -> xK, nil_append -> xY, length_append -> xU, length_map -> xD, length_take -> xG, getElem?_append_left -> xL, drop_zero -> xS, ext_getElem -> xT, map_congr_left -> yY, set_cons_succ -> yB, mapM_cons -> yE, getElem?_eq_none -> yG, not_mem_nil -> yH, set_cons_zero -> zQ, append_assoc -> zX, take_add_one -> zZ, getElem?_set -> zW, mem_cons -> zV, getElem_set -> zY, map_map -> zC, getElem?_set_self -> zD, length_replicate -> zI, set_append_left -> zL, mapM_nil -> zN, getElem_range -> jQ, map_replicate -> jZ, getElem?_map -> jV, length_drop -> jB, getElem_map -> jD, map_append -> jG
open Bool renaming and_self -> qY, true_and -> zP, false_eq_true -> zR
open Int renaming toNat_natCast -> qU, reduceNeg -> qD, mul_le_mul_of_nonneg_left -> qO, natCast_mul -> xJ, mul_le_mul_of_nonneg_right -> xA, mul_nonneg -> xB, zero_mul -> yQ, natCast_add -> yX, le_refl -> yK, reduceLE -> yW, reduceLT -> yV, dvd_mul_of_dvd_right -> yU, emod_nonneg -> yA, emod_lt_of_pos -> yC, dvd_mul_of_dvd_left -> yD, reduceSub -> yL, mul_assoc -> yM, mul_pos -> yN, pow_succ -> yT, one_mul -> zJ, dvd_add -> zK, mul_zero -> zA, le_total -> zB, neg_mul_neg -> zG, reduceAdd -> zM, tmod_lt_of_pos -> zS, lt_tmod_of_pos -> zT, zero_sub -> jJ, le_of_lt -> jK, pow_zero -> jY, mul_comm -> jU, natCast_zero -> jC, add_mul -> jE
open Option renaming getD_some -> yI
namespace Go.Proofs.YtgfbaioffpcelaaGreatDoor
open Go Go.AL Go.Proofs Go.Limb Go.Knuth
theorem qxo{x:Nat}:Int.fdiv (x:Int) (2^min (Int.toNat 32) IntKind.u64.bits)=((x/4294967296:Nat):Int):=by
 rw[show(2:Int)^min (Int.toNat 32) IntKind.u64.bits=4294967296 by decide,Int.fdiv_eq_ediv_of_nonneg _ (by decide)];omega
theorem qxp{L Y:List Nat}{o:Nat}(hL:o+11<=L.length)(hLL:L.length<=1100)(hY:Y.length=11)(dL:Dig L)(dY:Dig Y)(hb:sv (λi=>L.getD (o+i) 0) 11+sv (λi=>Y.getD i 0) 11<4294967296^11):
  Rt 187 [.ptr 0 o,.ptr 1 0] [some (u32s L),some (u32s Y)] (.tup []) [some (u32s (zdf L o 10 (sv (λi=>L.getD (o+i) 0) 11+sv (λi=>Y.getD i 0) 11))),some (u32s Y)]:=by
 refine oF o187 ?_;simp only[c187,r187_0,r187_1,SS,reduceCtorEq,reduceIte,qV]
 refine zaj (λk E H=>∃i W cy,i+k=11/\H=[some (u32s W),some (u32s Y)]/\W.length=L.length/\Dig W/\(∀t,t<o\/o+i<=t->W.getD t 0=L.getD t 0)/\cy<=1/\sv (λt=>W.getD (o+t) 0) i+4294967296^i*cy=sv (λt=>L.getD (o+t) 0) i+sv (λt=>Y.getD t 0) i/\
   E 0= .ptr 0 o/\E 1= .ptr 1 0/\E 4= .int .u64 (cy:Nat)/\E 7= .ptr 0 o/\E 8= .int .i64 (i:Nat)) (n:=11)
  ⟨0,L,0,rfl,rfl,rfl,dL,λ_ _=>rfl,by omega,by simp[sv],?_,?_,?_,?_,?_⟩ ?_
 ·rfl
 ·rfl
 ·rfl
 ·rfl
 ·rfl
 rintro k E H ⟨i,W,cy,hik,rfl,hWl,dW,hW,hcy,hv,e0,e1,e4,e7,e8⟩;refine wM ?_;cases k with
 |zero=>
  obtain rfl:i=11:=by omega
  have d1:decide (((11:Nat):Int)<11)=false:=by decide
  simp only[l187_0,r187_2,SS,fC,reduceCtorEq,reduceIte,e8,d1]
  have hc0:cy=0:=by
   rcases xH cy with h | h
   ·exact h
   ·have:=yS (4294967296^11) h;omega
  subst hc0;rw[Nat.mul_zero,xQ]at hv;rw[<-zlt (R:=L) (j:=o) (n:=10) hWl dW (λt ht=>hW t (by omega)) hv];exact⟨.inr trivial,_,rfl,.keep _ _⟩
 |succ k=>
  have d1:decide ((i:Int)<11)=true:=dT;have gW:=zal W (o+i) (by omega) AV.junk;have gY:=zal Y i (by omega) AV.junk;simp only[l187_0,r187_2,SS,fC,reduceCtorEq,reduceIte,e8,d1];simp only[r187_3,SS,fC,reduceIte,qQ,e7,e8,qU,gW];have b1:=dW.getD (o+i);have b2:=dY.getD i;have hWL:=hW (o+i) (by omega);refine⟨⟨by omega,by omega⟩,by rw[zae];omega,rfl,?_⟩;have w1:=zbg (show W.getD (o+i) 0<18446744073709551616 by omega);have w2:=zbg (show Y.getD i 0<18446744073709551616 by omega);have w3:IntKind.u64.wrap (((W.getD (o+i) 0:Nat):Int)+((Y.getD i 0:Nat):Int))=((W.getD (o+i) 0+Y.getD i 0:Nat):Int):=by rw[<-yX];exact zbg (by omega)
  have w4:IntKind.u64.wrap ((cy:Int)+((W.getD (o+i) 0+Y.getD i 0:Nat):Int))=((cy+(W.getD (o+i) 0+Y.getD i 0):Nat):Int):=by rw[<-yX];exact zbg (by omega)
  have w5:=wS1 i (by omega);simp only[r187_4,SS,fC,reduceIte,qQ,e1,e4,qU,gY,w1,w2,w3,w4];refine⟨⟨by omega,by omega⟩,by rw[zae];omega,?_⟩;simp only[r187_5,r187_6,r187_7,SS,reduceCtorEq,reduceIte,qQ,e0,e8,qU,wu32,zbq,qxo,w5];refine⟨⟨by omega,by omega⟩,by rw[zae];omega,by omega,?_⟩;refine⟨k,_,_,by omega,⟨i+1,W.set (o+i) ((cy+(W.getD (o+i) 0+Y.getD i 0))%4294967296),(cy+(W.getD (o+i) 0+Y.getD i 0))/4294967296,by omega,rfl,by rw[qM];exact hWl,dW.set (Nat.mod_lt _ (by decide)),λt ht=>?_,by omega,?_,?_,?_,?_,?_,?_⟩,.refl⟩
  ·rw[zbj (by omega)];exact hW t (by omega)
  ·simp only[sv,zcw (show o+i<W.length by omega)];rw[zcf (f:=λt=>(W.set (o+i) ((cy+(W.getD (o+i) 0+Y.getD i 0))%4294967296)).getD (o+t) 0) (g:=λt=>W.getD (o+t) 0) λt ht=>zbj (by omega)];have e:=zE (cy+(W.getD (o+i) 0+Y.getD i 0)) 4294967296;rw[hWL]at e ⊢;rw[xM];generalize (cy+(L.getD (o+i) 0+Y.getD i 0))/4294967296=q at*;generalize (cy+(L.getD (o+i) 0+Y.getD i 0))%4294967296=r at*;generalize 4294967296^i=P at*;have e2:P*(4294967296*q+r)=P*(cy+(L.getD (o+i) 0+Y.getD i 0)):=by rw[e]
   grind
  all_goals simp only[UU,qQ,reduceIte, *]
theorem qep{X:List Nat}{a:Nat}(hX:X.length=11)(dX:Dig X)(ha:a<2147483648)(hb:sv (λi=>X.getD i 0) 11*a<4294967296^11):
  Rt 188 [.ptr 0 0,.int .u64 (a:Int)] [some (u32s X)] (.tup []) [some (u32s (zdf X 0 10 (sv (λi=>X.getD i 0) 11*a)))]:=by
 refine oF o188 ?_;simp only[c188,r188_0,r188_1,SS,reduceCtorEq,reduceIte]
 refine zaj (λk E H=>∃i W cy,i+k=11/\H=[some (u32s W)]/\W.length=X.length/\Dig W/\(∀t,i<=t->W.getD t 0=X.getD t 0)/\cy<4294967296/\sv (λt=>W.getD t 0) i+4294967296^i*cy=sv (λt=>X.getD t 0) i*a/\
   E 0= .ptr 0 0/\E 1= .int .u64 (a:Int)/\E 4= .int .u64 (cy:Nat)/\E 7= .ptr 0 0/\E 8= .int .i64 (i:Nat)) (n:=11)
  ⟨0,X,0,rfl,rfl,rfl,dX,λ_ _=>rfl,by omega,by simp[sv],?_,?_,?_,?_,?_⟩ ?_
 ·rfl
 ·rfl
 ·rfl
 ·rfl
 ·rfl
 rintro k E H ⟨i,W,cy,hik,rfl,hWl,dW,hW,hcy,hv,e0,e1,e4,e7,e8⟩;refine wM ?_;cases k with
 |zero=>
  obtain rfl:i=11:=by omega
  have d1:decide (((11:Nat):Int)<11)=false:=by decide
  simp only[l188_0,r188_2,SS,fC,reduceCtorEq,reduceIte,e8,d1]
  have hc0:cy=0:=by
   rcases xH cy with h | h
   ·exact h
   ·have:=yS (4294967296^11) h;omega
  subst hc0;rw[Nat.mul_zero,xQ]at hv
  rw[<-zlt (R:=X) (j:=0) (n:=10) hWl dW (λt ht=>hW t (by omega)) (by
   rw[zcf (g:=λt=>W.getD t 0) λt _=>by rw[qH]];exact hv)]
  exact⟨.inr trivial,_,rfl,.keep _ _⟩
 |succ k=>
  have d1:decide ((i:Int)<11)=true:=dT;have gW:=zal W i (by omega) AV.junk;simp only[l188_0,r188_2,SS,fC,reduceCtorEq,reduceIte,e8,d1];simp only[r188_3,SS,fC,reduceIte,qQ,e7,e8,qU,gW];have b1:=dW.getD i;have hWL:=hW i (by omega);refine⟨⟨by omega,by omega⟩,by rw[zae];omega,rfl,?_⟩;have hm:=qS (show W.getD i 0<=4294967295 by omega) (show a<=2147483647 by omega);have w1:=zbg (show W.getD i 0<18446744073709551616 by omega);have w3:IntKind.u64.wrap (((W.getD i 0:Nat):Int)*(a:Int))=((W.getD i 0*a:Nat):Int):=by rw[<-xJ];exact zbg (by omega)
  have w4:IntKind.u64.wrap ((cy:Int)+((W.getD i 0*a:Nat):Int))=((cy+W.getD i 0*a:Nat):Int):=by rw[<-yX];exact zbg (by omega)
  have w5:=wS1 i (by omega);simp only[r188_4,SS,reduceIte,qQ,e1,e4,w1,w3,w4];simp only[r188_5,r188_6,r188_7,SS,reduceCtorEq,reduceIte,qQ,e0,e8,qU,wu32,zbq,qxo,w5];refine⟨⟨by omega,by omega⟩,by rw[zae];omega,by omega,?_⟩;refine⟨k,_,_,by omega,⟨i+1,W.set i ((cy+W.getD i 0*a)%4294967296),(cy+W.getD i 0*a)/4294967296,by omega,rfl,by rw[qM];exact hWl,dW.set (Nat.mod_lt _ (by decide)),λt ht=>?_,by omega,?_,?_,?_,?_,?_,?_⟩,.refl⟩
  ·rw[zbj (by omega)];exact hW t (by omega)
  ·simp only[sv,zcw (show i<W.length by omega)];rw[zcf (f:=λt=>(W.set i ((cy+W.getD i 0*a)%4294967296)).getD t 0) (g:=λt=>W.getD t 0) λt ht=>zbj (by omega)];have e:=zE (cy+W.getD i 0*a) 4294967296;rw[hWL]at e ⊢;rw[xM];generalize (cy+X.getD i 0*a)/4294967296=q at*;generalize (cy+X.getD i 0*a)%4294967296=r at*;generalize 4294967296^i=P at*;have e2:P*(4294967296*q+r)=P*(cy+X.getD i 0*a):=by rw[e]
   grind
  all_goals simp only[UU,qQ,reduceIte, *]
theorem qok{l r:List Nat}{c d:Option Nat}(hl:l.length<=1100)(hr:r.length<=1100)(dl:Dig l)(dr:Dig r):∃v,zap ((val l:Int)-(val r:Nat)) v/\Rt 189 [.agg [.bool false,.vec (u32s l) l.length c],.agg [.bool false,.vec (u32s r) r.length d]] [] v []:=by
 have t1:=zpv l c (by omega);have t2:=zpv r d (by omega);have l1:(zbi l).length<=1100:=by unfold zbi;rw[xG];omega
 have r1:(zbi r).length<=1100:=by unfold zbi;rw[xG];omega
 have hx:((val l:Int)-(val r:Nat)).natAbs<BIG:=by
  have:=zem dl hl;have:=zem dr hr;omega
 obtain⟨v,iv,t3⟩:=znc (x:=(val l:Int)) (y:= -(val r:Nat)) (zbi l) (zbi r) c d l1 r1 (zbc dl) (zbc dr) (by rw[zbp];rfl) (by rw[zbp];omega) false true (by simp[sgnZ]) (by simp[sgnZ]) (by rw[show(val l:Int)+ -(val r:Nat)=(val l:Int)-(val r:Nat) by omega];exact hx);rw[show(val l:Int)+ -(val r:Nat)=(val l:Int)-(val r:Nat) by omega]at iv;obtain⟨l',c',_,_,_,rfl⟩:=iv;refine⟨_,⟨l',c',by assumption,by assumption,by assumption,rfl⟩,?_⟩;refine oF o189 ?_;simp only[c189,r189_0,r189_1,SS,fC,reduceCtorEq,reduceIte,qV,qQ,qJ];refine zaa t1 ?_;simp only[SS,fC,reduceIte,qV,qQ,qJ];refine zaa t2 ?_;simp only[SS,reduceIte,qQ];refine zaa t3 ?_;simp only[SS,reduceIte,qV,qQ,qJ];refine⟨rfl,?_⟩;exact dR
structure NP(L:List Nat)(s0 s1:Nat):Prop where
 len:L.length=22
 dig:Dig L
 v0:sv (λi=>L.getD (0+i) 0) 11=s0
 v1:sv (λi=>L.getD (11+i) 0) 11=s1
theorem zre{R:List Nat}{j n r:Nat}(hl:j+n+1<=R.length)(hr:r<4294967296^(n+1)):sv (λi=>(zdf R j n r).getD (j+i) 0) (n+1)=r:=by
 rw[zcf (g:=λi=>r/4294967296^i%4294967296) λi hi=>by
  rw[zdq (by omega),if_pos (by omega),show j+i-j=i by omega]]
 rw[zls,Nat.mod_eq_of_lt hr]
theorem NP.set0{L:List Nat}{s0 s1 v:Nat}(h:NP L s0 s1)(hv:v<4294967296^11):NP (zdf L 0 10 v) v s1 where
 len:=by rw[zfe];exact h.len
 dig:=zjv h.dig _ _ _
 v0:=zre (n:=10) (by rw[h.len];omega) hv
 v1:=by
  rw[<-h.v1];exact zcf λi hi=>by rw[zdq (by rw[h.len];omega),if_neg (by omega)]
theorem NP.set1{L:List Nat}{s0 s1 v:Nat}(h:NP L s0 s1)(hv:v<4294967296^11):NP (zdf L 11 10 v) s0 v where
 len:=by rw[zfe];exact h.len
 dig:=zjv h.dig _ _ _
 v0:=by
  rw[<-h.v0];exact zcf λi hi=>by rw[zdq (by rw[h.len];omega),if_neg (by omega)]
 v1:=zre (n:=10) (by rw[h.len];omega) hv
def zjj:List Nat:=[1,0,0,0,0,0,0,0,0,0,0]
theorem jcs:sv (λi=>zjj.getD i 0) 11=1:=by decide
theorem qbs:Dig zjj:=λd h=>by
 simp only[zjj,zV,yH,or_false]at h;omega
theorem qol{w b a s0 s1:Nat}{L:List Nat}{E:Env}{H:Heap}{Q:Post}(hL:NP L s0 s1)(ha:a<=40000)(hb0:s0<4294967296)(hb1:s1<4294967296)(hw:getB H w=some (u32s L))(hbb:getB H b=some (u32s zjj))(hwb:w≠b)
  (e9:E 9= .int .i64 (a:Int)) (e10:E 10= .sl w 0 2 11 (some 2)) (e13:E 13= .ptr b 0) (e43:E 43= .int .i64 2) (e44:E 44= .int .i64 0)
  (hQ:∀E' H' L',NP L' (s0+1) (s1+a)->getB H' w=some (u32s L')->H'.length=H.length->(∀i,i≠w->i≠b->getB H' i=getB H i)->(∀t,t∉[14,44,45,46,47,48,49,50,51,52,53,54]->E' t=E t)->Q (.exit 3) E' H'):Wg 0 79 (.loop l109_1) E H Q:=by
 have hwl:=zam hw;have hbl:=zam hbb;have eP:=jcs;have t1:=qxp (L:=L) (Y:=zjj) (o:=0) (by rw[hL.len];omega) (by rw[hL.len];omega) rfl hL.dig qbs (by rw[hL.v0,eP];omega);rw[hL.v0,eP]at t1;have n1:=hL.set0 (v:=s0+1) (by omega);generalize zdf L 0 10 (s0+1)=L1 at*;have t2:=qep (X:=zjj) (a:=a) rfl qbs (by omega) (by rw[eP];omega);rw[eP,xN]at t2;have p1:sv (λi=>(zdf zjj 0 10 a).getD (0+i) 0) 11=a:=zre (n:=10) (by decide) (by omega);rw[zcf (g:=λi=>(zdf zjj 0 10 a).getD i 0) λi _=>by rw[qH]]at p1;have pl:(zdf zjj 0 10 a).length=11:=zfe ..;have pd:Dig (zdf zjj 0 10 a):=zjv qbs 0 10 a;generalize zdf zjj 0 10 a=Y at*;have t3:=qxp (L:=L1) (Y:=Y) (o:=11) (by rw[n1.len];omega) (by rw[n1.len];omega) pl n1.dig pd (by rw[n1.v1,p1];omega);rw[n1.v1,p1]at t3;have n2:=n1.set1 (v:=s1+a) (by omega);generalize zdf L1 11 10 (s1+a)=L2 at*;have haa:=qS ha ha;have t4:=qep (X:=Y) (a:=a) pl pd (by omega) (by rw[p1];omega);rw[p1]at t4;generalize zdf Y 0 10 (a*a)=Y2 at*;have wa:IntKind.u64.wrap (a:Int)=(a:Int):=zbg (by omega);have w1:IntKind.i64.wrap (0+1)=1:=by decide
 refine W_un zuo 3 (zkx ?_);simp only[l109_1,r109_13,SS,fC,reduceIte,e43,e44,show decide ((0:Int)<2)=true from rfl];simp only[r109_14,r109_15,SS,reduceIte,qQ,e10,e13,e44,qT,tn0,le0];refine⟨by decide,?_⟩;refine zlv t1 (i:=w) (j:=b) hw hbb hwb (by simp[AV.ren,zan]) ?_ rfl (zao _) (zao _) (zao _) (zao _) rfl;simp only[zaf,zac,qZ,qW,SS];have c1:getB ((H.set w (some (u32s L1))).set b (some (u32s zjj))) b=some (u32s zjj):=zaw (by rw[qM];exact hbl);have c2:getB ((H.set w (some (u32s L1))).set b (some (u32s zjj))) w=some (u32s L1):=by rw[zai (λe=>hwb e.symm),zaw hwl]
 have c3:∀i,i≠w->i≠b->getB ((H.set w (some (u32s L1))).set b (some (u32s zjj))) i=getB H i:=λi h1 h2=>by rw[zai (λe=>h2 e.symm),zai (λe=>h1 e.symm)]
 have c4:((H.set w (some (u32s L1))).set b (some (u32s zjj))).length=H.length:=by rw[qM,qM]
 generalize (H.set w (some (u32s L1))).set b (some (u32s zjj))=H1 at*;have hbl1:=zam c1;have hwl1:=zam c2;simp only[r109_16,r109_17,SS,reduceIte,qQ,e9,e13,wa];refine zcm t2 (id:=b) c1 (by simp[AV.ren,zan]) ?_ rfl (zao _) (zao _) rfl;simp only[zaf,zac,qZ,qW,SS,reduceIte,qQ,e44,w1];refine zkx ?_;simp only[SS,fC,reduceIte,qQ,e43,show decide ((1:Int)<2)=true from rfl];simp only[SS,reduceIte,qQ,e10,e13,yW,qT,tn1];refine⟨by decide,?_⟩;have d1:getB (H1.set b (some (u32s Y))) b=some (u32s Y):=zaw hbl1;have d2:getB (H1.set b (some (u32s Y))) w=some (u32s L1):=by rw[zai (λe=>hwb e.symm)];exact c2
 have d3:∀i,i≠w->i≠b->getB (H1.set b (some (u32s Y))) i=getB H i:=λi h1 h2=>by rw[zai (λe=>h2 e.symm)];exact c3 i h1 h2
 have d4:(H1.set b (some (u32s Y))).length=H.length:=by rw[qM];exact c4
 generalize H1.set b (some (u32s Y))=H2 at*;have hbl2:=zam d1;have hwl2:=zam d2;refine zlv t3 (i:=w) (j:=b) d2 d1 hwb (by simp[AV.ren,zan]) ?_ rfl (zao _) (zao _) (zao _) (zao _) rfl;have w2:IntKind.i64.wrap (1+1)=2:=by decide
 simp only[zaf,zac,qZ,qW,SS,reduceIte,qQ,e9,e13,wa];have f1:getB ((H2.set w (some (u32s L2))).set b (some (u32s Y))) b=some (u32s Y):=zaw (by rw[qM];exact hbl2);have f2:getB ((H2.set w (some (u32s L2))).set b (some (u32s Y))) w=some (u32s L2):=by rw[zai (λe=>hwb e.symm),zaw hwl2]
 have f3:∀i,i≠w->i≠b->getB ((H2.set w (some (u32s L2))).set b (some (u32s Y))) i=getB H i:=λi h1 h2=>by rw[zai (λe=>h2 e.symm),zai (λe=>h1 e.symm)];exact d3 i h1 h2
 have f4:((H2.set w (some (u32s L2))).set b (some (u32s Y))).length=H.length:=by rw[qM,qM];exact d4
 generalize (H2.set w (some (u32s L2))).set b (some (u32s Y))=H3 at*;refine zcm t4 (id:=b) f1 (by simp[AV.ren,zan]) ?_ rfl (zao _) (zao _) rfl;simp only[zaf,zac,qZ,qW,SS,reduceIte,qQ,e44,w2];refine zkx ?_;simp only[SS,fC,reduceIte,qQ,e43,show decide ((2:Int)<2)=false from rfl];refine hQ _ _ L2 n2 (by rw[zai (λe=>hwb e.symm)];exact f2) (by rw[qM];exact f4) (λi h1 h2=>by rw[zai (λe=>h2 e.symm)];exact f3 i h1 h2) (λt ht=>?_);simp only[zV,yH,or_false,not_or]at ht;simp only[upd,ht,if_false]
def sP(g:Nat->Int)(s:Int)(j:Nat):Nat->Nat
 |0=>0
 |n+1=>sP g s j n+if g (n+1)=s then(n+1)^j else 0
theorem zrw(g:Nat->Int)(s:Int){j:Nat}(hj:j<=1):∀n,n<=40000->sP g s j n<=n*40000
 |0,_=>by simp[sP]
 |n+1,h=>by
  have ih:=zrw g s hj n (by omega)
  have hp:(n+1)^j<=40000:=by
   rcases(by omega:j=0\/j=1)with rfl | rfl
   ·rw[xO];omega
   ·rw[yJ];omega
  simp only[sP,Nat.succ_mul];split<;>omega
theorem jgr{D:Int}{f:Nat}{g:Nat->Int}{Q:Post}(hD: -40000<=D/\D<=40000)(hf:f<=40000)(hg:∀a,1<=a->a<=f->KR D 1 a (g a)/\(g a=0\/g a=1\/g a= -1)){E:Env}{H:Heap}{P0 M0:List Nat}(hP:NP P0 0 0)(hM:NP M0 0 0)(hH0:getB H 0=some (u32s P0))(hH1:getB H 1=some (u32s M0))
  (e0:E 0= .int .i64 1) (e1:E 1= .int .i64 D) (e2:E 2= .int .i64 (f:Nat)) (e7:E 7= .sl 0 0 2 11 (some 2)) (e8:E 8= .sl 1 0 2 11 (some 2)) (e9:E 9= .int .i64 1)
  (hQ:∀E' H' Pl Ml,NP Pl (sP g 1 0 f) (sP g 1 1 f)->NP Ml (sP g (-1) 0 f) (sP g (-1) 1 f)->getB H' 0=some (u32s Pl)->getB H' 1=some (u32s Ml)->E' 0= .int .i64 1->E' 7= .sl 0 0 2 11 (some 2)->E' 8= .sl 1 0 2 11 (some 2)->Q (.exit 0) E' H'):Wg 0 79 (.loop l109_0) E H Q:=by
 refine zaj (λk E H=>∃i Pl Ml,i+k=f/\NP Pl (sP g 1 0 i) (sP g 1 1 i)/\NP Ml (sP g (-1) 0 i) (sP g (-1) 1 i)/\getB H 0=some (u32s Pl)/\getB H 1=some (u32s Ml)/\E 0= .int .i64 1/\E 1= .int .i64 D/\E 2= .int .i64 (f:Nat)/\E 7= .sl 0 0 2 11 (some 2)/\E 8= .sl 1 0 2 11 (some 2)/\E 9= .int .i64 ((i+1:Nat):Int)) (n:=f)
  ⟨0,P0,M0,by omega,hP,hM,hH0,hH1,e0,e1,e2,e7,e8,e9⟩ ?_
 clear e0 e1 e2 e7 e8 e9 hP hM hH0 hH1 E H;rintro k E H ⟨i,Pl,Ml,hik,hP,hM,h0,h1,e0,e1,e2,e7,e8,e9⟩;refine wM ?_;cases k with
 |zero=>
  obtain rfl:i=f:=by omega
  have d1:decide (((i+1:Nat):Int)<=(i:Nat))=false:=dF;simp only[l109_0,r109_4,SS,fC,reduceIte,qQ,e2,e9,d1];refine hQ _ _ Pl Ml hP hM h0 h1 ?_ ?_ ?_<;>simp only[UU,qQ, *]
 |succ k=>
  have d1:decide (((i+1:Nat):Int)<=(f:Nat))=true:=dT;obtain⟨hK,hv⟩:=hg (i+1) (by omega) (by omega);have tK:=qxm (by omega) (by omega) (by omega) (by omega) hK;have w9:=wS1 (i+1) (by omega);have b1:=zrw g 1 (j:=0) (by omega) i (by omega);have b2:=zrw g 1 (j:=1) (by omega) i (by omega);have b3:=zrw g (-1) (j:=0) (by omega) i (by omega);have b4:=zrw g (-1) (j:=1) (by omega) i (by omega);have hi40:i*40000<=1600000000:=by have:=xP 40000 (show i<=40000 by omega);omega
  have l0:=zam h0;have l1:=zam h1;simp only[l109_0,r109_4,SS,fC,reduceIte,qQ,e2,e9,d1];simp only[r109_5,r109_6,SS,reduceIte,qQ,e1,e7,e9];refine zaa tK ?_;simp only[zaf,zac,qZ,qW,SS,reduceIte,qQ,qC,qB];simp only[r109_7,SS,reduceIte,qQ];have g0:getB (H++[some [AV.int .u32 0,AV.int .u32 0,AV.int .u32 0,AV.int .u32 0,AV.int .u32 0,AV.int .u32 0,AV.int .u32 0,AV.int .u32 0,AV.int .u32 0,AV.int .u32 0,AV.int .u32 0]]) (List.length H)=some [AV.int .u32 0,AV.int .u32 0,AV.int .u32 0,AV.int .u32 0,AV.int .u32 0,AV.int .u32 0,AV.int .u32 0,AV.int .u32 0,AV.int .u32 0,AV.int .u32 0,AV.int .u32 0]:=zba
  have s0:∀x:List AV,List.set (H++[some [AV.int .u32 0,AV.int .u32 0,AV.int .u32 0,AV.int .u32 0,AV.int .u32 0,AV.int .u32 0,AV.int .u32 0,AV.int .u32 0,AV.int .u32 0,AV.int .u32 0,AV.int .u32 0]]) (List.length H) (some x)=H++[some x]:=λx=>by
   rw[qL _ _ (qA _),qN];rfl
  rcases hv with hv | hv | hv
  ·have d2:decide (g (i+1)=0)=true:=decide_eq_true hv;simp only[r109_8,SS,fC,reduceIte,qQ,d2];simp only[r109_18,SS,reduceIte,qQ,e9,w9];refine⟨k,_,_,by omega,⟨i+1,Pl,Ml,by omega,?_,?_,h0,h1,?_,?_,?_,?_,?_,?_⟩,.refl⟩
   ·simpa only[sP,hv,show((0:Int)=1)=False from eq_false (by decide),if_false,xQ]using hP
   ·simpa only[sP,hv,show((0:Int)= -1)=False from eq_false (by decide),if_false,xQ]using hM
   all_goals simp only[UU,qQ,reduceIte, *]
  ·have d2:decide (g (i+1)=0)=false:=dF;have d3:decide (g (i+1)= -1)=false:=dF;simp only[r109_8,SS,fC,reduceIte,qQ,d2];simp only[r109_9,SS,fC,reduceIte,qQ,d3];simp only[r109_11,SS,reduceIte,qV,qQ,qJ];rw[g0];simp only[zar,zQ,yB,s0];refine⟨by decide,?_⟩;simp only[r109_12,SS,reduceIte,qQ];refine qol (w:=0) (b:=H.length) hP (a:=i+1) (by omega) (by omega) (by omega) (by rw[zbm l0];exact h0) zba (by omega) ?_ ?_ ?_ ?_ ?_ (λE' H' L' hL' k1 k2 k3 k4=>?_)
   ·exact e9
   ·rfl
   ·rfl
   ·rfl
   ·rfl
   have kO:getB H' 1=some (u32s Ml):=by rw[k3 1 (by decide) (by omega),zbm l1];exact h1
   have q0:=k4 0 (by decide);have q1:=k4 1 (by decide);have q2:=k4 2 (by decide);have q7:=k4 7 (by decide);have q8:=k4 8 (by decide);have q9:=k4 9 (by decide);simp only[UU,qQ,e0]at q0;simp only[UU,qQ,e1]at q1;simp only[UU,qQ,e2]at q2;simp only[UU,qQ,e7]at q7;simp only[UU,qQ,e8]at q8;simp only[UU,qQ,e9]at q9;simp only[r109_18,SS,reduceIte,qQ,q9,w9];refine⟨k,_,_,by omega,⟨i+1,L',Ml,by omega,?_,?_,k1,kO,?_,?_,?_,?_,?_,?_⟩,.refl⟩
   ·simp only[sP,hv,if_true,xO,yJ];exact hL'
   ·simpa only[sP,hv,show((1:Int)= -1)=False from eq_false (by decide),if_false,xQ]using hM
   all_goals simp only[UU,qQ,reduceIte, *]
  ·have d2:decide (g (i+1)=0)=false:=dF;have d3:decide (g (i+1)= -1)=true:=dT;simp only[r109_8,SS,fC,reduceIte,qQ,d2];simp only[r109_9,SS,fC,reduceIte,qQ,d3];simp only[r109_10,SS,reduceIte,qQ,e8];simp only[r109_11,SS,reduceIte,qV,qQ,qJ];rw[g0];simp only[zar,zQ,yB,s0];refine⟨by decide,?_⟩;simp only[r109_12,SS,reduceIte,qQ];refine qol (w:=1) (b:=H.length) hM (a:=i+1) (by omega) (by omega) (by omega) (by rw[zbm l1];exact h1) zba (by omega) ?_ ?_ ?_ ?_ ?_ (λE' H' L' hL' k1 k2 k3 k4=>?_)
   ·exact e9
   ·rfl
   ·rfl
   ·rfl
   ·rfl
   have kO:getB H' 0=some (u32s Pl):=by rw[k3 0 (by decide) (by omega),zbm l0];exact h0
   have q0:=k4 0 (by decide);have q1:=k4 1 (by decide);have q2:=k4 2 (by decide);have q7:=k4 7 (by decide);have q8:=k4 8 (by decide);have q9:=k4 9 (by decide);simp only[UU,qQ,e0]at q0;simp only[UU,qQ,e1]at q1;simp only[UU,qQ,e2]at q2;simp only[UU,qQ,e7]at q7;simp only[UU,qQ,e8]at q8;simp only[UU,qQ,e9]at q9;simp only[r109_18,SS,reduceIte,qQ,q9,w9];refine⟨k,_,_,by omega,⟨i+1,Pl,L',by omega,?_,?_,kO,k1,?_,?_,?_,?_,?_,?_⟩,.refl⟩
   ·simpa only[sP,hv,show((-1:Int)=1)=False from eq_false (by decide),if_false,xQ]using hP
   ·simp only[sP,hv,if_true,xO,yJ];exact hL'
   all_goals simp only[UU,qQ,reduceIte, *]
theorem qxq{L:List Nat}{H:Heap}{id:Nat}(hl:L.length=22)(hb:getB H id=some (u32s L)):frzI 0 H 3 (.sl id 0 2 11 (some 2))=some (.vec (u32s L) 2 (some 2)):=by
 have e:=zup L 0 1 H;rw[frzI];simp only[yZ,if_false,hb,need,qH,zae,hl,qA,if_true,xS,qT];rw[qG (by rw[zae];omega),e];rfl
theorem qbt:NP (List.replicate 22 0) 0 0 where
 len:=by simp
 dig:=λd h=>by rw[(List.mem_replicate.1 h).2];decide
 v0:=by decide
 v1:=by decide
def npL(s0 s1:Nat):List Nat:=(List.range 22).map λt=>if t<11 then s0/4294967296^t%4294967296 else s1/4294967296^(t-11)%4294967296
theorem NP.uniq{L:List Nat}{s0 s1:Nat}(h:NP L s0 s1):L=npL s0 s1:=by
 refine zdp (by simp[npL,h.len]) λt ht=>?_
 rw[h.len]at ht
 have e:(npL s0 s1).getD t 0=if t<11 then s0/4294967296^t%4294967296 else s1/4294967296^(t-11)%4294967296:=by
  rw[qK];simp[npL,ht]
 rw[e];split
 ·have:=zoi (f:=λi=>L.getD (0+i) 0) (n:=11) (i:=t) (λi _=>h.dig.getD _) (by omega);rw[h.v0]at this;rw[this,qH]
 ·have:=zoi (f:=λi=>L.getD (11+i) 0) (n:=11) (i:=t-11) (λi _=>h.dig.getD _) (by omega);rw[h.v1]at this;rw[this,show 11+(t-11)=t by omega]
theorem jgs{s0 s1:Nat}(h0:s0<4294967296^11)(h1:s1<4294967296^11):NP (npL s0 s1) s0 s1:=by
 have:=(qbt.set0 h0).set1 h1;rw[<-this.uniq];exact this
theorem NP.lo{L:List Nat}{s0 s1:Nat}(h:NP L s0 s1):(L.take 11).length=11/\Dig (L.take 11)/\val (L.take 11)=s0:=by
 refine⟨by rw[xG,h.len];rfl,h.dig.take _,?_⟩;rw[zqf,<-h.v0];exact zcf λi _=>by rw[qH]
theorem NP.hi{L:List Nat}{s0 s1:Nat}(h:NP L s0 s1):(L.drop 11).length=11/\Dig (L.drop 11)/\val (L.drop 11)=s1:=by
 have hl:(L.drop 11).length=11:=by rw[jB,h.len]
 refine⟨hl,λd hd=>h.dig d (List.mem_of_mem_drop hd),?_⟩;rw[zlr,hl,<-h.v1];exact zcf λi _=>by rw[qK,List.getElem?_drop,<-qK]
theorem ztf(l:List Nat)(n:Nat):(u32s l).take n=u32s (l.take n):=by simp[u32s,List.map_take]
theorem zyp(l:List Nat)(n:Nat):(u32s l).drop n=u32s (l.drop n):=by simp[u32s,List.map_drop]
theorem zmh{P:Program}{Γ:Glob}{n0:Nat}{E:Env}{H:Heap}{Q:List FP->Env->Heap->Prop}{d:Option Nat}{os:List COp}{x:Opd}{sz n p:Nat}{cs:List AV}(hx:AL.val E x= .iptr cs p)(hl:p+n*sz<=cs.length):
  regA P Γ n0 (⟨d,none,.slarr n sz x none none none⟩::os) E H Q=goon P Γ n0 d os E H Q (.vec ((cs.drop p).take (n*sz)) n (some n)):=by
 have h2:n*sz<=((cs.drop p).take (n*sz)).length:=by rw[xG,jB];omega
 have e:evK n0 H.length (.slarr n sz x none none none) (AL.val E) H=some (.vec ((cs.drop p).take (n*sz)) n (some n),[],[]):=by
  simp only[evK,hx,need,hl,if_true,zsh,zpm,Option.bind_some,xE,qA,h2,and_self,Nat.zero_mul,xS,Nat.sub_zero];rw[List.take_take,Nat.min_self];rfl
 rw[zca rfl,e];simp[zbf,zac,cntK,goon,keys]
theorem qbu{D:Int}{f:Nat}{g:Nat->Int}(hD: -40000<=D/\D<=40000)(hf:f<=40000)(hg:∀a,1<=a->a<=f->KR D 1 a (g a)/\(g a=0\/g a=1\/g a= -1)):
  ∃a1 a2 b1 b2,zap ((sP g 1 0 f:Nat)-(sP g (-1) 0 f:Nat)) (.agg [a1,a2])/\zap ((sP g 1 1 f:Nat)-(sP g (-1) 1 f:Nat)) (.agg [b1,b2])/\Rt 109 [.int .i64 1,.int .i64 D,.int .i64 (f:Nat)] [] (.vec [a1,a2,b1,b2] 2 (some 2)) []:=by
 have hlt:∀s j,j<=1->sP g s j f<4294967296^11:=λs j hj=>by
  have:=zrw g s hj f hf;have:=xP 40000 hf;omega
 have nP:=jgs (hlt 1 0 (by decide)) (hlt 1 1 (by decide));have nM:=jgs (hlt (-1) 0 (by decide)) (hlt (-1) 1 (by decide));obtain⟨pl1,pd1,pv1⟩:=nP.lo;obtain⟨pl2,pd2,pv2⟩:=nP.hi;obtain⟨ml1,md1,mv1⟩:=nM.lo;obtain⟨ml2,md2,mv2⟩:=nM.hi;obtain⟨v1,i1,t1⟩:=qok (c:=some 11) (d:=some 11) (by omega) (by omega) pd1 md1;obtain⟨v2,i2,t2⟩:=qok (c:=some 11) (d:=some 11) (by omega) (by omega) pd2 md2;rw[pv1,mv1]at i1;rw[pv2,mv2]at i2;rw[pl1,ml1]at t1;rw[pl2,ml2]at t2;obtain⟨x1,c1,rfl⟩:=i1.shape;obtain⟨x2,c2,rfl⟩:=i2.shape;refine⟨_,_,_,_,i1,i2,?_⟩;refine oFW o109 ?_;simp only[c109];refine wW ?_;simp only[r109_0,SS];refine wW ?_;simp only[r109_1,SS,reduceCtorEq,reduceIte,qV,qQ,show IntKind.i64.wrap (1+1)=2 by decide];refine⟨by decide,by decide,?_⟩;refine wW ?_;simp only[r109_2,SS,reduceCtorEq,reduceIte,qV,qQ,show IntKind.i64.wrap (1+1)=2 by decide];refine⟨by decide,by decide,?_⟩;refine zki (wM ?_);simp only[r109_3,SS];refine jgr hD hf hg qbt qbt rfl rfl (by rfl) (by rfl) (by rfl) (by rfl) (by rfl) (by rfl) (λE H Pl Ml hP hM h0 h1 e0 e7 e8=>?_);have k7:=qxq hP.len h0;have k8:=qxq hM.len h1;obtain rfl:=hP.uniq;obtain rfl:=hM.uniq;simp only[SS,reduceCtorEq,reduceIte];refine W.weak (zhp 0 3 (qA _) (xE _) (λi cs h=>absurd h (by omega))) ?_;have f0:frzE 0 3 H E 0= .int .i64 1:=by unfold frzE;rw[e0];rfl
 have f7:frzE 0 3 H E 7= .vec (u32s (npL (sP g 1 0 f) (sP g 1 1 f))) 2 (some 2):=by unfold frzE;rw[e7,if_neg (by simp[AV.under]),k7];rfl
 have f8:frzE 0 3 H E 8= .vec (u32s (npL (sP g (-1) 0 f) (sP g (-1) 1 f))) 2 (some 2):=by unfold frzE;rw[e8,if_neg (by simp[AV.under]),k8];rfl
 rw[List.take_zero];generalize frzE 0 3 H E=E1 at*;clear e0 e7 e8 h0 h1 k7 k8 hP hM E H;refine wM ?_;have w1:IntKind.i64.wrap (1+1)=2:=by decide
 simp only[r109_19,r109_20,SS,reduceCtorEq,reduceIte,qV,qQ,f0,w1];have z2:Int.toNat 2=2:=rfl;have zz:zeo 2 [AV.bool false,AV.vec [] 0 (some 0)]=[AV.bool false,AV.vec [] 0 (some 0),AV.bool false,AV.vec [] 0 (some 0)]:=rfl;simp only[z2,zz];refine⟨by decide,by decide,?_⟩;generalize npL (sP g 1 0 f) (sP g 1 1 f)=LP at*;generalize npL (sP g (-1) 0 f) (sP g (-1) 1 f)=LM at*;have lP:=nP.len;have lM:=nM.len;have hP2:(u32s (LP.drop 11)).take 11=u32s (LP.drop 11):=qG (by rw[zae];omega);have hM2:(u32s (LM.drop 11)).take 11=u32s (LM.drop 11):=qG (by rw[zae];omega);refine W_un zuo 3 (zkx ?_);simp only[l109_2,r109_21,SS,fC,reduceCtorEq,reduceIte,qQ,n2,show decide ((0:Int)<2)=true from rfl];simp only[r109_22,r109_23,SS,reduceIte,qQ,f7,yV,qD,qT,n2,tn0,le0];rw[zmh (cs:=u32s LP) (p:=0) (by simp only[SS,reduceIte,qQ]) (by rw[zae];omega)];simp only[SS,reduceIte,qV,qQ,qJ,f8,yV,qD,qT,n2,tn0,le0,ztf];rw[zmh (cs:=u32s LM) (p:=0) (by simp only[SS,reduceIte,qQ]) (by rw[zae];omega)];simp only[SS,reduceIte,qV,qQ,qJ,qD,ztf];have ca:∀l r:List Nat,qX [.agg [.bool false,.vec (u32s l) 11 (some 11)],.agg [.bool false,.vec (u32s r) 11 (some 11)]]=true:=λl r=>by simp only[AV.closed,qX,qY]
 have cv:∀(b:Bool) (l:List Nat) (n:Nat) (c:Option Nat),AV.closed (.agg [.bool b,.vec (u32s l) n c])=true:=λb l n c=>by simp only[AV.closed,qX,qY]
 refine zaa t1 ?_ (ca _ _) (cv _ _ _ _);simp only[zaf,zac,keys,qZ,qW,SS,reduceIte,qV,qQ,qJ,yV,qD,qT,n2,tn0,le0];refine⟨by decide,?_⟩;simp only[r109_24,SS,reduceIte,qQ,show IntKind.i64.wrap (0+1)=1 from rfl];refine zkx ?_;simp only[SS,fC,reduceCtorEq,reduceIte,qQ,show decide ((1:Int)<2)=true from rfl];simp only[SS,f7,yW,qD,qT,n2,tn1,lt12];rw[zmh (cs:=u32s LP) (p:=11) (by simp only[SS,reduceIte,qQ]) (by rw[zae];omega)];simp only[SS,reduceIte,qV,qQ,qJ,f8,yW,qD,qT,n2,tn1,lt12,zyp,hP2];rw[zmh (cs:=u32s LM) (p:=11) (by simp only[SS,reduceIte,qQ]) (by rw[zae];omega)];simp only[SS,reduceIte,qV,qQ,qJ,qD,zyp,hM2];refine zaa t2 ?_ (ca _ _) (cv _ _ _ _);simp only[zaf,zac,keys,qZ,qW,SS,reduceIte,qV,qQ,qJ,yW,zM,qD,qT,n2,wi2,tn1,lt12];refine⟨by decide,?_⟩;refine zkx ?_;simp only[SS,fC,reduceCtorEq,reduceIte,qQ,show decide ((2:Int)<2)=false from rfl];simp only[r109_25,SS,reduceIte,qQ];exact⟨.inl trivial,_,rfl,.freeze 2 _ _ _ rfl (by intro i cs h;omega)⟩
end Go.Proofs.YtgfbaioffpcelaaGreatDoor
namespace Go.Proofs.YtgfbaioffpcelaaGreatDoor
open Go Go.AL Go.Proofs Go.Limb
theorem qbv(x:Int)(h1: -9223372036854775808<=x)(h2:x<9223372036854775808):∃v,RV (x,1) v/\Rt 110 [.int .i64 x] [] v []:=by
 obtain⟨v1,i1,t1⟩:=znp x h1 h2;obtain⟨v,iv,t2⟩:=zqv i1;obtain⟨l1,c1,rfl⟩:=i1.shape;obtain⟨k1,e1,k2,e2,rfl,_,_⟩:=iv.shape;refine⟨_,⟨iv,zds⟩,?_⟩;refine oF o110 ?_;simp only[c110,r110_0,SS,reduceCtorEq];simp only[r110_1,SS,reduceCtorEq,reduceIte,qQ];refine zaa t1 ?_;simp only[SS,reduceIte,qQ];refine zaa t2 ?_;simp only[SS,reduceIte,qV,qQ,qJ];exact dR
def Num1:Prop:= ∃p1 p2 p3 p4 q1 q2 q3 q4 cN,RV (1,1) (.agg [p1,p2,p3,p4])/\RV (-1,2) (.agg [q1,q2,q3,q4])/\Rt 111 [.int .i64 1] [] (.vec [p1,p2,p3,p4,q1,q2,q3,q4] 2 cN) []/\
 Rt 112 [.int .i64 1,.int .i64 0] [] (.int .i64 1) []/\Rt 112 [.int .i64 1,.int .i64 1] [] (.int .i64 1) []
theorem RV.shape{q:Int×Int}{v:AV}(h:RV q v):∃a b l1 k1 c1 l2 k2 c2,v= .agg [.bool a,.vec (u32s l1) k1 c1,.bool b,.vec (u32s l2) k2 c2]:=by
 obtain⟨l1,c1,l2,c2,rfl,_,_⟩:=h.1.shape;exact⟨_,_,_,_,_,_,_,_,rfl⟩
theorem zwe{D:Int}{f:Nat}(hN:Num1)(hf1:1<=f)(hf:f<=40000)(hD:D.natAbs=f)(hF:Rt 108 [.int .i64 D] [] (.bool true) []):
  ∃q v,RV q v/\Bd q 1000000000000000000000000000000/\Rt 39 [.int .i64 1,.int .i64 D] [] (.tup [v,.int .i64 0]) []:=by
 obtain⟨g,hg⟩:∃g:Nat->Int,∀a,1<=a->KR D 1 a (g a)/\(g a=0\/g a=1\/g a= -1):=by
  have:=λa=>KR.ex D a a (qA a)
  refine⟨λa=>if h:1<=a then(this a h 1 (.inl rfl)).choose else 0,λa h=>?_⟩;simp only[h,dif_pos];exact(this a h 1 (.inl rfl)).choose_spec
 obtain⟨a1,a2,b1,b2,i0,i1,tS⟩:=qbu (D:=D) (f:=f) (g:=g) (by omega) hf λa h1 _=>hg a h1
 have z1:=zrw g 1 (j:=0) (by omega) f hf;have z2:=zrw g 1 (j:=1) (by omega) f hf;have z3:=zrw g (-1) (j:=0) (by omega) f hf;have z4:=zrw g (-1) (j:=1) (by omega) f hf;have hi40:f*40000<=1600000000:=by have:=xP 40000 hf;omega
 generalize hS0:((sP g 1 0 f:Nat):Int)-(sP g (-1) 0 f:Nat)=S0 at*;generalize hS1:((sP g 1 1 f:Nat):Int)-(sP g (-1) 1 f:Nat)=S1 at*;have bS0:S0.natAbs<=1600000000:=by omega
 have bS1:S1.natAbs<=1600000000:=by omega
 obtain⟨p1,p2,p3,p4,q1,q2,q3,q4,cN,hp,hq,tN,tB0,tB1⟩:=hN;have BF:∀n:Nat,n<=100000000000000000000000000000000000->n<BIG:=λn h=>zdz (by omega)
 obtain⟨w1,iw1,tw1⟩:=qbv 1 (by decide) (by decide);obtain⟨w0,iw0,tw0⟩:=qbv 0 (by decide) (by decide);obtain⟨wf,iwf,twf⟩:=qbv (f:Int) (by omega) (by omega);obtain⟨s0,is0',tp0⟩:=que (s:=1) iwf.1 hf1 (by decide) (by rw[yJ];exact BF f (by omega)) true (by simp);obtain⟨s1,is1',tp1⟩:=que (s:=0) iwf.1 hf1 (by decide) (by rw[xO];exact BF 1 (by decide)) false (by simp);simp only[if_true,yJ]at is0' tp0;simp only[zR,if_false,xO]at is1' tp1;rw[n1]at tp0;rw[jC]at tp1;have is0:RV (1,(f:Int)) s0:=⟨is0',by show(0:Int)<f;omega,by simp⟩
 have is1:RV (1,1) s1:=⟨is1',zds⟩
 obtain⟨u1,iu1,tu1⟩:=zqv i1;have iu1:RV (S1,1) u1:=⟨iu1,zds⟩
 obtain⟨u0,iu0,tu0⟩:=zqv i0;have iu0:RV (S0,1) u0:=⟨iu0,zds⟩
 obtain⟨m1,im1,bm1,tm1⟩:=rMul (A:=1) (B:=1) iw1 hp ⟨qA 1,qA 1⟩ ⟨qA 1,qA 1⟩ (BF (1*1) (by decide));replace bm1:Bd _ 1:=bm1;obtain⟨m2,im2,bm2,tm2⟩:=rMul (A:=1) (B:=1600000000) im1 iu1 bm1 ⟨bS1,show 1<=1600000000 by decide⟩ (BF (1*1600000000) (by decide));replace bm2:Bd _ 1600000000:=bm2;obtain⟨m3,im3,bm3,tm3⟩:=rMul (A:=1600000000) (B:=40000) im2 is0 bm2 ⟨show 1<=40000 by decide,hf⟩ (BF (1600000000*40000) (by decide));replace bm3:Bd _ 64000000000000:=bm3;obtain⟨m4,im4,bm4,tm4⟩:=rAdd (A:=1) (B:=64000000000000) iw0 im3 ⟨show 0<=1 by decide,qA 1⟩ bm3 (BF (2*(1*64000000000000)) (by decide));replace bm4:Bd _ 128000000000000:=bm4;obtain⟨n1,in1,bn1,tn1⟩:=rMul (A:=1) (B:=2) iw1 hq ⟨qA 1,qA 1⟩ ⟨show 1<=2 by decide,qA 2⟩ (BF (1*2) (by decide));replace bn1:Bd _ 2:=bn1;obtain⟨n2,in2,bn2,tn2⟩:=rMul (A:=2) (B:=1600000000) in1 iu0 bn1 ⟨bS0,show 1<=1600000000 by decide⟩ (BF (2*1600000000) (by decide));replace bn2:Bd _ 3200000000:=bn2;obtain⟨n3,in3,bn3,tn3⟩:=rMul (A:=3200000000) (B:=1) in2 is1 bn2 ⟨qA 1,qA 1⟩ (BF (3200000000*1) (by decide));replace bn3:Bd _ 3200000000:=bn3;obtain⟨n4,in4,bn4,tn4⟩:=rAdd (A:=128000000000000) (B:=3200000000) im4 in3 bm4 bn3 (BF (2*(128000000000000*3200000000)) (by decide));replace bn4:Bd _ 819200000000000000000000:=bn4;refine⟨_,_,in4,⟨xX bn4.1 (by decide),xX bn4.2 (by decide)⟩,?_⟩;obtain⟨_,_,_,_,_,_,_,_,e⟩:=iw1.shape;subst e;obtain⟨_,_,_,_,_,_,_,_,e⟩:=iw0.shape;subst e;obtain⟨_,_,_,_,_,_,_,_,e⟩:=iwf.shape;subst e;obtain⟨_,_,_,_,_,_,_,_,e⟩:=is0.shape;subst e;obtain⟨_,_,_,_,_,_,_,_,e⟩:=is1.shape;subst e;obtain⟨_,_,_,_,_,_,_,_,e⟩:=iu0.shape;subst e;obtain⟨_,_,_,_,_,_,_,_,e⟩:=iu1.shape;subst e;obtain⟨_,_,_,_,_,_,_,_,e⟩:=im1.shape;subst e;obtain⟨_,_,_,_,_,_,_,_,e⟩:=im2.shape;subst e;obtain⟨_,_,_,_,_,_,_,_,e⟩:=im3.shape;subst e;obtain⟨_,_,_,_,_,_,_,_,e⟩:=im4.shape;subst e;obtain⟨_,_,_,_,_,_,_,_,e⟩:=in1.shape;subst e;obtain⟨_,_,_,_,_,_,_,_,e⟩:=in2.shape;subst e;obtain⟨_,_,_,_,_,_,_,_,e⟩:=in3.shape;subst e;obtain⟨_,_,_,_,_,_,_,_,e⟩:=in4.shape;subst e;obtain⟨_,_,_,_,_,_,_,_,e⟩:=hp.shape;simp only[AV.agg.injEq,List.cons.injEq,and_true]at e;obtain⟨rfl,rfl,rfl,rfl⟩:=e;obtain⟨_,_,_,_,_,_,_,_,e⟩:=hq.shape;simp only[AV.agg.injEq,List.cons.injEq,and_true]at e;obtain⟨rfl,rfl,rfl,rfl⟩:=e;obtain⟨_,_,rfl,rfl⟩:=zau i0;obtain⟨_,_,rfl,rfl⟩:=zau i1;have d1:decide ((1:Int)<1)=false:=by decide
 have d2:decide ((20:Int)<1)=false:=by decide
 have tk2:∀a b c d:AV,List.take 2 (List.drop (Int.toNat 1*2) [a,b,c,d])=[c,d]:=λ_ _ _ _=>rfl
 have tk4:∀a b c d e f g h:AV,List.take 4 (List.drop (Int.toNat 1*4) [a,b,c,d,e,f,g,h])=[e,f,g,h]:=λ_ _ _ _ _ _ _ _=>rfl
 have wn:IntKind.i64.wrap (0-D)= -D:=by rw[jJ];exact w64 (by omega) (by omega)
 have wm:(if -D>D then -D else D)=(f:Int):=by split<;>omega
 have cS:∀(a b:Bool) (l r:List Nat) (n k:Nat) (c d:Option Nat),AV.closed (.vec [.bool a,.vec (u32s l) n c,.bool b,.vec (u32s r) k d] 2 (some 2))=true:=λa b l r n k c d=>by simp only[AV.closed]
 have cR:∀(a b:Bool) (l r:List Nat) (n k:Nat) (c d:Option Nat),AV.closed (.agg [.bool a,.vec (u32s l) n c,.bool b,.vec (u32s r) k d])=true:=λa b l r n k c d=>by simp only[AV.closed,qX,qY]
 refine oF o39 ?_;simp only[c39,r39_0,r39_1,↓zcq,SS,reduceCtorEq,reduceIte,qQ,d1,d2];refine zaa hF ?_;simp only[zaf,zac,qZ,qW,↓zcq,SS,fC,reduceIte,qQ];simp only[r39_3,SS,reduceIte,qQ,wn,wm];simp only[r39_4,SS,reduceCtorEq,reduceIte,qQ];refine zaa tS ?_ rfl (cS _ _ _ _ _ _ _ _);simp only[zaf,zac,qZ,qW,SS,reduceIte,qQ];simp only[r39_5,SS];refine zaa tw0 ?_;simp only[zaf,zac,qZ,qW,SS,reduceIte,qV,qQ,qJ];simp only[r39_6,SS,reduceCtorEq,reduceIte,qQ];refine zaa tN ?_ rfl (by simp only[AV.closed]);simp only[zaf,zac,qZ,qW,SS,reduceIte,qQ,n2];refine W_un zuo 3 (zkx ?_);simp only[l39_0,r39_7,SS,fC,reduceCtorEq,reduceIte,qQ,decide_true,yV];simp only[r39_8,SS,reduceIte,qV,qQ,qJ,yV,qT,n2,tn0,le0];simp only[r39_9,SS,reduceIte,qQ];refine zaa twf ?_;simp only[zaf,zac,qZ,qW,SS,reduceIte,qQ,yL,qD,wim1];refine zaa tp0 ?_ rfl (by simp only[AV.closed,qX,qY]);simp only[zaf,zac,qZ,qW,SS,reduceIte,qV,qQ,qJ,qD,qC,qB];simp only[r39_10,SS,reduceCtorEq,reduceIte,qQ,qD];refine zaa tB0 ?_;simp only[zaf,zac,keys,qZ,qW,SS,reduceIte,qQ,qD];refine zaa tw1 ?_;simp only[zaf,zac,keys,qZ,qW,SS,reduceIte,qV,qQ,qJ,qD];refine zaa tm1 ?_ (by simp only[AV.closed,qX,qY]) (by simp only[AV.closed,qX,qY]);simp only[zaf,zac,keys,qZ,qW,SS,reduceCtorEq,reduceIte,qV,qQ,qJ,yW,yL,qD,n2,wi1,lt12];simp only[tk2];refine⟨by decide,?_⟩;refine zaa tu1 ?_ (by simp only[AV.closed,qX,qY]) (by simp only[AV.closed,qX,qY]);simp only[zaf,zac,keys,qZ,qW,SS,reduceIte,qQ,qD];refine zaa tm2 ?_ (by simp only[AV.closed,qX,qY]) (by simp only[AV.closed,qX,qY]);simp only[zaf,zac,keys,qZ,qW,SS,reduceIte,qV,qQ,qJ,qD];refine⟨by decide,?_⟩;simp only[r39_11,SS,reduceIte,qV,qQ,qJ,qD];refine zaa tm3 ?_ (by simp only[AV.closed,qX,qY]) (by simp only[AV.closed,qX,qY]);simp only[zaf,zac,keys,qZ,qW,SS,reduceIte,qQ,qD];refine zaa tm4 ?_ (by simp only[AV.closed,qX,qY]) (by simp only[AV.closed,qX,qY]);simp only[zaf,zac,keys,qZ,qW,SS,reduceIte,qV,qQ,qJ,qD];refine⟨by decide,?_⟩;simp only[r39_12,SS,reduceIte,qQ,zM,qD,wi1];refine zkx ?_;simp only[SS,fC,reduceCtorEq,reduceIte,qV,qQ,qJ,decide_true,yW,qD,n2,lt12];simp only[tk4,qP,xK];refine⟨by decide,⟨trivial,rfl⟩,?_⟩;refine zaa twf ?_;simp only[zaf,zac,qZ,qW,SS,reduceIte,qV,qQ,yL,qD,wi0];refine zaa tp1 ?_ rfl (by simp only[AV.closed,qX,qY]);simp only[zaf,zac,qZ,qW,SS,reduceCtorEq,reduceIte,qV,qQ,qJ,qD,qC,qB];refine zaa tB1 ?_;simp only[zaf,zac,keys,qZ,qW,SS,reduceIte,qQ,qD];refine zaa tw1 ?_;simp only[zaf,zac,keys,qZ,qW,SS,reduceIte,qV,qQ,qJ,qD];refine zaa tn1 ?_ (by simp only[AV.closed,qX,qY]) (by simp only[AV.closed,qX,qY]);simp only[zaf,zac,keys,qZ,qW,SS,reduceCtorEq,reduceIte,qV,qQ,qJ,yV,yL,qD,qT,n2,wi0,tn0,le0];refine zaa tu0 ?_ (by simp only[AV.closed,qX,qY]) (by simp only[AV.closed,qX,qY]);simp only[zaf,zac,keys,qZ,qW,SS,reduceIte,qQ,qD];refine zaa tn2 ?_ (by simp only[AV.closed,qX,qY]) (by simp only[AV.closed,qX,qY]);simp only[zaf,zac,keys,qZ,qW,SS,reduceIte,qV,qQ,qJ,qD];refine⟨by decide,?_⟩;refine zaa tn3 ?_ (by simp only[AV.closed,qX,qY]) (by simp only[AV.closed,qX,qY]);simp only[zaf,zac,keys,qZ,qW,SS,reduceIte,qQ,qD];refine zaa tn4 ?_ (by simp only[AV.closed,qX,qY]) (by simp only[AV.closed,qX,qY]);simp only[zaf,zac,keys,qZ,qW,SS,reduceIte,qV,qQ,qJ,zM,qD,wi2];refine⟨by decide,?_⟩;refine zkx ?_;simp only[SS,fC,reduceCtorEq,reduceIte,qV,qQ,qJ,decide_false,yV,yW,qD,n2];simp only[r39_13,SS,reduceIte,qV,qQ,qJ,qD];exact dR
end Go.Proofs.YtgfbaioffpcelaaGreatDoor
namespace Go.Proofs.YtgfbaioffpcelaaGreatDoor
open Go Go.AL Go.Proofs Go.Limb
def okR:Option (AV×Heap)->AV->Bool
 |some (v,[]),e=>eqVZ v.wk e
 |_,_=>false
theorem qom{m:MemZ}(hm:zpp Tryz.prog G m){f:FuncId}{args:List AV}{e:AV}(h:okR (run m f args) e=true):Rt f args [] e []:=by
 cases hr:run m f args with
 |none=>rw[hr]at h;simp[okR]at h
 |some x=>
  obtain⟨v,H⟩:=x;cases H with
  |nil=>
   rw[hr]at h;have e1:=qkx _ _ h;rw[<-e1];exact jez (zag hm hr)
  |cons a l=>rw[hr]at h;simp[okR]at h
namespace K
abbrev u(n:Nat):AV:= .int .u32 (.ofNat n)
abbrev i(n:Nat):AV:= .int .i64 (.ofNat n)
abbrev w(l:List AV):AV:= .vec l l.length none
abbrev F:AV:= .bool false
abbrev B:AV:= .bool true
theorem numbers1:Rt 111 [i 1] [] (.vec [F,w [u 1],F,w [u 1],B,w [u 1],F,w [u 2]] 2 none) []:=qom (Q.mc Q.q54 (Q.mc Q.q52 (Q.mc Q.q51 (Q.mc Q.q50 (Q.mc Q.q49 (Q.mc Q.q48 (Q.mc Q.q47 (Q.mc Q.q44 (Q.mc Q.q41 (Q.mc Q.q40 (Q.mc Q.q36 (Q.mc Q.q35 (Q.mc Q.q34 (Q.mc Q.q33 (Q.mc Q.q32 (Q.mc Q.q31 (Q.mc Q.q30 (Q.mc Q.q29 (Q.mc Q.q28 (Q.mc Q.q27 (Q.mc Q.q26 (Q.mc Q.q23 (Q.mc Q.q21 (Q.mc Q.q19 (Q.mc Q.q18 (Q.mc Q.q17 (Q.mc Q.q16 (Q.mc Q.q15 (Q.mc Q.q14 (Q.mc Q.q11 (Q.mc Q.q7 (Q.mc Q.q6 (Q.mc Q.q5 (Q.mc Q.q4 (Q.mc Q.q3 (Q.mc Q.q2 (Q.mc Q.q1 mem0))))))))))))))))))))))))))))))))))))) (by kernel_rfl)
theorem binom0:Rt 112 [i 1,i 0] [] (i 1) []:=qom (Q.mc Q.q54 (Q.mc Q.q52 (Q.mc Q.q51 (Q.mc Q.q50 (Q.mc Q.q49 (Q.mc Q.q48 (Q.mc Q.q47 (Q.mc Q.q44 (Q.mc Q.q41 (Q.mc Q.q40 (Q.mc Q.q36 (Q.mc Q.q35 (Q.mc Q.q34 (Q.mc Q.q33 (Q.mc Q.q32 (Q.mc Q.q31 (Q.mc Q.q30 (Q.mc Q.q29 (Q.mc Q.q28 (Q.mc Q.q27 (Q.mc Q.q26 (Q.mc Q.q23 (Q.mc Q.q21 (Q.mc Q.q19 (Q.mc Q.q18 (Q.mc Q.q17 (Q.mc Q.q16 (Q.mc Q.q15 (Q.mc Q.q14 (Q.mc Q.q11 (Q.mc Q.q7 (Q.mc Q.q6 (Q.mc Q.q5 (Q.mc Q.q4 (Q.mc Q.q3 (Q.mc Q.q2 (Q.mc Q.q1 mem0))))))))))))))))))))))))))))))))))))) (by kernel_rfl)
theorem binom1:Rt 112 [i 1,i 1] [] (i 1) []:=qom (Q.mc Q.q54 (Q.mc Q.q52 (Q.mc Q.q51 (Q.mc Q.q50 (Q.mc Q.q49 (Q.mc Q.q48 (Q.mc Q.q47 (Q.mc Q.q44 (Q.mc Q.q41 (Q.mc Q.q40 (Q.mc Q.q36 (Q.mc Q.q35 (Q.mc Q.q34 (Q.mc Q.q33 (Q.mc Q.q32 (Q.mc Q.q31 (Q.mc Q.q30 (Q.mc Q.q29 (Q.mc Q.q28 (Q.mc Q.q27 (Q.mc Q.q26 (Q.mc Q.q23 (Q.mc Q.q21 (Q.mc Q.q19 (Q.mc Q.q18 (Q.mc Q.q17 (Q.mc Q.q16 (Q.mc Q.q15 (Q.mc Q.q14 (Q.mc Q.q11 (Q.mc Q.q7 (Q.mc Q.q6 (Q.mc Q.q5 (Q.mc Q.q4 (Q.mc Q.q3 (Q.mc Q.q2 (Q.mc Q.q1 mem0))))))))))))))))))))))))))))))))))))) (by kernel_rfl)
theorem number2:Rt 117 [i 2] [] (.tup [.agg [F,.vec [u 1] 1 (some 2),F,.vec [u 6] 1 (some 2)],i 0]) []:=zag (Q.mc Q.q55 mem0) (by kernel_rfl)
end K
end Go.Proofs.YtgfbaioffpcelaaGreatDoor
namespace Go.Proofs.YtgfbaioffpcelaaGreatDoor
open Go Go.AL Go.Proofs Go.Limb
theorem zrf{d:Nat}(c:Option Nat)(h0:d≠0)(h:d<4294967296):zap (d:Int) (.agg [.bool false,.vec [.int .u32 (d:Int)] 1 c]):=
 ⟨[d],c,⟨Dig.cons h Dig.nil,by simp[Limb.Top,h0]⟩,by simp,by simp[Limb.val],by simp[u32s]⟩
theorem quz(c:Option Nat):zap (-1) (.agg [.bool true,.vec [.int .u32 1] 1 c]):=
 ⟨[1],c,⟨Dig.cons (by decide) Dig.nil,by simp[Limb.Top]⟩,by simp,by simp[Limb.val],by simp[u32s]⟩
theorem num1:Num1:=by
 refine⟨_,_,_,_,_,_,_,_,_,⟨zhy (zrf (d:=1) none (by decide) (by decide)) (zrf (d:=1) none (by decide) (by decide)),zds⟩,⟨zhy (quz none) (zrf (d:=2) none (by decide) (by decide)),by decide,by decide⟩,K.numbers1,K.binom0,K.binom1⟩
theorem qon:∃v,RV (1,6) v/\Rt 117 [.int .i64 2] [] (.tup [v,.int .i64 0]) []:=
 ⟨_,⟨zhy (zrf (d:=1) (some 2) (by decide) (by decide)) (zrf (d:=6) (some 2) (by decide) (by decide)),by decide,by decide⟩,K.number2⟩
theorem qoo{f:FuncId}{id:Nat}{b0 d0 b1 d1 b2 d2:Bool}{l0 m0 l1 m1 l2 m2:List Nat}{n0 k0 n1 k1 n2 k2:Nat}{c0 e0 c1 e1 c2 e2:Option Nat}{v:AV}{H:Heap}{K:AV->Eff->List Nat->Nat->Prop}
  (h:Rt f [.vec [.bool b0,.vec (u32s l0) n0 c0,.bool d0,.vec (u32s m0) k0 e0,.bool b1,.vec (u32s l1) n1 c1,.bool d1,.vec (u32s m1) k1 e1,.bool b2,.vec (u32s l2) n2 c2,.bool d2,.vec (u32s m2) k2 e2] 3 (some 3)] [] v [])
  (hid:H[id]?=some (some [.bool b0,.vec (u32s l0) n0 c0,.bool d0,.vec (u32s m0) k0 e0,.bool b1,.vec (u32s l1) n1 c1,.bool d1,.vec (u32s m1) k1 e1,.bool b2,.vec (u32s l2) n2 c2,.bool d2,.vec (u32s m2) k2 e2])) (hv:v.closed=true) (hk:K v [(id,none)] [id] 0):ziv Tryz.prog G f [.sl id 0 3 4 (some 3)] H K:=
 zfp (d:=4) (args0:=[.sl 0 0 3 4 (some 3)]) h hid rfl (by simp[AV.ren,zan]) hk rfl (by simp only[qX,AV.closed,qY]) hv
theorem qop{f:FuncId}{id:Nat}{b0 d0 b1 d1 b2 d2 b3 d3:Bool}{l0 m0 l1 m1 l2 m2 l3 m3:List Nat}{n0 k0 n1 k1 n2 k2 n3 k3:Nat}{c0 e0 c1 e1 c2 e2 c3 e3:Option Nat}{v:AV}{H:Heap}{K:AV->Eff->List Nat->Nat->Prop}
  (h:Rt f [.vec [.bool b0,.vec (u32s l0) n0 c0,.bool d0,.vec (u32s m0) k0 e0,.bool b1,.vec (u32s l1) n1 c1,.bool d1,.vec (u32s m1) k1 e1,.bool b2,.vec (u32s l2) n2 c2,.bool d2,.vec (u32s m2) k2 e2,.bool b3,.vec (u32s l3) n3 c3,.bool d3,.vec (u32s m3) k3 e3] 4 (some 4)] [] v [])
  (hid:H[id]?=some (some [.bool b0,.vec (u32s l0) n0 c0,.bool d0,.vec (u32s m0) k0 e0,.bool b1,.vec (u32s l1) n1 c1,.bool d1,.vec (u32s m1) k1 e1,.bool b2,.vec (u32s l2) n2 c2,.bool d2,.vec (u32s m2) k2 e2,.bool b3,.vec (u32s l3) n3 c3,.bool d3,.vec (u32s m3) k3 e3])) (hv:v.closed=true) (hk:K v [(id,none)] [id] 0):ziv Tryz.prog G f [.sl id 0 4 4 (some 4)] H K:=
 zfp (d:=4) (args0:=[.sl 0 0 4 4 (some 4)]) h hid rfl (by simp[AV.ren,zan]) hk rfl (by simp only[qX,AV.closed,qY]) hv
theorem zgy{m k:Nat}(h:m<32*k):2^m<POW k:=by
 show 2^m<4294967296^k
 rw[show(4294967296:Nat)=2^32 from rfl,<-Nat.pow_mul];exact Nat.pow_lt_pow_right (by decide) h
theorem big2{n:Nat}(h:n<=2^4000):n<BIG:=xI h (zgy (m:=4000) (k:=1100) (by decide))
theorem zib{n d:Int}(h:0<=n):0<=numR n d:=Int.ediv_nonneg h (Int.natCast_nonneg _)
theorem qeq{n d:Int}(h:0<n):0<numR n d:=by
 have e:=qbk n d;have:=zib (d:=d) (jK h);rcases(by omega:numR n d=0\/0<numR n d)with h0 | h0
 ·rw[h0,yQ]at e;omega
 ·exact h0
theorem zer{a b:Int×Int}(ha:0<=a.1)(hb:0<=b.1):0<=(mulQ a b).1:=zib (xB ha hb)
theorem zwf{a b:Int×Int}(ha:0<a.1)(hb:0<b.1):0<(mulQ a b).1:=qeq (yN ha hb)
theorem zrg{a b:Int×Int}(ha:0<=a.1)(hb:0<b.2):0<=(quoQ a b).1:=zib (xB ha (jK hb))
theorem jjk{d m f A:Nat}{b:Int×Int}{vb:AV}(hd:1<=d)(hm:1<=m)(hf:1<=f)(h:f*m*d<2147483648)(hA:A=10000000000000000000000000000000)(hb:RV b vb)(bb:Bd b A)(hb0:0<=b.1):
  ∃q r,RV q r/\0<=q.1/\Bd q (A^7)/\Rt 42 [.int .i64 1,.int .i64 (d:Int),.int .i64 (m:Int),.int .i64 (f:Int),vb] [] r []:=by
 have h1:f<=f*m*d:=by rw[xZ];exact xC _ (yO hm hd)
 have h2:m<=f*m*d:=xX (zU m hf) (xC _ hd);have h3:d<=f*m*d:=zU d (yO hf hm);have hA1:1<=A:=by omega
 have hA7:A^7<=2^4000:=by subst hA;decide +kernel
 have hle:∀i,i<=7->1*A^i<BIG:=λi hi=>by rw[xN];exact big2 (xX (xW hA1 hi) hA7)
 obtain⟨n2,in2,tn⟩:=qon;obtain⟨r0,ir0,t1⟩:=zvt (a:=m) (s:=0) hm (by decide) (by rw[xO];decide) (by omega) false (by simp);obtain⟨r1,ir1,t2⟩:=zvt (a:=2) (s:=1) (by decide) (by decide) (by decide) (by decide) false (by simp);obtain⟨g,rt,g1,g2,irt,t3⟩:=jgk (a:=f*m*d) (yO (yO hf hm) hd) h;obtain⟨w,iw,t5⟩:=zjf (d:Int) (by omega) (by omega);obtain⟨r2,ir2,t6⟩:=zvt (a:=f) (s:=1) hf (by decide) (by rw[yJ];omega) (by omega) false (by simp);obtain⟨an,ian,t7⟩:=zte in2;simp only[zR,if_false,xO,yJ]at ir0 t1 ir1 t2 ir2 t6;have ir0:RV (1,1) r0:=⟨ir0,zds⟩
 have ir1:RV (2,1) r1:=⟨ir1,zds⟩
 have iw:RV ((d:Int),1) w:=⟨iw,zds⟩
 have ir2:RV ((f:Int),1) r2:=⟨ir2,zds⟩
 have ian:RV (1,6) an:=ian;obtain⟨_,_,_,_,_,_,_,_,e⟩:=hb.shape;subst e;obtain⟨_,_,_,_,_,_,_,_,e⟩:=in2.shape;subst e;obtain⟨_,_,_,_,_,_,_,_,e⟩:=ir0.shape;subst e;obtain⟨_,_,_,_,_,_,_,_,e⟩:=ir1.shape;subst e;obtain⟨_,_,_,_,_,_,_,_,e⟩:=irt.shape;subst e;obtain⟨_,_,_,_,_,_,_,_,e⟩:=iw.shape;subst e;obtain⟨_,_,_,_,_,_,_,_,e⟩:=ir2.shape;subst e;obtain⟨_,_,_,_,_,_,_,_,e⟩:=ian.shape;subst e
 obtain⟨v4,iv4,bv4,t4⟩:=qog (l:=[((1,1),_),((2,1),_),(b,_),((((g:Nat):Int),1),_)]) (c:=some 4) (A:=A) hA1 (by
  intro x hx;simp only[zV,yH,or_false]at hx;rcases hx with rfl | rfl | rfl | rfl
  ·exact⟨ir0,by constructor<;>(show _<=A)<;>simp<;>omega⟩
  ·exact⟨ir1,by constructor<;>(show _<=A)<;>simp<;>omega⟩
  ·exact⟨hb,bb⟩
  ·exact⟨irt,by constructor<;>(show _<=A)<;>simp<;>omega⟩) (by simp) (hle 4 (by decide))
 obtain⟨v8,iv8,bv8,t8⟩:=qog (l:=[(((d:Int),1),_),(((f:Int),1),_),((1,6),_)]) (c:=some 3) (A:=A) hA1 (by
  intro x hx;simp only[zV,yH,or_false]at hx;rcases hx with rfl | rfl | rfl
  ·exact⟨iw,by constructor<;>(show _<=A)<;>simp<;>omega⟩
  ·exact⟨ir2,by constructor<;>(show _<=A)<;>simp<;>omega⟩
  ·exact⟨ian,by constructor<;>(show _<=A)<;>simp<;>omega⟩) (by simp) (hle 3 (by decide))
 simp only[List.foldl,List.map,flat,List.cons_append,xY,qP,xK,qH,qV]at iv4 bv4 t4 iv8 bv8 t8;have p4:0<=(mulQ (mulQ (mulQ (mulQ (1,1) (1,1)) (2,1)) b) (((g:Nat):Int),1)).1:=zer (zer (zer (zer (by decide) (by decide)) (by decide)) hb0) (by show(0:Int)<=((g:Nat):Int);omega);have p8:0<(mulQ (mulQ (mulQ (1,1) ((d:Int),1)) ((f:Int),1)) (1,6)).1:=zwf (zwf (zwf (by decide) (by show(0:Int)<(d:Int);omega)) (by show(0:Int)<(f:Int);omega)) (by decide);obtain⟨r,ir,br,t9⟩:=rQuo iv4 iv8 bv4 bv8 p8 (by have:=hle 7 (by decide);rw[xN,xN,<-yP];rwa[xN]at this);rw[xN,xN,<-yP]at br;refine⟨_,r,ir,zrg p4 iv8.2.pos,br,?_⟩;obtain⟨_,_,_,_,_,_,_,_,e⟩:=iv4.shape;subst e;obtain⟨_,_,_,_,_,_,_,_,e⟩:=iv8.shape;subst e;obtain⟨_,_,_,_,_,_,_,_,e⟩:=ir.shape;subst e;have w1:IntKind.i64.wrap ((f:Int)*(m:Int))=((f*m:Nat):Int):=by rw[<-xJ];exact w64 (by omega) (by have:=xC (f*m) hd;omega)
 have w2:IntKind.i64.wrap (((f*m:Nat):Int)*(d:Int))=((f*m*d:Nat):Int):=by rw[<-xJ];exact w64 (by omega) (by omega)
 refine oF o42 ?_;simp only[c42,r42_0,SS,reduceCtorEq];simp only[r42_1,SS,reduceCtorEq,reduceIte,qQ,Int.reduceMul,wi2];refine zaa tn ?_ rfl (by simp only[AV.closed,qX,qY]);simp only[zaf,zac,qZ,qW,SS,reduceIte,qV,qQ,qJ,qC,qB];simp only[r42_2,SS,reduceCtorEq,reduceIte,qQ,yL,wi0];refine zaa t1 ?_ rfl (by simp only[AV.closed,qX,qY]);simp only[zaf,zac,keys,qZ,qW,SS,reduceCtorEq,reduceIte,qQ];refine zaa t2 ?_ rfl (by simp only[AV.closed,qX,qY]);simp only[zaf,zac,keys,qZ,qW,SS,reduceIte,qV,qQ,qJ];simp only[w1,w2];refine zaa t3 ?_ rfl (by simp only[AV.closed,qX,qY]);simp only[zaf,zac,keys,qZ,qW,SS,reduceIte,qV,qQ,qJ,qT];refine qop t4 rfl (by simp only[AV.closed,qX,qY]) ?_;simp only[zaf,zac,keys,qZ,qW,SS,reduceIte,qV,qQ,qJ];refine⟨rfl,?_⟩;simp only[r42_3,SS,reduceIte,qV,qQ,qJ];refine zaa t5 ?_ rfl (by simp only[AV.closed,qX,qY]);simp only[zaf,zac,keys,qZ,qW,SS,reduceCtorEq,reduceIte,qQ];refine zaa t6 ?_ rfl (by simp only[AV.closed,qX,qY]);simp only[zaf,zac,keys,qZ,qW,SS,reduceIte,qV,qQ,qJ];refine zaa t7 ?_ (by simp only[AV.closed,qX,qY]) (by simp only[AV.closed,qX,qY]);simp only[zaf,zac,keys,qZ,qW,SS,reduceIte,qV,qQ,qJ,qT];refine qoo t8 rfl (by simp only[AV.closed,qX,qY]) ?_;simp only[zaf,zac,keys,qZ,qW,SS,reduceIte,qQ];refine zaa t9 ?_ (by simp only[AV.closed,qX,qY]) (by simp only[AV.closed,qX,qY]);simp only[zaf,zac,keys,qZ,qW,SS,reduceIte,qV,qQ,qJ];refine⟨rfl,?_⟩;exact dR
def facQ(p:Nat)(c:Int)(s:Nat):Int×Int:=(numR ((p^s:Nat)-c) ((p^s:Nat):Int),denR ((p^s:Nat)-c) ((p^s:Nat):Int))
theorem rFac{p s:Nat}{c:Int}(hp:2<=p)(hp2:p<=10000)(hs:1<=s/\s<=2)(hc:c=0\/c=1\/c= -1):
  ∃v,RV (facQ p c s) v/\Bd (facQ p c s) 200000000/\0<(facQ p c s).1/\Rt 36 [.int .i64 (p:Int),.int .i64 c,.int .i64 (s:Int)] [] v []:=by
 have hP:2<=p^s/\p^s<=100000000:=by
  rcases(by omega:s=1\/s=2)with rfl | rfl
  ·rw[yJ];omega
  ·rw[Nat.pow_two];have:=qS hp hp;have:=qS hp2 hp2;omega
 obtain⟨v,iv,t⟩:=quf (p:=p) (s:=s) (c:=c) (by omega) (by omega) (by omega) (by omega) hc;have hd:(0:Int)<((p^s:Nat):Int):=by omega
 refine⟨v,⟨iv,zyo hd⟩,⟨xX (zta _ _) (by omega),xX (ztb _ _) (by omega)⟩,qeq (by omega),t⟩
def jgt(D:Nat->Int×Int)(K:Nat->Int)(p:Nat)(q:Int×Int):Int×Int:=mulQ q (quoQ (mulQ (D p) (facQ p (K p) 1)) (facQ p 1 2))
def zyq(D:Nat->Int×Int)(K:Nat->Int):List (Nat×Nat)->Int×Int->Int×Int
 | [],q=>q
 |x::l,q=>zyq D K l (jgt D K x.1 q)
def RShp(v:AV):Prop:= ∃a b l1 k1 c1 l2 k2 c2,v= .agg [.bool a,.vec (u32s l1) k1 c1,.bool b,.vec (u32s l2) k2 c2]
inductive EC(a:AV)(k:Nat)(F:Int)(K:Nat->Int):AV->List (Nat×Nat)->AV->Prop
 |done {v:AV}:RShp v->EC a k F K v [] v
 |step {v dv lo dl f2 dq u v':AV} {p e:Nat} {l:List (Nat×Nat)}:RShp v->RShp dv->RShp lo->RShp dl->RShp f2->RShp dq->RShp u->
  Rt 16 [a,.int .i64 (p:Int),.int .i64 (k:Int)] [] (.tup [dv,.int .i64 0]) []->
  Rt 35 [.int .i64 F,.int .i64 (p:Int)] [] (.tup [.int .i64 (K p),.int .i64 0]) []->
  Rt 36 [.int .i64 (p:Int),.int .i64 (K p),.int .i64 1] [] lo []->
  Rt 37 [dv,lo] [] dl []->
  Rt 36 [.int .i64 (p:Int),.int .i64 1,.int .i64 2] [] f2 []->
  Rt 38 [dl,f2] [] dq []->
  Rt 37 [v,dq] [] u []->EC a k F K u l v'->EC a k F K v ((p,e)::l) v'
theorem EC.ex{a:AV}{k:Nat}{F:Int}{K:Nat->Int}{D:Nat->Int×Int}{A:Nat}(hA:A=10000000000000000000000000000000):∀(l:List (Nat×Nat)) (B:Nat) (q:Int×Int) (v:AV),RV q v->Bd q B->0<=q.1->
  (∀x∈l,2<=x.1/\x.1<=10000/\(K x.1=0\/K x.1=1\/K x.1= -1)/\Rt 35 [.int .i64 F,.int .i64 (x.1:Int)] [] (.tup [.int .i64 (K x.1),.int .i64 0]) []/\0<=(D x.1).1/\Bd (D x.1) 40000/\
   ∃dv,RV (D x.1) dv/\Rt 16 [a,.int .i64 (x.1:Int),.int .i64 (k:Int)] [] (.tup [dv,.int .i64 0]) [])->B*A^l.length<BIG->
  ∃v',EC a k F K v l v'/\RV (zyq D K l q) v'/\Bd (zyq D K l q) (B*A^l.length)/\0<=(zyq D K l q).1
 | [],B,q,v,hv,hb,h0,_,_=>⟨v,.done hv.shape,hv,by rw[xK,xO,yR];exact hb,h0⟩
 |(p,e)::l,B,q,v,hv,hb,h0,h,hB=>by
  obtain⟨hp,hp2,hK,tK,d0,db,dv,id',tD⟩:=h (p,e) (List.mem_cons_self ..);have e1:B*A^(l.length+1)=B*A*A^l.length:=by rw[xM,jW (A^l.length),xZ]
  rw[qP,e1]at hB ⊢
  have h1:B*A<BIG:=by
   have:1<=A^l.length:=Nat.one_le_pow _ _ (by omega);have:=xC (B*A) this;omega
  have BF:∀n:Nat,n<=100000000000000000000000000000000000->n<BIG:=λn h=>zdz (by omega)
  obtain⟨lo,ilo,blo,plo,t1⟩:=rFac (s:=1) hp hp2 (by decide) hK;obtain⟨dl,idl,bdl,t2⟩:=rMul id' ilo db blo (BF _ (by decide));obtain⟨f2,if2,bf2,pf2,t3⟩:=rFac (s:=2) (c:=1) hp hp2 (by decide) (by decide);obtain⟨dq,idq,bdq,t4⟩:=rQuo idl if2 bdl bf2 pf2 (BF _ (by decide));have bdq':Bd _ A:=⟨xX bdq.1 (by subst hA;decide),xX bdq.2 (by subst hA;decide)⟩
  obtain⟨u,iu,bu,t5⟩:=rMul hv idq hb bdq' h1;have p0:0<=(jgt D K p q).1:=zer h0 (zrg (zer d0 (jK plo)) if2.2.pos);obtain⟨v',c,iv',bv',pv'⟩:=EC.ex hA l (B*A) _ u iu bu p0 (λx hx=>h x (List.mem_cons_of_mem _ hx)) hB;exact⟨v',.step hv.shape id'.shape ilo.shape idl.shape if2.shape idq.shape iu.shape tD tK t1 t2 t3 t4 t5 c,iv',bv',pv'⟩
def nilC:List AV:=[.bool false,.vec [] 0 (some 0),.bool false,.vec [] 0 (some 0)]
theorem jgu{a r:AV}{va:List AV}{k n:Nat}{F:Int}{K:Nat->Int}{l:List (Nat×Nat)}{c:Option Nat}{d f:Int}(hca:a.closed=true)(ha:∃rows ch,a= .vec rows 3 ch)(hl:FL n l)(hn:n<=10000)(hc:EC a k F K (.agg va) l r){E:Env}{Q:Post}
  (e0:E 0=a) (e1:E 1= .int .i64 (k:Int)) (e4:E 4= .ptr 0 0) (e6:E 6= .int .i64 d) (e7:E 7= .int .i64 1) (e8:E 8= .int .i64 F) (e9:E 9= .int .i64 f) (e10:E 10= .ptr 1 0) (e64:E 64= .vec (pcL l) l.length c) (e65:E 65= .int .i64 (l.length:Nat)) (e66:E 66= .int .i64 0)
  (hQ:∀E' ra,r= .agg ra->E' 0=a->E' 1= .int .i64 (k:Int)->E' 4= .ptr 0 0->E' 6= .int .i64 d->E' 7= .int .i64 1->E' 8= .int .i64 F->E' 9= .int .i64 f->E' 10= .ptr 1 0->Q (.exit 0) E' [some nilC,some ra]):Wg 0 143 (.loop l10_0) E [some nilC,some va] Q:=by
 have hll:l.length<1100:=by
  have hlen:=hl.len;rcases xV l.length 1100 with h | h
  ·exact h
  ·have h9:2^31<=2^l.length:=xW (by decide) (by omega);omega
 have hcl:=zia l
 refine zaj (λj E H=>∃(dn rs:List (Nat×Nat)) (vs:List AV),l=dn++rs/\rs.length=j/\EC a k F K (.agg vs) rs r/\H=[some nilC,some vs]/\E 0=a/\E 1= .int .i64 (k:Int)/\E 4= .ptr 0 0/\E 6= .int .i64 d/\E 7= .int .i64 1/\E 8= .int .i64 F/\E 9= .int .i64 f/\E 10= .ptr 1 0/\
   E 64= .vec (pcL l) l.length c/\E 65= .int .i64 (l.length:Nat)/\E 66= .int .i64 (dn.length:Nat)) (n:=l.length)
  ⟨[],l,va,rfl,rfl,hc,rfl,e0,e1,e4,e6,e7,e8,e9,e10,e64,e65,e66⟩ ?_
 clear e0 e1 e4 e6 e7 e8 e9 e10 e64 e65 e66 E hc;rintro j E H ⟨dn,rs,vs,el,hj,hc,rfl,e0,e1,e4,e6,e7,e8,e9,e10,e64,e65,e66⟩;refine wM ?_;generalize hr:AV.agg vs=vv at hc;cases hc with
 |done hs=>
  rw[qW]at el;subst el;have d1:decide ((l.length:Int)<(l.length:Nat))=false:=dF;simp only[l10_0,r10_16,SS,fC,reduceIte,e65,e66,d1];refine hQ _ vs hr.symm ?_ ?_ ?_ ?_ ?_ ?_ ?_ ?_<;>simp only[UU,qQ, *]
 | @step _ dv lo dl f2 dq u _ p e rs s0 s1 s2 s3 s4 s5 s6 t1 t2 t3 t4 t5 t6 t7 hc=>
  rw[qP]at hj;have hle:dn.length+(rs.length+1)=l.length:=by rw[el,xU,qP]
  have d1:decide ((dn.length:Int)<(l.length:Nat))=true:=dT;have hg:=zwa dn p e rs;rw[<-el]at hg;obtain⟨rows,ch,rfl⟩:=ha;have w9:=wS1 dn.length (by omega);obtain⟨_,_,_,_,_,_,_,_,rfl⟩:=s0;obtain⟨_,_,_,_,_,_,_,_,rfl⟩:=s1;obtain⟨_,_,_,_,_,_,_,_,rfl⟩:=s2;obtain⟨_,_,_,_,_,_,_,_,rfl⟩:=s3;obtain⟨_,_,_,_,_,_,_,_,rfl⟩:=s4;obtain⟨_,_,_,_,_,_,_,_,rfl⟩:=s5;obtain⟨_,_,_,_,_,_,_,_,rfl⟩:=s6;simp only[AV.agg.injEq]at hr;subst hr;have cA:qX [.vec rows 3 ch,.int .i64 (p:Int),.int .i64 (k:Int)]=true:=by simp only[qX,hca];rfl
  simp only[l10_0,r10_16,SS,fC,reduceIte,e65,e66,d1];simp only[r10_17,SS,reduceIte,qV,qQ,qJ,e64,e66,qU,hg,hcl];have et:Int.tmod ((3:Nat):Int) 2=1:=rfl;have d0:decide ((0:Int)≠0)=false:=by decide
  have d2:decide ((1:Int)=0)=false:=by decide
  refine⟨⟨by omega,by omega⟩,by omega,?_⟩;simp only[r10_18,SS,fC,reduceCtorEq,reduceIte,qV,qQ,qJ,e0,e1];refine zaa t1 ?_ cA (by simp only[AV.closed,qX,qY]);simp only[zaf,zac,qZ,qW,SS,reduceIte,qV,qQ,qJ,qC,qB];simp only[r10_19,SS,fC,reduceIte,qQ,d0];simp only[r10_21,SS,fC,reduceIte,qV,qQ,qJ,e8];refine zaa t2 ?_;simp only[zaf,zac,qZ,qW,SS,reduceIte,qQ,qC,qB];simp only[r10_22,SS,fC,reduceIte,qV,qQ,qJ,e7];refine zaa t3 ?_ rfl (by simp only[AV.closed,qX,qY]);simp only[zaf,zac,qZ,qW,SS,reduceIte,qV,qQ,qJ];simp only[r10_23,SS,fC,reduceCtorEq,reduceIte,qQ,decide_false,Int.reduceEq,e0,et];simp only[r10_25,SS,reduceIte,qV,qQ,qJ];refine⟨by decide,?_⟩;refine zaa t4 ?_ (by simp only[AV.closed,qX,qY]) (by simp only[AV.closed,qX,qY]);simp only[zaf,zac,qZ,qW,SS,reduceIte,qV,qQ,qJ];simp only[r10_26,SS,fC,reduceIte,qV,qQ,qJ,Int.reduceMul,wi2,e7,e10];refine zaa t5 ?_ rfl (by simp only[AV.closed,qX,qY]);simp only[zaf,zac,keys,qZ,qW,SS,reduceIte,qQ];refine zaa t6 ?_ (by simp only[AV.closed,qX,qY]) (by simp only[AV.closed,qX,qY]);simp only[zaf,zac,keys,qZ,qW,SS,reduceIte,qQ];refine zaa t7 ?_ (by simp only[AV.closed,qX,qY]) (by simp only[AV.closed,qX,qY]);simp only[zaf,zac,keys,qZ,qW,SS,reduceIte,qV,qQ,qJ,e10];refine⟨rfl,?_⟩;simp only[r10_27,SS,reduceIte,qQ,e66,w9];refine⟨rs.length,frzE 2 3 _ _,List.take 2 _,by omega,⟨dn++[(p,e)],rs,_,by rw[zX];exact el,rfl,hc,rfl,?_,?_,?_,?_,?_,?_,?_,?_,?_,?_,?_⟩,zhp 2 3 (xE _) (by simp) (λi cs h hg=>?_)⟩
  rotate_right
  ·have hcl:qX cs=true:=by
    rcases(by omega:i=0\/i=1)with rfl | rfl
    ·cases hg;rfl
    ·cases hg;simp only[AV.closed,qX,qY]
   exact zbd _ _ hcl
  all_goals unfold frzE
  ·simp only[UU,qQ,e0];rfl
  ·simp only[UU,qQ,e1];rfl
  ·simp only[UU,qQ,e4];rfl
  ·simp only[UU,qQ,e6];rfl
  ·simp only[UU,qQ,e7];rfl
  ·simp only[UU,qQ,e8];rfl
  ·simp only[UU,qQ,e9];rfl
  ·simp only[UU,qQ,e10];rfl
  ·simp only[UU,qQ,e64];rfl
  ·simp only[UU,qQ,e65];rfl
  ·simp only[UU,qQ,reduceIte,xU,qP,xK,qH];rfl
theorem jjl{rows:List AV}{ch c:Option Nat}{k d n f:Nat}{F:Int}{K:Nat->Int}{l:List (Nat×Nat)}{one vl gv ab od fv:AV}(hca:(AV.vec rows 3 ch).closed=true)
  (hred:Rt 30 [.vec rows 3 ch] [] (.bool true) []) (hdet:Rt 31 [.vec rows 3 ch] [] (.int .i64 (d:Int)) []) (hk:1<=k/\k<=1000) (hd:1<=d) (hdk:d*k<=2000)
  (hdisc:Rt 32 [.int .i64 3,.int .i64 (d:Int),.int .i64 (k:Int)] [] (.int .i64 F) []) (hF:F.natAbs=f) (hf:f<=40000)
  (hone:Rt 33 [.int .i64 1] [] one []) (s1:RShp one) (hfac:Rt 34 [.int .i64 ((2*d*k:Nat):Int)] [] (.tup [.vec (pcL l) l.length c,.int .i64 0]) [])
  (hl:FL n l) (hn:n<=10000) (hEC:EC (.vec rows 3 ch) k F K one l vl) (s2:RShp vl)
  (hgen:Rt 39 [.int .i64 1,.int .i64 F] [] (.tup [gv,.int .i64 0]) []) (s3:RShp gv) (habs:Rt 40 [gv] [] ab []) (s4:RShp ab)
  (hodd:Rt 42 [.int .i64 1,.int .i64 (d:Int),.int .i64 (k:Int),.int .i64 (f:Int),ab] [] od []) (s5:RShp od) (hmul:Rt 37 [vl,od] [] fv []) (s6:RShp fv):
  Rt 10 [.vec rows 3 ch,.int .i64 (k:Int)] [] (.tup [fv,.int .i64 0]) []:=by
 have hle:2*d*k<=4000:=by rw[xZ];omega
 have hd2:d<=2000:=xX (xC d (by omega)) hdk;have e3:decide (((3:Nat):Int)<3)=false:=by decide
 have e4:IntKind.i64.wrap (Int.tdiv ((3:Nat):Int) 2)=1:=rfl;have et:Int.tmod ((3:Nat):Int) 2=1:=rfl;have d2:decide ((1:Int)=0)=false:=by decide
 have d3:decide ((k:Int)<1)=false:=dF;have d4:decide (1000<(k:Int))=false:=dF;have d5:decide (40000<(f:Int))=false:=dF;have wn:IntKind.i64.wrap (0-F)= -F:=by rw[jJ];exact w64 (by omega) (by omega)
 have wm:(if -F>F then -F else F)=(f:Int):=by split<;>omega
 have w1:IntKind.i64.wrap (2*(d:Int))=((2*d:Nat):Int):=wQ (by omega);have w2:IntKind.i64.wrap (((2*d:Nat):Int)*(k:Int))=((2*d*k:Nat):Int):=by rw[<-xJ];exact w64 (by omega) (by omega)
 have c0:qX [.vec rows 3 ch]=true:=by simp only[qX,hca,qY]
 have cF:AV.closed (.tup [.vec (pcL l) l.length c,.int .i64 0])=true:=by simp only[AV.closed,qX,qY]
 obtain⟨_,_,_,_,_,_,_,_,rfl⟩:=s1;obtain⟨_,_,_,_,_,_,_,_,rfl⟩:=s3;obtain⟨_,_,_,_,_,_,_,_,rfl⟩:=s4;obtain⟨_,_,_,_,_,_,_,_,rfl⟩:=s5;obtain⟨_,_,_,_,_,_,_,_,rfl⟩:=s6;refine oF o10 ?_;simp only[c10,r10_0,SS,reduceCtorEq];simp only[r10_1,SS,reduceCtorEq,reduceIte,qQ];refine zaa hred ?_ c0;simp only[zaf,zac,qZ,qW,SS,fC,reduceIte,qQ];simp only[r10_3,SS,fC,reduceCtorEq,reduceIte,qQ,e3];simp only[r10_5,↓zcq,SS,fC,reduceIte,qQ,d3,d4];simp only[r10_7,SS,reduceCtorEq,reduceIte,qQ];refine zaa hdet ?_ c0;simp only[zaf,zac,qZ,qW,SS,reduceIte,qQ];simp only[r10_8,SS,reduceCtorEq,reduceIte,qQ,e4];refine⟨by decide,?_⟩;simp only[r10_9,SS,reduceCtorEq,reduceIte,qQ];refine zaa hdisc ?_;simp only[zaf,zac,qZ,qW,SS,reduceIte,qQ];simp only[r10_10,SS,reduceIte,qQ,wn,wm];simp only[r10_11,SS,fC,reduceIte,qQ,d5];simp only[r10_13,SS];refine zaa hone ?_ rfl (by simp only[AV.closed,qX,qY]);simp only[zaf,zac,qZ,qW,SS,reduceIte,qV,qQ,qJ];simp only[r10_14,SS,reduceIte,qQ,w1,w2];refine zaa hfac ?_ rfl cF;simp only[zaf,zac,qZ,qW,SS,reduceIte,qQ,qC,qB];simp only[r10_15,SS,reduceIte,qQ];refine jgu (c:=c) (d:=(d:Int)) (f:=(f:Int)) hca ⟨_,_,rfl⟩ hl hn hEC ?_ ?_ ?_ ?_ ?_ ?_ ?_ ?_ ?_ ?_ ?_ ?_
 iterate 11 (focus first | (simp only[UU,qQ,reduceIte];done) | (simp only[UU,qQ,reduceIte];rfl))
 intro E' ra er f0 f1 f4 f6 f7 f8 f9 f10;obtain⟨_,_,_,_,_,_,_,_,e⟩:=s2;rw[er]at e;simp only[AV.agg.injEq]at e;subst er e;simp only[r10_28,SS,reduceCtorEq,reduceIte,qQ,f7,f8];refine zaa hgen ?_ rfl (by simp only[AV.closed,qX,qY]);simp only[zaf,zac,qZ,qW,SS,reduceIte,qV,qQ,qJ,qC,qB];simp only[r10_29,SS,reduceIte,qV,qQ,qJ];refine zaa habs ?_ (by simp only[AV.closed,qX,qY]) (by simp only[AV.closed,qX,qY]);simp only[zaf,zac,qZ,qW,SS,reduceIte,qV,qQ,qJ];simp only[r10_30,SS,fC,reduceCtorEq,reduceIte,qQ,decide_false,Int.reduceEq,f0,et];refine⟨by decide,?_⟩;simp only[r10_32,SS,reduceIte,qV,qQ,qJ,f1,f6,f7,f9,f10];refine zaa hodd ?_ (by simp only[AV.closed,qX,qY]) (by simp only[AV.closed,qX,qY]);simp only[zaf,zac,keys,qZ,qW,SS,reduceIte,qQ];refine zaa hmul ?_ (by simp only[AV.closed,qX,qY]) (by simp only[AV.closed,qX,qY]);simp only[zaf,zac,keys,qZ,qW,SS,reduceIte,qV,qQ,qJ,f4,nilC];refine⟨rfl,.inl trivial,.tup [.agg _,.int .i64 0],?_,.drop _ _ (by simp only[AV.under,AV.under.underL,Bool.and_true]) (by intro i cs h;omega)⟩;have hld:ldSz Tryz.prog 34=some (true,4):=by kernel_rfl
 simp only[resA,yE,zN,zeh,hld,UU,qQ,reduceIte,f4,qan,qan,need];rfl
theorem FL.mem{n:Nat}{l:List (Nat×Nat)}(h:FL n l):∀x∈l,Prm x.1/\x.1∣n:=by
 induction h with
 |one=>intro x hx;simp at hx
 | @cons n p e m l h1 h2 h3 h4 h5 h6 ih=>
  intro x hx;rcases List.mem_cons.1 hx with rfl | hx
  ·exact⟨h1.prime h2,(h1.div h2).1⟩
  ·exact⟨(ih x hx).1,Nat.dvd_trans (ih x hx).2 ⟨p^e,by rw[h3,jW]⟩⟩
theorem qva{z:Int}{n:Nat}{l:List (Nat×Nat)}(hz:z≠0)(hn:z.natAbs=n)(hl:FL n l):1<=(zru z l).natAbs/\(zru z l).natAbs<=4*n:=by
 have hb:=(qen (a:=l) (b:=[]) (n:=n) (by rw[qW];exact hl)).1;have hp:1<=sqS l:=hl.sq.1.pos.1
 have hs:(z.sign*(sqS l:Nat)).natAbs=sqS l:=by
  rcases(by omega:z<0\/0<z)with h | h
  ·rw[Int.sign_eq_neg_one_of_neg h];omega
  ·rw[Int.sign_eq_one_of_pos h];omega
 unfold zru;generalize z.sign*(sqS l:Nat)=y at*;split<;>omega
theorem qbw(q:Int×Int):0<=(absQ q).1:=by
 unfold absQ;split
 ·show 0<= -q.1;omega
 ·omega
theorem jct{q:Int×Int}{B:Nat}(h:Bd q B):Bd (absQ q) B:=by
 unfold absQ;split
 ·exact⟨by show(-q.1).natAbs<=B;have:=h.1;omega,h.2⟩
 ·exact h
theorem jgv{k d:Nat}{l:List (Nat×Nat)}{D:Nat->Int×Int}(hk:1<=k/\k<=1000)(hd:1<=d)(hdk:d*k<=2000)(hl:FL (2*d*k) l)(hD:∀x∈l,0<=(D x.1).1/\Bd (D x.1) 40000):
  ∃Q:Int×Int,0<=Q.1/\(Q.1*Q.2).natAbs<BIG/\∀(rows:List AV) (ch:Option Nat),(AV.vec rows 3 ch).closed=true->Rt 30 [.vec rows 3 ch] [] (.bool true) []->Rt 31 [.vec rows 3 ch] [] (.int .i64 (d:Int)) []->
   (∀x∈l,∃dv,RV (D x.1) dv/\Rt 16 [.vec rows 3 ch,.int .i64 (x.1:Int),.int .i64 (k:Int)] [] (.tup [dv,.int .i64 0]) [])->
   ∃r,RV Q r/\Rt 10 [.vec rows 3 ch,.int .i64 (k:Int)] [] (.tup [r,.int .i64 0]) []:=by
 have hdk1:1<=d*k:=yO hd hk.1;have hn:2*d*k<=4000:=by rw[xZ];omega
 have hn1:1<=2*d*k:=by rw[xZ];omega
 obtain⟨l',hl'⟩:=FL.ex (d*k) (d*k) hdk1 (qA _);have hz: -((d*k:Nat):Int)≠0:=by omega
 have hz2:(-((d*k:Nat):Int)).natAbs=d*k:=by omega
 have hdisc:=zrd hd hk.1 (by omega) hl';have hfun:=zwc hz hz2 hl' (by omega);obtain⟨b1,b2⟩:=qva hz hz2 hl';obtain⟨f,hf⟩:∃f,f=(zru (-((d*k:Nat):Int)) l').natAbs:=⟨_,rfl⟩
 rw[<-hf]at b1 b2;generalize zru (-((d*k:Nat):Int)) l'=F at*;obtain⟨gq,gv,hgv,bg,tg⟩:=zwe num1 b1 (by omega) hf.symm hfun;obtain⟨ab,hab,ta⟩:=zte hgv;obtain⟨A,hA⟩:∃A:Nat,A=10000000000000000000000000000000:=⟨_,rfl⟩
 have hA7:A^36<=2^4000:=by subst hA;decide +kernel
 have hA1:1<=A:=by omega
 have hle:∀i,i<=36->1*A^i<BIG:=λi hi=>by rw[xN];exact big2 (xX (xW hA1 hi) hA7)
 have hfk:f*k*d<=16000000:=by
  rw[xZ,jW k d];exact xX (qS (show f<=8000 by omega) hdk) (by decide)
 obtain⟨oq,ov,hov,po,bo,to⟩:=jjk (A:=A) hd hk.1 b1 (by omega) hA hab (jct ⟨by have:=bg.1;omega,by have:=bg.2;omega⟩) (qbw gq);obtain⟨one,ione,t1⟩:=zjf 1 (by decide) (by decide);have ione:RV (1,1) one:=⟨ione,zds⟩
 have hmem:=hl.mem;have hx:∀x∈l,2<=x.1/\x.1<=4000:=λx hx=>⟨(hmem x hx).1.1,xX (Nat.le_of_dvd (by omega) (hmem x hx).2) hn⟩
 have hlen:l.length<=11:=by
  have h1:=hl.len;rcases xV 11 l.length with h | h
  ·have:2^12<=2^l.length:=xW (by decide) h;omega
  ·exact h
 obtain⟨K,hK⟩:∃K:Nat->Int,∀a,1<=a->KR F 1 a (K a)/\(K a=0\/K a=1\/K a= -1):=by
  have:=λa=>KR.ex F a a (qA a)
  refine⟨λa=>if h:1<=a then(this a h 1 (.inl rfl)).choose else 0,λa h=>?_⟩;simp only[h,dif_pos];exact(this a h 1 (.inl rfl)).choose_spec
 refine Classical.byCases (p:= ∃(rows:List AV) (ch:Option Nat),∀x∈l,∃dv,RV (D x.1) dv/\Rt 16 [.vec rows 3 ch,.int .i64 (x.1:Int),.int .i64 (k:Int)] [] (.tup [dv,.int .i64 0]) []) (λhex=>?_) (λhno=>⟨(0,1),yK 0,qng,λrows ch _ _ _ h=>absurd ⟨rows,ch,h⟩ hno⟩)
 have go:∀(rows:List AV) (ch:Option Nat),(∀x∈l,∃dv,RV (D x.1) dv/\Rt 16 [.vec rows 3 ch,.int .i64 (x.1:Int),.int .i64 (k:Int)] [] (.tup [dv,.int .i64 0]) [])->
   ∃v',EC (.vec rows 3 ch) k F K one l v'/\RV (zyq D K l (1,1)) v'/\Bd (zyq D K l (1,1)) (1*A^l.length)/\0<=(zyq D K l (1,1)).1:=λrows ch h=>
  EC.ex hA l 1 (1,1) one ione ⟨qA 1,qA 1⟩ (by decide) (λx hxl=>by
   obtain⟨g1,g2⟩:=hx x hxl;obtain⟨k1,k2⟩:=hK x.1 (by omega);exact⟨g1,by omega,k2,qxm (by omega) (by omega) (by omega) (by omega) k1,(hD x hxl).1,(hD x hxl).2,h x hxl⟩) (hle _ (by omega))
 obtain⟨rows0,ch0,h0⟩:=hex;obtain⟨vl0,_,hvl0,bvl0,p0⟩:=go rows0 ch0 h0;obtain⟨_,_,b0,_⟩:=rMul hvl0 hov bvl0 bo (by rw[xZ,<-yP];exact hle _ (by omega));refine⟨mulQ (zyq D K l (1,1)) oq,zer p0 po,?_,λrows ch hca hred hdet h=>?_⟩
 ·refine xI (zmd b0.1 b0.2) ?_;rw[xZ 1,<-yP,xN,<-yP];have:=hle (l.length+7+(l.length+7)) (by omega)
  rwa[xN]at this
 obtain⟨vl,hc,hvl,bvl,_⟩:=go rows ch h
 obtain⟨fv,hfv,bfv,tm⟩:=rMul hvl hov bvl bo (by
  rw[xZ,<-yP];exact hle _ (by omega))
 exact⟨fv,hfv,jjl hca hred hdet hk hd hdk hdisc hf.symm (by omega) t1 ione.shape (qel hl hn1 (by omega)) hl (by omega) hc hvl.shape tg hgv.shape ta hab.shape to hov.shape tm hfv.shape⟩
end Go.Proofs.YtgfbaioffpcelaaGreatDoor
namespace Go.Proofs.YtgfbaioffpcelaaGreatDoor
open Go Go.AL Go.Proofs
noncomputable section
open Tryz
def q14:=V (RS f14=·)
def r14_0:=X q14 0
def r14_1:=X q14 1
def r14_2:=X q14 2
def r14_3:=X q14 3
def r14_4:=X q14 4
def r14_5:=X q14 5
def l14_0:CC:= .seq (sR r14_3<|xR 16 0)<|.seq (.block 1<|rN r14_4)<|rN r14_5
def r14_6:=X q14 6
def c14:CC:=sR r14_0<|sR r14_1<|.seq (sR r14_2<|.block 0<|.loop l14_0)<|sR r14_6 .ret
theorem o14:FnI 14 23 f14 c14 [.tmp 6]:=oM func14
end
end Go.Proofs.YtgfbaioffpcelaaGreatDoor
namespace Go.Proofs.YtgfbaioffpcelaaGreatDoor
open Go Go.AL Go.Proofs Go.Limb
def pwF(z cap:Int):Nat->Int->Int
 |0,n=>n
 |k+1,n=>if n<=cap then pwF z cap k (IntKind.i64.wrap (n*z))else n
theorem ztg(z e cap:Int)(he:e<9223372036854775808):Rt 14 [.int .i64 z,.int .i64 e,.int .i64 cap] [] (.int .i64 (pwF z cap e.toNat 1)) []:=by
 refine oF o14 ?_;simp only[c14,r14_0,r14_1,r14_2,SS,reduceCtorEq]
 refine zaj (λq E H=>∃(i:Nat) (n:Int),i+q=e.toNat/\H=[]/\pwF z cap q n=pwF z cap e.toNat 1/\E 0= .int .i64 z/\E 1= .int .i64 e/\E 2= .int .i64 cap/\E 7= .int .i64 n/\E 8= .int .i64 (i:Int)) (n:=e.toNat)
  ⟨0,1,by omega,rfl,rfl,by rfl,by rfl,by rfl,by rfl,by rfl⟩ ?_
 rintro q E H ⟨i,n,hiq,rfl,hpw,e0,e1,e2,e7,e8⟩;refine wM ?_;cases q with
 |zero=>
  have d1:decide ((i:Int)<e)=false:=dF;simp only[l14_0,r14_3,SS,fC,reduceCtorEq,reduceIte,qQ,e1,e2,e7,e8,d1];simp only[r14_6,SS,reduceIte,qQ,e7];rw[<-hpw];exact kR
 |succ q=>
  have d1:decide ((i:Int)<e)=true:=dT;have w5:=wS1 i (by omega);by_cases hc:n<=cap
  ·have d2:decide (n<=cap)=true:=decide_eq_true hc;simp only[l14_0,r14_3,SS,fC,reduceCtorEq,reduceIte,qQ,e1,e2,e7,e8,d1,d2];simp only[r14_4,r14_5,SS,reduceCtorEq,reduceIte,qQ,e0,e7,e8,w5];refine⟨q,_,_,by omega,⟨i+1,IntKind.i64.wrap (n*z),by omega,rfl,?_,?_,?_,?_,?_,?_⟩,.refl⟩
   ·rw[<-hpw];simp only[pwF,if_pos hc]
   ·exact e0
   ·exact e1
   ·exact e2
   ·rfl
   ·rfl
  ·have d2:decide (n<=cap)=false:=decide_eq_false hc;simp only[l14_0,r14_3,SS,fC,reduceCtorEq,reduceIte,qQ,e1,e2,e7,e8,d1,d2];simp only[r14_6,SS,reduceIte,qQ,e7];rw[<-hpw];simp only[pwF,if_neg hc];exact kR
theorem qoq{p:Nat}(hp:p<=10000):∀q i:Nat,pwF (p:Int) 40000 q ((p^i:Nat):Int)<=40000->p^(i+q)<=40000
 |0,i,h=>by simp only[pwF]at h;rw[xQ];omega
 |q+1,i,h=>by
  unfold pwF at h;by_cases hi:((p^i:Nat):Int)<=40000
  ·rw[if_pos hi]at h;have h1:p^i*p<=40000*10000:=qS (by omega) hp
   have e:IntKind.i64.wrap (((p^i:Nat):Int)*(p:Int))=((p^(i+1):Nat):Int):=by
    rw[<-xJ,<-xM];exact w64 (by omega) (by rw[xM];omega)
   rw[e]at h;have:=qoq hp q (i+1) h
   rwa[show i+(q+1)=i+1+q by omega]
  ·rw[if_neg hi]at h;exact absurd h hi
def hvP(k:Nat)(x:Nat×Nat):Bool:=decide (40000<pwF (x.1:Int) 40000 ((2*expo x.1 (2*k) (2*k)+1)*3) 1)
def hvB(d k:Nat)(l:List (Nat×Nat)):Bool:=if 2000<d*k then true else l.any (hvP k)
theorem qvb{d k:Nat}{l:List (Nat×Nat)}(h:hvB d k l=false):d*k<=2000/\∀x∈l,x.1<=10000->x.1^((2*expo x.1 (2*k) (2*k)+1)*3)<=40000:=by
 unfold hvB at h;by_cases h1:2000<d*k
 ·rw[if_pos h1]at h;cases h
 rw[if_neg h1]at h;refine⟨by omega,λx hx hp=>?_⟩;have h2:=List.any_eq_false.1 h x hx;simp only[hvP,decide_eq_true_eq]at h2;have:=qoq hp ((2*expo x.1 (2*k) (2*k)+1)*3) 0 (by rw[xO];exact Int.not_lt.1 h2)
 rwa[qH]at this
theorem jcu{rows:List AV}{ch:Option Nat}{d k:Nat}{l:List (Nat×Nat)}(hca:(AV.vec rows 3 ch).closed=true)(hdet:Rt 28 [.vec rows 3 ch] [] (.int .i64 (d:Int)) [])(hd:1<=d/\d<=10000)(hk:1<=k/\k<=1000)(hl:FL (2*d*k) l):
  Rt 9 [.vec rows 3 ch,.int .i64 (k:Int)] [] (.bool (hvB d k l)) []:=by
 have hle:d*k<=10000000:=qS hd.2 hk.2;have hp1:1<=d*k:=yO hd.1 hk.1;have e2:2*d*k=2*(d*k):=xZ 2 d k;have c0:qX [.vec rows 3 ch]=true:=by simp only[qX,hca,qY]
 have d3:decide ((k:Int)<1)=false:=dF;have d4:decide (1000<(k:Int))=false:=dF;have w1:IntKind.i64.wrap ((d:Int)*(k:Int))=((d*k:Nat):Int):=by rw[<-xJ];exact w64 (by omega) (by omega)
 have w2:IntKind.i64.wrap (2*(d:Int))=((2*d:Nat):Int):=wQ (by omega);have w3:IntKind.i64.wrap (((2*d:Nat):Int)*(k:Int))=((2*d*k:Nat):Int):=by rw[<-xJ];exact w64 (by omega) (by omega)
 refine oF o9 ?_;simp only[c9,r9_0,SS,reduceCtorEq];simp only[r9_1,SS,reduceCtorEq,reduceIte,qQ];refine zaa hdet ?_ c0;simp only[zaf,zac,qZ,qW,SS,reduceIte,qQ];unfold hvB;by_cases h1:2000<d*k
 ·rw[if_pos h1];have d5:decide (2000<((d*k:Nat):Int))=true:=dT;simp only[r9_2,↓zcq,SS,fC,reduceIte,qQ,d3,d4,w1,d5];simp only[r9_3,SS];exact dR
 rw[if_neg h1];have d5:decide (2000<((d*k:Nat):Int))=false:=dF;have tF:=qod hl (by omega) (by omega);have hcl:=zia l
 have hll:l.length<1100:=by
  have hlen:=hl.len;rcases xV l.length 1100 with h | h
  ·exact h
  ·have h9:2^31<=2^l.length:=xW (by decide) (by omega);omega
 simp only[r9_2,↓zcq,SS,fC,reduceIte,qQ,d3,d4,w1,d5];simp only[r9_4,SS,reduceIte,qQ,w2,w3];refine zaa tF ?_ rfl (by simp only[AV.closed,qX,qY]);simp only[zaf,zac,qZ,qW,SS,reduceIte,qQ,qC,qB];simp only[r9_5,SS,reduceIte,qQ]
 refine zaj (λj E H=>∃dn rs:List (Nat×Nat),l=dn++rs/\rs.length=j/\rs.any (hvP k)=l.any (hvP k)/\E 0= .vec rows 3 ch/\E 1= .int .i64 (k:Int)/\E 32= .vec (pcL l) l.length (capL l)/\E 33= .int .i64 (l.length:Nat)/\E 34= .int .i64 (dn.length:Nat)) (n:=l.length)
  ⟨[],l,rfl,rfl,rfl,by rfl,by rfl,by rfl,by rfl,by rfl⟩ ?_
 rintro j E H ⟨dn,rs,el,hj,hany,e0,e1,e32,e33,e34⟩;refine wM ?_;cases rs with
 |nil=>
  rw[qW]at el;subst el;have d1:decide ((l.length:Int)<(l.length:Nat))=false:=dF;simp only[l9_0,r9_6,SS,fC,reduceCtorEq,reduceIte,e33,e34,d1];simp only[r9_11,SS];rw[<-hany];exact dR
 |cons x rs=>
  obtain⟨p,e⟩:=x;rw[qP]at hj;have hle:dn.length+(rs.length+1)=l.length:=by rw[el,xU,qP]
  have d1:decide ((dn.length:Int)<(l.length:Nat))=true:=dT;have hg:=zwa dn p e rs;rw[<-el]at hg;have w9:=wS1 dn.length (by omega);have hp2:2<=p:=hl.pos.2 (p,e) (by rw[el];simp);have hp3:p<=2*d*k:=Nat.le_of_dvd (by omega) (hl.mem (p,e) (by rw[el];simp)).2;have tE:=zpt (p:=p) (n:=2*k) hp2 (by omega) (by omega) (by omega)
  have hex:expo p (2*k) (2*k)<=2000:=by
   have h1:=qlb hp2 (show 1<=2*k by omega);have h2:2^expo p (2*k) (2*k)<=p^expo p (2*k) (2*k):=Nat.pow_le_pow_left hp2 _;have h3:=Nat.lt_two_pow_self (n:=expo p (2*k) (2*k));omega
  generalize hE:expo p (2*k) (2*k)=ex at*;have v1:IntKind.i64.wrap (2*(k:Int))=((2*k:Nat):Int):=wQ (by omega);have v2:IntKind.i64.wrap (2*(ex:Int))=((2*ex:Nat):Int):=wQ (by omega);have v3:=wS1 (2*ex) (by omega);have v4:IntKind.i64.wrap (((2*ex+1:Nat):Int)*((3:Nat):Int))=(((2*ex+1)*3:Nat):Int):=by rw[<-xJ];exact w64 (by omega) (by omega)
  have tP:=ztg (p:Int) (((2*ex+1)*3:Nat):Int) 40000 (by omega);rw[qU]at tP;have hP:hvP k (p,e)=decide (40000<pwF (p:Int) 40000 ((2*ex+1)*3) 1):=by unfold hvP;rw[hE]
  rw[List.any_cons,hP]at hany;generalize pwF (p:Int) 40000 ((2*ex+1)*3) 1=pv at*;have g0:getB (H++[some [AV.int IntKind.i64 0,AV.int IntKind.i64 0]]) (List.length H)=some [AV.int IntKind.i64 0,AV.int IntKind.i64 0]:=zba
  have s0:∀x:List AV,List.set (H++[some [AV.int IntKind.i64 0,AV.int IntKind.i64 0]]) (List.length H) (some x)=H++[some x]:=λx=>by
   rw[qL _ _ (qA _),qN];rfl
  have g1:getB (H++[some [AV.int IntKind.i64 (p:Int),AV.int IntKind.i64 (e:Int)]]) (List.length H)=some [.int .i64 (p:Int),.int .i64 (e:Int)]:=zba;simp only[l9_0,r9_6,SS,fC,reduceCtorEq,reduceIte,e33,e34,d1];simp only[r9_7,SS,reduceIte,qV,qQ,e32,e34,qU,hg,hcl];refine⟨⟨by omega,by omega⟩,by omega,?_⟩;rw[g0];simp only[zar,zQ,yB,s0];refine⟨by simp,?_⟩;simp only[r9_8,SS,fC,reduceIte,qV,qQ,qJ,g1,e1,v1];refine zaa tE ?_;simp only[zaf,zac,keys,qZ,qW,SS,reduceCtorEq,reduceIte,qQ,e0,v2,v3,v4];refine zaa tP ?_;simp only[zaf,zac,keys,qZ,qW,SS,reduceIte,qQ];refine⟨rfl,λhpv=>?_,λhpv=>?_⟩
  ·have d9:decide (40000<pv)=true:=decide_eq_true hpv;rw[d9,Bool.true_or]at hany;simp only[r9_9,SS];rw[<-hany];exact dR
  ·have d9:decide (40000<pv)=false:=decide_eq_false hpv;rw[d9,Bool.false_or]at hany;simp only[r9_10,SS,reduceIte,qQ,e34,w9];refine⟨rs.length,_,_,by omega,⟨dn++[(p,e)],rs,by rw[zX];exact el,rfl,hany,?_,?_,?_,?_,?_⟩,.refl⟩
   ·exact e0
   ·exact e1
   ·exact e32
   ·exact e33
   ·simp only[UU,qQ,reduceIte,xU,qP,xK,qH]
end Go.Proofs.YtgfbaioffpcelaaGreatDoor
namespace Go.Proofs.YtgfbaioffpcelaaGreatDoor
open Go Go.AL Go.Det
def zgh(l:List Int)(k:Nat):Int:=l.getD k 0
def zbx(l:List Int)(k:Nat):Nat:=if k<l.length then k+1 else k
def zdt(l:List Int)(k:Nat):Int:=zgh l k%256
def zbu(l:List Int)(k:Nat):Nat->Nat
 |0=>k
 |m+1=>zbx l (zbu l k m)
theorem qvc{l:List Int}{k:Nat}(h:k<=l.length):zbx l k<=l.length:=by unfold zbx;split<;>omega
theorem zic{l:List Int}{k:Nat}(h:k<=l.length):∀m,zbu l k m<=l.length:=by
 intro m
 induction m with
 |zero=>exact h
 |succ m ih=>exact qvc ih
theorem qor(l:List Int)(k a:Nat):∀b,zbu l (zbu l k a) b=zbu l k (a+b):=by
 intro b
 induction b with
 |zero=>rfl
 |succ b ih=>
  show zbx l (zbu l (zbu l k a) b)=zbx l (zbu l k (a+b))
  rw[ih]
def diaM(l:List Int)(k n:Nat)(most:Int):List (List Int):=mkM n λi j=>if i=j then 1+zdt l (zbu l k i)%most else 0
def triK:Nat->Nat
 |0=>0
 |i+1=>triK i+i
def offZ(l:List Int)(k i j:Nat):Int:=Int.tmod (zgh l (zbu l k (triK i+j))) 3
def genM(l:List Int)(k n:Nat):List (List Int):=mkM n λi j=>if i=j then 1+zdt l (zbu l k i)%6 else if j<i then offZ l (zbu l k n) i j else offZ l (zbu l k n) j i
def zcx(n:Nat)(fork:Bool)(i k:Nat):Bool:=if fork=true/\i+1=n/\3<n then k+2 == i else k+1 == i
def zcu(n:Nat)(fork:Bool):List (List Int):=mkM n λi j=>if i=j then 2 else if zcx n fork i j=true\/zcx n fork j i=true then -1 else 0
def qhm(M:List (List Int))(i:Nat)(z:Int):List (List Int):=setM M i i (ent M i i+z)
theorem zgr(l:List Int)(k:Nat){m:Int}(hm:1<=m):0<=zdt l k%m/\zdt l k%m<m:=⟨yA _ (by omega),yC _ (by omega)⟩
theorem zwg(l:List Int)(k i j:Nat): -2<=offZ l k i j/\offZ l k i j<=2:=by
 unfold offZ;have:=zS (zgh l (zbu l k (triK i+j))) (show(0:Int)<3 by decide);have:=zT (zgh l (zbu l k (triK i+j))) (show(0:Int)<3 by decide);omega
structure SmallG(n:Nat)(M:List (List Int)):Prop where
 shp:Shp n M
 sym:∀i j,i<n->j<n->ent M i j=ent M j i
 bnd:∀i j,-16<=ent M i j/\ent M i j<=16
theorem zwh{n:Nat}{f:Nat->Nat->Int}(h1:∀i j,i<n->j<n->f i j=f j i)(h2:∀i j,i<n->j<n-> -16<=f i j/\f i j<=16):SmallG n (mkM n f):=by
 refine⟨zci n f,λi j hi hj=>by rw[zbl hi hj,zbl hj hi];exact h1 i j hi hj,λi j=>?_⟩;by_cases h:i<n/\j<n
 ·rw[zbl h.1 h.2];exact h2 i j h.1 h.2
 ·rw[(zci n f).out (by omega)];omega
theorem zmi{l:List Int}{k n:Nat}{most:Int}(h1:1<=most)(h2:most<=9):SmallG n (diaM l k n most):=by
 refine zwh (λi j _ _=>?_) λi j _ _=>?_
 ·by_cases h:i=j
  ·rw[h]
  ·have h':¬j=i:=λe=>h e.symm
   rw[if_neg h,if_neg h']
 ·have:=zgr l (zbu l k i) h1;split<;>omega
theorem qos{l:List Int}{k n:Nat}:SmallG n (genM l k n):=by
 refine zwh (λi j _ _=>?_) λi j _ _=>?_
 ·by_cases h:i=j
  ·rw[h]
  ·have h':¬j=i:=λe=>h e.symm
   rw[if_neg h,if_neg h'];by_cases h2:j<i
   ·have h3:¬i<j:=by omega
    rw[if_pos h2,if_neg h3]
   ·have h3:i<j:=by omega
    rw[if_neg h2,if_pos h3]
 ·have:=zgr l (zbu l k i) (show(1:Int)<=6 by decide);have:=zwg l (zbu l k n) i j;have:=zwg l (zbu l k n) j i;split
  ·omega
  ·split<;>omega
theorem zrh{n:Nat}{fork:Bool}:SmallG n (zcu n fork):=by
 refine zwh (λi j _ _=>?_) λi j _ _=>?_
 ·by_cases h:i=j
  ·rw[h]
  ·have h':¬j=i:=λe=>h e.symm
   rw[if_neg h,if_neg h'];by_cases h2:zcx n fork i j=true\/zcx n fork j i=true
   ·rw[if_pos h2,if_pos h2.symm]
   ·have h3:¬(zcx n fork j i=true\/zcx n fork i j=true):=λe=>h2 e.symm
    rw[if_neg h2,if_neg h3]
 ·split
  ·omega
  ·split<;>omega
theorem zfx{n i:Nat}{fork:Bool}(hi:i<n):ent (zcu n fork) i i=2:=by
 unfold zcu;rw[zbl hi hi,if_pos rfl]
theorem zth{n i:Nat}{M:List (List Int)}{z:Int}(h:SmallG n M)(hi:i<n)(hd:ent M i i=2)(hz:0<=z/\z<=3):SmallG n (qhm M i z):=by
 unfold qhm;refine⟨h.shp.set hi,λs t hs ht=>?_,λs t=>?_⟩
 ·rw[h.shp.ent_set hi hi,h.shp.ent_set hi hi];by_cases e:s=i/\t=i
  ·rw[if_pos e,if_pos ⟨e.2,e.1⟩]
  ·rw[if_neg e,if_neg (λx=>e ⟨x.2,x.1⟩)];exact h.sym s t hs ht
 ·rw[h.shp.ent_set hi hi];have:=h.bnd s t;split<;>omega
def rawM(l:List Int)(kind n:Nat):List (List Int):=
 if kind<4 then genM l 0 n else if kind=4 then qhm (zcu n false) 0 (zdt l 0%3)else if kind=5 then qhm (zcu n true) (n-1) (zdt l 0%2)else if kind=6 then diaM l 0 n 9 else diaM l 0 n 1
def rawK(l:List Int)(kind n:Nat):Nat:=
 if kind<4 then zbu l 0 (n+triK n)else if kind=4 then zbx l 0 else if kind=5 then zbx l 0 else zbu l 0 n
theorem zyr{l:List Int}{kind n:Nat}(hn:1<=n):SmallG n (rawM l kind n):=by
 unfold rawM;split
 ·exact qos
 split
 ·exact zth zrh (by omega) (zfx (by omega)) (by have:=zgr l 0 (show(1:Int)<=3 by decide);omega)
 split
 ·exact zth zrh (by omega) (zfx (by omega)) (by have:=zgr l 0 (show(1:Int)<=2 by decide);omega)
 split
 ·exact zmi (by decide) (by decide)
 ·exact zmi (by decide) (by decide)
theorem qot{l:List Int}{k n i j:Nat}{most:Int}(hi:i<n)(hj:j<n):ent (diaM l k n most) i j=if i=j then 1+zdt l (zbu l k i)%most else 0:=by
 unfold diaM;rw[zbl hi hj]
end Go.Proofs.YtgfbaioffpcelaaGreatDoor
namespace Go.Proofs.YtgfbaioffpcelaaGreatDoor
open Go Go.AL Go.Proofs Go.Limb
def i8z(l:List Int):List AV:=l.map λz=>AV.int .i8 z
theorem qbx(l:List Int):(i8z l).length=l.length:=by simp[i8z]
theorem qvd(l:List Int)(j:Nat)(h:j<l.length)(d:AV):(i8z l).getD j d= .int .i8 (l.getD j 0):=by simp[i8z,h]
def zdu(l:List Int)(c:Option Nat)(k:Nat):List AV:=[.vec (i8z l) l.length c,.int .i64 (k:Nat)]
def zgf(l:List Int):Prop:=l.length<9223372036854775808/\∀z∈l,-128<=z/\z<128
theorem zys{l:List Int}(h:zgf l)(k:Nat): -128<=zgh l k/\zgh l k<128:=by
 unfold zgh;rw[qK];cases e:l[k]? with
 |none=>simp
 |some z=>exact h.2 z (List.mem_of_getElem? e)
theorem jcv{l:List Int}{c:Option Nat}{k:Nat}(h:zgf l)(hk:k<=l.length):Rt 169 [.ptr 0 0] [some (zdu l c k)] (.int .i64 (zgh l k)) [some (zdu l c (zbx l k))]:=by
 have hl:=h.1;have hz:=zys h k;refine oF o169 ?_;simp only[c169,r169_0,r169_1,SS,fC,reduceCtorEq,reduceIte,qV,qQ,qJ,zdu];refine⟨rfl,λhge=>?_,λhlt=>?_⟩
 ·have e1:zgh l k=0:=by
   unfold zgh;rw[qK,yG (by omega)];rfl
  have e2:zbx l k=k:=by unfold zbx;rw[if_neg (by omega)]
  simp only[r169_2,SS,e1,e2];exact kR
 ·have hkl:k<l.length:=by omega
  have e2:zbx l k=k+1:=by unfold zbx;rw[if_pos hkl]
  have w5:=wS1 k (by omega);have w6:IntKind.i64.wrap (((k+1:Nat):Int)-1)=(k:Int):=wQ (by omega);have w7:IntKind.i64.wrap (zgh l k)=zgh l k:=w64 (by omega) (by omega);have g:(i8z l).getD k .junk= .int .i8 (zgh l k):=qvd l k hkl _;simp only[r169_3,r169_4,SS,fC,reduceCtorEq,reduceIte,qV,qQ,qJ,w5,w6,e2,qU,g,qbx,w7];refine⟨⟨by omega,by omega⟩,by omega,rfl,?_⟩;exact kR
theorem zyt{l:List Int}{c:Option Nat}{k:Nat}{m:Int}(h:zgf l)(hk:k<=l.length)(hm:1<=m/\m<1000000):Rt 80 [.ptr 0 0,.int .i64 m] [some (zdu l c k)] (.int .i64 (zdt l k%m)) [some (zdu l c (zbx l k))]:=by
 have hl:=h.1;have hz:=zys h k;have hb:0<=zdt l k/\zdt l k<256:=by unfold zdt;omega
 have w1:IntKind.u8.wrap (zgh l k)=zdt l k:=by
  show zgh l k%256=_
  rfl
 have w2:IntKind.i64.wrap (zdt l k)=zdt l k:=w64 (by omega) (by omega);have w3:Int.tmod (zdt l k) m=zdt l k%m:=Int.tmod_eq_emod_of_nonneg hb.1
 have w4:IntKind.i64.wrap (zdt l k%m)=zdt l k%m:=by
  have:=yA (zdt l k) (show m≠0 by omega);have:=yC (zdt l k) (show 0<m by omega);exact w64 (by omega) (by omega)
 refine oF o80 ?_;simp only[c80,r80_0,r80_1,SS,reduceCtorEq,reduceIte];refine zcm (id:=0) (jcv h hk) rfl rfl ?_;simp only[zaf,SS,reduceIte,qQ,w1,w2,w3];refine⟨by omega,?_⟩;exact kR
def zij(o n i:Nat):List AV:=(List.range i).map λk=> .sl (o+k+1) 0 n 1 (some n)
def outO(o N n i:Nat):List AV:=zij o n i++List.replicate (N-i) nilV
def bO(o N n:Nat)(rows:List (List Int)):Heap:=some (outO o N n rows.length)::rows.map λr=>some (i64z r)
theorem zfa(o n i:Nat):(zij o n i).length=i:=by simp[zij]
theorem zgs{o N n i:Nat}(h:i<=N):(outO o N n i).length=N:=by simp[outO,zfa];omega
theorem zid{o N n i k:Nat}(h:k<i):(outO o N n i).getD k .junk= .sl (o+k+1) 0 n 1 (some n):=by
 unfold outO zij;rw[qK,xL (by simpa using h),jV,List.getElem?_range h];rfl
theorem qou{o N n i:Nat}(h:i<N):(outO o N n i).set i (.sl (o+i+1) 0 n 1 (some n))=outO o N n (i+1):=by
 unfold outO;have e:List.replicate (N-i) nilV=nilV::List.replicate (N-(i+1)) nilV:=by rw[<-List.replicate_succ];congr 1;omega
 have ez:zij o n (i+1)=zij o n i++[.sl (o+i+1) 0 n 1 (some n)]:=by simp[zij,List.range_succ]
 rw[e,ez,qL _ _ (by rw[zfa];omega),zfa,qN];simp
section
variable{P:Heap}{o N n:Nat}{rows:List (List Int)}
theorem jgw(ho:P.length=o):(P++bO o N n rows).length=o+rows.length+1:=by simp[bO,ho];omega
theorem zfv(ho:P.length=o):getB (P++bO o N n rows) o=some (outO o N n rows.length):=by
 unfold getB;rw[qI (by omega),ho,qN];rfl
theorem zkr(ho:P.length=o){i:Nat}(h:i<rows.length):getB (P++bO o N n rows) (o+i+1)=some (i64z (rows.getD i [])):=by
 unfold getB bO;rw[qI (by omega),ho,show o+i+1-o=i+1 by omega,qB,jV,qK,qE h];rfl
theorem zri(ho:P.length=o){i:Nat}(r:List Int):(P++bO o N n rows).set (o+i+1) (some (i64z r))=P++bO o N n (rows.set i r):=by
 rw[qL _ _ (by omega),ho,show o+i+1-o=i+1 by omega];unfold bO;rw[yB,qM,List.map_set]
theorem qxr(ho:P.length=o)(r:List Int)(h:rows.length<N):(P++bO o N n rows++[some (i64z r)]).set o (some ((outO o N n rows.length).set rows.length (.sl (o+rows.length+1) 0 n 1 (some n))))=P++bO o N n (rows++[r]):=by
 rw[qou h,zX,qL _ _ (by omega),ho,qN];unfold bO;simp
theorem jgx(ho:P.length=o)(hN:rows.length=N)(hn:∀i,i<N->(rows.getD i []).length=n):frzI 0 (P++bO o N n rows) 3 (.sl o 0 N 1 (some N))=some (.vec (zbt n rows) N (some N)):=by
 have e0:outO o N n rows.length=zij o n N:=by
  unfold outO;rw[hN,qN,qZ,qW]
 have key:(zij o n N).mapM (frzI 0 (P++bO o N n rows) 2)=some (zbt n rows):=by
  have:zbt n rows=(List.range N).map λk=>AV.vec (i64z (rows.getD k [])) n (some n):=by
   refine xT (by simp[zbt,hN]) λk h1 h2=>?_
   simp only[zbt,jD,jQ];have hk:k<rows.length:=by simpa[zbt]using h1
   rw[qK,qE hk];rfl
  rw[this];unfold zij;rw[List.mapM_map]
  have:∀l:List Nat,(∀k∈l,k<N)->l.mapM (λk=>frzI 0 (P++bO o N n rows) 2 (.sl (o+k+1) 0 n 1 (some n)))=some (l.map λk=>AV.vec (i64z (rows.getD k [])) n (some n)):=by
   intro l
   induction l with
   |nil=>intro _;rfl
   |cons k l ih=>
    intro h;have hk:=h k (by simp)
    have e:frzI 0 (P++bO o N n rows) 2 (.sl (o+k+1) 0 n 1 (some n))=some (.vec (i64z (rows.getD k [])) n (some n)):=by
     rw[frzI];have hl:=hn k hk;simp only[yZ,if_false,zkr ho (show k<rows.length by omega),need,qH,yR,zbe,hl,qA,if_true,xS];rw[qG (by rw[zbe];omega),zol];rfl
    rw[yE,e,ih (λx hx=>h x (by simp[hx]))];rfl
  exact this _ (λk hk=>List.mem_range.1 hk)
 rw[frzI];simp only[yZ,if_false,zfv ho,e0,need,qH,yR,zfa,qA,if_true,xS];rw[qG (by rw[zfa];omega),key];rfl
end
def tP(l:List Int)(c:Option Nat)(k:Nat):Heap:=[some (zdu l c k)]
theorem zti(l:List Int)(c:Option Nat)(k:Nat):(tP l c k).length=1:=rfl
theorem qxs(l:List Int)(c:Option Nat)(k:Nat)(X:Heap):getB (tP l c k++X) 0=some (zdu l c k):=rfl
theorem qxt(l:List Int)(c:Option Nat)(k k':Nat)(X:Heap):(tP l c k++X).set 0 (some (zdu l c k'))=tP l c k'++X:=rfl
theorem zrj(l:List Int)(k n:Nat)(most:Int):Shp n (diaM l k n most):=zci _ _
theorem jcw{l:List Int}{k n i:Nat}{most:Int}(hi:i<n):(diaM l k n most).getD i []=(List.replicate n 0).set i (1+zdt l (zbu l k i)%most):=by
 have hr:=(zrj l k n most).row i hi;refine xT (by rw[hr];simp) λt h1 h2=>?_
 have ht:t<n:=by omega
 have e:ent (diaM l k n most) i t=if i=t then 1+zdt l (zbu l k i)%most else 0:=by
  unfold diaM;rw[zbl hi ht]
 unfold ent at e;rw[qK,qE h1]at e;rw[zY];simp only[yI]at e;rw[e];by_cases hit:i=t
 ·rw[if_pos hit,if_pos hit]
 ·rw[if_neg hit,if_neg hit];simp
theorem zmj{l:List Int}{c:Option Nat}{k n:Nat}{most:Int}(h:zgf l)(hk:k<=l.length)(hn:1<=n/\n<=8)(hm:1<=most/\most<=9):
  Rt 81 [.ptr 0 0,.int .i64 (n:Nat),.int .i64 most] [some (zdu l c k)] (.sl 1 0 n 1 (some n)) (tP l c (zbu l k n)++bO 1 n n (diaM l k n most)):=by
 have hD:=zrj l k n most;refine oF o81 ?_ (by simp) (by simp only[xU,zti,qP,xK];omega);simp only[c81,r81_0,r81_1,SS,reduceCtorEq,reduceIte,qQ,qU];refine⟨by decide,⟨by omega,by omega,by omega,by omega⟩,?_⟩;simp only[r81_2,SS,reduceIte,qQ]
 refine zaj (λq E H=>∃i,i+q=n/\H=tP l c (zbu l k i)++bO 1 n n ((diaM l k n most).take i)/\E 0= .ptr 0 0/\E 1= .int .i64 (n:Nat)/\E 2= .int .i64 most/\E 7= .sl 1 0 n 1 (some n)/\E 12= .int .i64 (n:Nat)/\E 13= .int .i64 (i:Nat)) (n:=n)
  ⟨0,by omega,rfl,by rfl,by rfl,by rfl,by rfl,by rfl,by rfl⟩ ?_
 rintro q E H ⟨i,hiq,rfl,e0,e1,e2,e7,e12,e13⟩;refine wM ?_;simp only[l81_0,r81_3,SS,reduceCtorEq,reduceIte,e12,e13];refine⟨λhlt=>?_,λhge=>?_⟩
 ·obtain⟨q,rfl⟩:∃q',q=q'+1:=⟨q-1,by omega⟩
  have hi:i<n:=by omega
  have hDl:=hD.len;have htl:((diaM l k n most).take i).length=i:=by rw[xG];omega
  have hki:=zic hk i;have w5:=wS1 i (by omega);have hP:=zti l c (zbu l k i);have hbl:=jgw (N:=n) (n:=n) (rows:=(diaM l k n most).take i) hP;rw[htl]at hbl
  have hgo:getB (tP l c (zbu l k i)++bO 1 n n ((diaM l k n most).take i)++[some (i64z (List.replicate n 0))]) 1=some (outO 1 n n i):=by
   have:getB (tP l c (zbu l k i)++bO 1 n n ((diaM l k n most).take i)) 1=some (outO 1 n n i):=by rw[zfv hP,htl]
   exact this
  have gol:=zgs (o:=1) (N:=n) (n:=n) (i:=i) (by omega);have hnew:=qxr (N:=n) (n:=n) (rows:=(diaM l k n most).take i) hP (List.replicate n 0) (by omega);rw[htl]at hnew;simp only[r81_4,r81_5,SS,reduceIte,qQ,e1,e7,e13,qU,hbl,zkd,hgo,gol];refine⟨by decide,⟨by omega,by omega,by omega,by omega⟩,⟨by omega,by omega⟩,by omega,?_⟩;rw[hnew];have hrl:((diaM l k n most).take i++[List.replicate n 0]).length=i+1:=by simp;omega
  have ko:=zfv (N:=n) (n:=n) (rows:=(diaM l k n most).take i++[List.replicate n 0]) hP;rw[hrl]at ko;have kl:=zgs (o:=1) (N:=n) (n:=n) (i:=i+1) (by omega);have kg:=zid (o:=1) (N:=n) (n:=n) (i:=i+1) (k:=i) (by omega);have hki1:=zic hk (i+1);have tB:=zyt (l:=l) (c:=c) (k:=zbu l k i) (m:=most) h hki (by omega);have hbz:=zgr l (zbu l k i) hm.1;have w6:IntKind.i64.wrap (zdt l (zbu l k i)%most)=zdt l (zbu l k i)%most:=w64 (by omega) (by omega);have w7:IntKind.i64.wrap (1+zdt l (zbu l k i)%most)=1+zdt l (zbu l k i)%most:=w64 (by omega) (by omega);simp only[r81_6,SS,fC,reduceCtorEq,reduceIte,qQ,e0,e2,e7,qU,ko,kl,kg];refine⟨⟨by omega,by omega⟩,by omega,?_⟩;refine zcm (id:=0) tB (qxs _ _ _ _) rfl ?_;have hP':=zti l c (zbu l k (i+1));have hnk:zbx l (zbu l k i)=zbu l k (i+1):=rfl;have gr:=zkr (N:=n) (n:=n) (rows:=(diaM l k n most).take i++[List.replicate n 0]) hP' (i:=i) (by omega)
  have grr:((diaM l k n most).take i++[List.replicate n 0]).getD i []=List.replicate n 0:=by
   rw[qK,qI (by omega),htl,qN];simp
  rw[grr]at gr
  have eset:((diaM l k n most).take i++[List.replicate n 0]).set i ((List.replicate n 0).set i (1+zdt l (zbu l k i)%most))=(diaM l k n most).take (i+1):=by
   rw[qL _ _ (by omega),htl,qN,<-jcw hi];rw[zZ,qK,qE (by omega)];rfl
  simp only[zaf,zac,keys,qZ,qW,SS,reduceIte,qQ,qxt,hnk,w7,gr,zbe,zI,qU,zdi];refine⟨⟨by omega,by omega⟩,by omega,rfl,?_⟩;rw[zri hP',eset];simp only[r81_7,SS,reduceIte,qQ,e13,w5];refine⟨q,_,_,by omega,⟨i+1,by omega,rfl,?_,?_,?_,?_,?_,?_⟩,.refl⟩
  all_goals simp only[UU,qQ,reduceIte, *]
 ·have hin:i=n:=by omega
  subst hin;have htl:(diaM l k i most).take i=diaM l k i most:=qG (by rw[hD.len];omega);rw[htl];simp only[r81_8,SS,reduceIte,qQ,e7];exact kR
end Go.Proofs.YtgfbaioffpcelaaGreatDoor
namespace Go.Proofs.YtgfbaioffpcelaaGreatDoor
open Go Go.AL Go.Det
theorem qer{a:Nat->Row}{n:Nat}(h0:∀i j,i≠j->a i j=0)(h1:∀i,i<n->0<a i i):∀k,k<=n->(∀t,t<=k->0<lead a t)/\∀i j,k<=i->k<=j->stg a k i j=lead a k*a i j:=by
 intro k
 induction k with
 |zero=>
  intro _;refine⟨λt ht=>?_,λi j _ _=>by rw[zda,zat,zJ]⟩;obtain rfl:t=0:=by omega
  rw[zat];decide
 |succ k ih=>
  intro hk;obtain⟨p,q⟩:=ih (by omega);have e:lead a (k+1)=lead a k*a k k:=by rw[zbh,q k k (qA _) (qA _)]
  have pk:=p k (qA _);have pk1:0<lead a (k+1):=by rw[e];exact yN pk (h1 k (by omega))
  refine⟨λt ht=>?_,λi j hi hj=>?_⟩
  ·rcases(by omega:t<=k\/t=k+1)with h | h
   ·exact p t h
   ·rw[h];exact pk1
  ·have r:=zcg (a:=a) (k:=k) (λt ht=>by have:=p t ht;omega) i j;rw[q i j (by omega) (by omega),q i k (by omega) (qA _),q k j (qA _) (by omega),h0 i k (by omega),zA,yQ,Int.sub_zero]at r;have e2:lead a (k+1)*(lead a k*a i j)=lead a k*(lead a (k+1)*a i j):=Int.mul_left_comm _ _ _;rw[e2]at r;exact Int.eq_of_mul_eq_mul_left (by omega) r
theorem qov{a:Nat->Row}{n:Nat}{c:Int}(h0:∀i j,i≠j->a i j=0)(h1:∀i,i<n->0<a i i)(h2:∀i,i<n->a i i<=c)(hc:0<=c):∀k,k<=n->lead a k<=c^k:=by
 intro k
 induction k with
 |zero=>intro _;rw[zat,jY];exact yK _
 |succ k ih=>
  intro hk;obtain⟨p,q⟩:=qer h0 h1 k (by omega);rw[zbh,q k k (qA _) (qA _),yT];exact Int.mul_le_mul (ih (by omega)) (h2 k (by omega)) (by have:=h1 k (by omega);omega) (Int.pow_nonneg hc)
theorem qve{a:Nat->Row}{n:Nat}(hs:∀i j,i<n->j<n->a i j=a j i)(hp:∀k,k<=n->0<lead a k):∃D,Pos n D a:=by
 have:∀m,m<=n->∃D,∀k,k<=m->lead a k<=D:=by
  intro m
  induction m with
  |zero=>intro _;exact⟨lead a 0,λk hk=>by
    have e:k=0:=by omega
    rw[e];exact yK _⟩
  |succ m ih=>
   intro hm;obtain⟨D,h⟩:=ih (by omega);refine⟨max D (lead a (m+1)),λk hk=>?_⟩;rcases(by omega:k<=m\/k=m+1)with h1 | h1
   ·have:=h k h1;omega
   ·rw[h1];omega
 obtain⟨D,h⟩:=this n (qA _);exact⟨D,hs,hp,h⟩
theorem qes{a:Nat->Row}{n:Nat}{c:Int}(hs:∀i j,i<n->j<n->a i j=a j i)(hp:∀k,k<=n->0<lead a k)(hd:∀s,s<n->a s s<=c)(hc:1<=c):Pos n (c^n) a:=by
 obtain⟨D,h⟩:=qve hs hp
 have key:∀k,k<=n->lead a k<=c^k:=by
  intro k
  induction k with
  |zero=>intro _;rw[zat,jY];exact yK _
  |succ k ih=>
   intro hk;have d:=h.down (s:=k) (by omega) k (qA _);rw[<-zbh]at d;have p:=hp k (by omega);have m1:lead a k*a k k<=lead a k*c:=qO (hd k (by omega)) (by omega);have m2:lead a k*c<=c^k*c:=xA (ih (by omega)) (by omega);rw[yT];omega
 refine⟨hs,hp,λk hk=>Int.le_trans (key k hk) ?_⟩;obtain⟨m,rfl⟩:∃m,n=k+m:=⟨n-k,by omega⟩
 clear key h hs hp hd hk D
 induction m with
 |zero=>exact yK _
 |succ m ih=>
  rw[<-zO,yT];have:0<=c^(k+m):=Int.pow_nonneg (by omega);have:=qO hc this;omega
def zkl(n:Nat)(M:List (List Int)):Prop:=(∀k,k<n+1->0<lead (rowF M) k)/\lead (rowF M) n<=10000
instance (n:Nat)(M:List (List Int)):Decidable (zkl n M):=inferInstanceAs (Decidable (_/\_))
def zkm(l:List Int)(kind n:Nat):List (List Int):=if zkl n (rawM l kind n)then rawM l kind n else diaM l (rawK l kind n) n 2
theorem qvf{l:List Int}{k n:Nat}(h8:n<=8):zkl n (diaM l k n 2):=by
 have h0:∀i j,i≠j->rowF (diaM l k n 2) i j=0:=by
  intro i j hij
  show ent (diaM l k n 2) i j=0
  by_cases h:i<n/\j<n
  ·rw[qot h.1 h.2,if_neg hij]
  ·exact(zmi (l:=l) (k:=k) (n:=n) (most:=2) (by decide) (by decide)).shp.out (by omega)
 have hd:∀i,i<n->0<rowF (diaM l k n 2) i i/\rowF (diaM l k n 2) i i<=2:=by
  intro i hi
  show 0<ent (diaM l k n 2) i i/\ent (diaM l k n 2) i i<=2
  rw[qot hi hi,if_pos rfl];have:=zgr l (zbu l k i) (show(1:Int)<=2 by decide);omega
 refine⟨λt ht=>(qer h0 (λi hi=>(hd i hi).1) n (qA _)).1 t (by omega),?_⟩;have:=qov h0 (λi hi=>(hd i hi).1) (λi hi=>(hd i hi).2) (by decide) n (qA _)
 have h2:(2:Int)^n<=2^8:=by
  have:=xW (n:=2) (by decide) h8
  exact_mod_cast this
 have e8:(2:Int)^8=256:=by decide
 omega
theorem qby{l:List Int}{kind n:Nat}(hn:1<=n)(h8:n<=8):SmallG n (zkm l kind n)/\zkl n (zkm l kind n):=by
 unfold zkm;split
 ·rename_i h;exact⟨zyr hn,h⟩
 ·exact⟨zmi (by decide) (by decide),qvf h8⟩
theorem qvg{n:Nat}{M:List (List Int)}(h:SmallG n M)(hg:zkl n M):Pos n (16^n) (rowF M):=
 qes h.sym (λk hk=>hg.1 k (by omega)) (λs _=>(h.bnd s s).2) (by decide)
instance (a:Nat->Row)(i j:Nat):Decidable (SZ a i j):=inferInstanceAs (Decidable (_/\_))
instance (a:Nat->Row)(i:Nat):Decidable (LV a i):=inferInstanceAs (Decidable (_<=_))
theorem qvh{n:Nat}{a:Nat->Row}{i j i' j':Nat}(h:CurA n a i j)(h':CurA n a i' j'):i=i'/\j=j':=by
 have e:i=i':=by
  rcases xV i i' with h1 | h1
  ·exact absurd ((h'.pre i h1).1 j h.hj) h.no
  ·rcases xV i' i with h2 | h2
   ·exact absurd ((h.pre i' h2).1 j' h'.hj) h'.no
   ·omega
 subst e;refine⟨rfl,?_⟩;rcases xV j j' with h1 | h1
 ·exact absurd (h.up j' h1 h'.hj) h'.no
 ·rcases xV j' j with h2 | h2
  ·exact absurd (h'.up j h2 h.hj) h.no
  ·omega
theorem qvi{n:Nat}{a:Nat->Row}{i i':Nat}(h:CurS n a i)(h':CurS n a i'):i=i':=by
 rcases xV i i' with h1 | h1
 ·exact absurd ((h'.pre i h1).2 h.h0) h.no
 ·rcases xV i' i with h2 | h2
  ·exact absurd ((h.pre i' h2).2 h'.h0) h'.no
  ·omega
theorem qxu{n:Nat}{a:Nat->Row}{i j i':Nat}(h:CurA n a i j)(h':CurS n a i'):False:=by
 rcases xV i i' with h1 | h1
 ·exact h.no ((h'.pre i h1).1 j h.hj)
 ·rcases xV i' i with h2 | h2
  ·exact h'.no ((h.pre i' h2).2 h'.h0)
  ·have e:i=i':=by omega
   subst e;exact h.no (h'.up j h.hj)
theorem qow{n:Nat}(a:Nat->Row):(∃i j,CurA n a i j)\/(∃i,CurS n a i)\/∀i,i<n->OKr a i:=by
 have key:∀m,m<=n->(∃i j,CurA n a i j)\/(∃i,CurS n a i)\/∀i,i<m->OKr a i:=by
  intro m
  induction m with
  |zero=>intro _;exact .inr (.inr λi h=>absurd h (by omega))
  |succ m ih=>
   intro hm;rcases ih (by omega)with h | h | h
   ·exact .inl h
   ·exact .inr (.inl h)
   ·have inner:∀c j,j+c=m->(∀l,j<=l->l<m->SZ a m l)->(∃j,CurA n a m j)\/∀l,l<m->SZ a m l:=by
     intro c
     suffices H:∀j,j<=m->(∀l,j<=l->l<m->SZ a m l)->(∃j,CurA n a m j)\/∀l,l<m->SZ a m l by
      intro j hj hl;exact H j (by omega) hl
     intro j
     induction j with
     |zero=>intro _ hl;exact .inr λl hlm=>hl l (xE _) hlm
     |succ j ihj=>
      intro hj hl;by_cases hz:SZ a m j
      ·refine ihj (by omega) λl h1 h2=>?_
       rcases(by omega:l=j\/j+1<=l)with e | e
       ·rw[e];exact hz
       ·exact hl l e h2
      ·exact .inl ⟨j,by omega,by omega,h,λl h1 h2=>hl l (by omega) h2,hz⟩
    rcases inner 0 m rfl (λl h1 h2=>absurd h2 (by omega))with⟨j,hj⟩ | hz
    ·exact .inl ⟨m,j,hj⟩
    ·by_cases h0:0<m
     ·by_cases hl:LV a m
      ·refine .inr (.inr λi hi=>?_);rcases(by omega:i<m\/i=m)with e | e
       ·exact h i e
       ·subst e;exact⟨hz,λ_=>hl⟩
      ·exact .inr (.inl ⟨m,by omega,h0,h,hz,hl⟩)
     ·refine .inr (.inr λi hi=>?_);have e:i=m:=by omega
      subst e;exact⟨hz,λh=>absurd h h0⟩
 exact key n (qA _)
def zjk(n:Nat)(M:List (List Int))(i j:Nat):List (List Int):=addU n i j (-(zhf (stg (rowF M) j i j) (lead (rowF M) (j+1))))
def zkn(n i:Nat):List (List Int):=zec (idM n) i (i-1)
inductive Ends(n:Nat)(M' T':List (List Int)):Nat->List (List Int)->List (List Int)->Prop
 |done {k:Nat}:(∀i,i<n->OKr (rowF M') i)->Ends n M' T' k M' T'
 |add {k i j:Nat} {M T:List (List Int)}:CurA n (rowF M) i j->Ends n M' T' k (cgM n M (zjk n M i j)) (mulM n T (zjk n M i j))->Ends n M' T' (k+1) M T
 |sw {k i:Nat} {M T:List (List Int)}:CurS n (rowF M) i->Ends n M' T' k (cgM n M (zkn n i)) (mulM n T (zkn n i))->Ends n M' T' (k+1) M T
theorem qox{n:Nat}{D K:Int}{M0:List (List Int)}(h8:n<=8)(hK:1<=K)(hKD:8*D<=K):∀(m:Nat) (M T:List (List Int)),LState n D K M0 M T->MuOK n (rowF M) m->∃k M' T',Ends n M' T' k M T/\LState n D K M0 M' T':=by
 intro m
 induction m using Nat.strongRecOn with
 |_ m ih=>
  intro M T hL hm;rcases qow (n:=n) (rowF M)with⟨i,j,hc⟩ | ⟨i,hc⟩ | h
  ·obtain⟨hL',hmu⟩:=hL.add h8 hK hKD hc;obtain⟨m',hlt,hm'⟩:=hmu m hm;obtain⟨k,M',T',he,hl⟩:=ih m' hlt _ _ hL' hm';exact⟨k+1,M',T',.add hc he,hl⟩
  ·obtain⟨p,rfl⟩:∃p,i=p+1:=⟨i-1,by have:=hc.h0;omega⟩
   obtain⟨hL',hmu⟩:=hL.sw h8 hK hc;obtain⟨m',hlt,hm'⟩:=hmu m hm;obtain⟨k,M',T',he,hl⟩:=ih m' hlt _ _ hL' hm';exact⟨k+1,M',T',.sw hc he,hl⟩
  ·exact⟨0,M,T,.done h,hL⟩
theorem qoy{n k:Nat}{D K:Int}{M0 M' T' M T:List (List Int)}(h8:n<=8)(hK:1<=K)(hKD:8*D<=K)(hL:LState n D K M0 M T)(h:Ends n M' T' k M T):
  ((∀i,i<n->OKr (rowF M) i)/\M=M'/\T=T')\/(∃k' i j,k=k'+1/\CurA n (rowF M) i j/\LState n D K M0 (cgM n M (zjk n M i j)) (mulM n T (zjk n M i j))/\Ends n M' T' k' (cgM n M (zjk n M i j)) (mulM n T (zjk n M i j)))\/
   ∃k' i,k=k'+1/\CurS n (rowF M) i/\LState n D K M0 (cgM n M (zkn n i)) (mulM n T (zkn n i))/\Ends n M' T' k' (cgM n M (zkn n i)) (mulM n T (zkn n i)):=by
 cases h with
 |done h=>exact .inl ⟨h,rfl,rfl⟩
 |add hc he=>
  rename_i k' i j;exact .inr (.inl ⟨k',i,j,rfl,hc,(hL.add h8 hK hKD hc).1,he⟩)
 |sw hc he=>
  rename_i k' i;obtain⟨p,rfl⟩:∃p,i=p+1:=⟨i-1,by have:=hc.h0;omega⟩
  exact .inr (.inr ⟨k',p+1,rfl,hc,(hL.sw h8 hK hc).1,he⟩)
theorem qvj{n:Nat}{D K:Int}{M0 M' T':List (List Int)}(h8:n<=8)(hK:1<=K)(hKD:8*D<=K):∀{k:Nat} {M T:List (List Int)},Ends n M' T' k M T->LState n D K M0 M T->lead (rowF M') n=lead (rowF M) n:=by
 intro k M T h
 induction h with
 |done h=>intro _;rfl
 |add hc he ih=>
  rename_i k i j M T;intro hL;have hi:=hc.hi;have hj:=hc.hj;rw[ih (hL.add h8 hK hKD hc).1];have e:=qxe (c:= -(zhf (stg (rowF M) j i j) (lead (rowF M) (j+1)))) hL.shM (show i≠j by omega) hi (show j<n by omega);unfold zjk;rw[e];exact zma hj hi (hL.pos.ne (qA _)) (qA _)
 |sw hc he ih=>
  rename_i k i M T;intro hL;obtain⟨p,rfl⟩:∃p,i=p+1:=⟨i-1,by have:=hc.h0;omega⟩
  have hi:=hc.hi;rw[ih (hL.sw h8 hK hc).1];have e:=jgd hL.shM hi;obtain⟨_,_,g,_⟩:=qbh hL.pos hK hc hL.good;simp only[jX]at g
  show lead (rowF (cgM n M (zec (idM n) (p+1) p))) n=_
  rw[e];exact g n (qA _) (by omega)
theorem zwi{c:Int}(hc:1<=c):∀k:Nat,1<=c^k
 |0=>by rw[jY];decide
 |k+1=>by
  rw[yT];have:=Int.mul_le_mul (zwi hc k) hc (by decide) (by have:=zwi hc k;omega);omega
theorem qoz{c:Int}(hc:1<=c){n:Nat}(h:1<=n):c<=c^n:=by
 obtain⟨m,rfl⟩:∃m,n=m+1:=⟨n-1,by omega⟩
 rw[yT];have:=xA (zwi hc m) (show 0<=c by omega);omega
theorem jcx{n:Nat}{c:Int}{M0:List (List Int)}(h1:1<=n)(h8:n<=8)(hc:1<=c)(hS:Shp n M0)(hp:Pos n (c^n) (rowF M0))(ha:∀s,s<n->ent M0 s s<=c)(hd:lead (rowF M0) n<=10000):
  ∃k M' T',Ends n M' T' k M0 (idM n)/\LState n (c^n) (8*c^n) M0 M0 (idM n)/\LState n (c^n) (8*c^n) M0 M' T'/\Red n (rowF M')/\lead (rowF M') n=lead (rowF M0) n:=by
 have hcc:=qoz hc h1;have h1c:=zwi hc n;have hst:LState n (c^n) (8*c^n) M0 M0 (idM n):=LState.start hS hp (by omega) λs hs=>by have:=ha s hs;omega
 obtain⟨k,M',T',he,hl⟩:=qox h8 (by omega) (yK _) _ _ _ hst (qed h8);have hdet:=qvj h8 (by omega) (yK _) he hst
 have hok:∀i,i<n->OKr (rowF M') i:=by
  clear hdet hl hst hp hd ha hS;generalize idM n=T at he
  induction he with
  |done h=>exact h
  |add _ _ ih=>exact ih
  |sw _ _ ih=>exact ih
 exact⟨k,M',T',he,hst,hl,⟨h1,h8,hl.pos.sym,λk hk=>hl.pos.pos (k+1) (by omega),by rw[hdet];exact hd,λi j hi hj=>(hok i hi).1 j hj,λi h0 hi=>(hok i hi).2 h0⟩,hdet⟩
end Go.Proofs.YtgfbaioffpcelaaGreatDoor
namespace Go.GE
open Go.Det (Row sumR zah zdy zjy)
open Go.Count (allV zqx sumN ent gx nrm)
theorem add_sum(f g:Nat->Int):∀n,sumR (λi=>f i+g i) n=sumR f n+sumR g n
 |0=>rfl
 |n+1=>by simp only[sumR,add_sum f g n];omega
theorem mul_sum(c:Int)(f:Nat->Int):∀n,sumR (λi=>c*f i) n=c*sumR f n
 |0=>by simp[sumR]
 |n+1=>by simp only[sumR,mul_sum c f n,Int.mul_add]
theorem sum_mul(c:Int)(f:Nat->Int)(n:Nat):sumR (λi=>f i*c) n=sumR f n*c:=by
 rw[jU,<-mul_sum];exact zah λi _=>jU _ _
theorem zie(f:Nat->Nat->Int)(m:Nat):∀n,sumR (λi=>sumR (f i) m) n=sumR (λj=>sumR (λi=>f i j) n) m
 |0=>by simp only[sumR];exact(zdy λ_ _=>rfl).symm
 |n+1=>by simp only[sumR,zie f m n,<-add_sum]
theorem zgw{g:Nat->Int}{i:Nat}:∀{n},i<n->(∀j,j<n->j≠i->g j=0)->sumR g n=g i
 |n+1,hi,e=>by
  simp only[sumR];by_cases h:i=n
  ·subst h;rw[zdy λj hj=>e j (by omega) (by omega),Int.zero_add]
  ·rw[zgw (n:=n) (by omega) λj hj hne=>e j (by omega) hne,e n (by omega) (λh2=>h h2.symm),Int.add_zero]
theorem qpa(f:Nat->Int):∀m,sumR (λi=>f (m-1-i)) m=sumR f m
 |0=>rfl
 |m+1=>by
  rw[zjy,zah (h:=λi=>f (m-1-i)) λi hi=>by rw[show m+1-1-(i+1)=m-1-i by omega],qpa f m];simp only[sumR,jX,Nat.sub_zero];omega
def Per(m:Nat)(φ:Int->Int):Prop:= ∀x y,(m:Int)∣x-y->φ x=φ y
def SR(m:Nat)(φ:Int->Int):Int:=sumR (λu=>φ (u:Int)) m
theorem qxv{m:Nat}{φ:Int->Int}(h:Per m φ):SR m (λu=>φ (u+1))=SR m φ:=by
 have e:=zjy (λu=>φ (u:Int)) m;have e2:sumR (λu=>φ (u:Int)) (m+1)=sumR (λu=>φ (u:Int)) m+φ (m:Int):=rfl;have e3:φ (m:Int)=φ ((0:Nat):Int):=h _ _ ⟨1,by omega⟩;have e4:sumR (λi=>φ ((i+1:Nat):Int)) m=SR m λu=>φ (u+1):=zah λi _=>by rw[yX];rfl
 have e5:SR m φ=sumR (λu=>φ (u:Int)) m:=rfl;rw[e2,e3,e4]at e;omega
theorem qxw{m:Nat}{φ:Int->Int}(h:Per m φ):∀s:Nat,SR m (λu=>φ (u+s))=SR m φ
 |0=>by simp
 |s+1=>by
  rw[<-qxw h s,<-qxv (φ:=λu=>φ (u+s)) λx y hd=>h _ _ (by rwa[show x+s-(y+s)=x-y by omega])];congr 1;funext u;congr 1;omega
theorem qxx{m:Nat}(hm:0<m){φ:Int->Int}(h:Per m φ)(s:Int):SR m (λu=>φ (u+s))=SR m φ:=by
 have h0:0<=s%(m:Int):=yA _ (by omega);rw[<-qxw h (s%(m:Int)).toNat];congr 1;funext u;refine h _ _ ⟨s/(m:Int),?_⟩;have:=Int.mul_ediv_add_emod s (m:Int);omega
theorem jgy{m:Nat}{φ:Int->Int}(h:Per m φ):SR m (λu=>φ (-u))=SR m φ:=by
 have e:=qpa (λu=>φ (-(u:Int))) m
 show sumR (λu=>φ (-(u:Int))) m=_
 rw[<-e,<-qxv h];refine zah λi hi=>h _ _ ⟨-1,?_⟩
 omega
def cons(a:Int)(x:Nat->Int):Nat->Int
 |0=>a
 |i+1=>x i
def SX(m:Nat):Nat->((Nat->Int)->Int)->Int
 |0,G=>G λ_=>0
 |n+1,G=>SX m n λx=>SR m λu=>G (cons u x)
theorem zwj(p q:Nat):∀n (F:(Nat->Int)->Int->Int),SX p n (λx=>SR q λu=>F x u)=SR q λu=>SX p n λx=>F x u
 |0,F=>rfl
 |n+1,F=>by
  show SX p n (λx=>SR p λw=>SR q λu=>F (cons w x) u)=_
  rw[funext λx=>show(SR p λw=>SR q λu=>F (cons w x) u)=SR q λu=>SR p λw=>F (cons w x) u from zie _ _ _,zwj p q n];rfl
def PerN(m n:Nat)(G:(Nat->Int)->Int):Prop:= ∀x y,(∀i,i<n->(m:Int)∣x i-y i)->G x=G y
theorem PerN.cons{m n:Nat}{G:(Nat->Int)->Int}(h:PerN m (n+1) G)(u:Int):PerN m n λx=>G (cons u x):=λx y e=>h _ _ λi hi=>by
 cases i with
 |zero=>exact⟨0,by show u-u=_;omega⟩
 |succ i=>exact e i (by omega)
theorem PerN.head{m n:Nat}{G:(Nat->Int)->Int}(h:PerN m (n+1) G)(x:Nat->Int):Per m λu=>G (GE.cons u x):=λa b e=>h _ _ λi hi=>by
 cases i with
 |zero=>exact e
 |succ i=>exact⟨0,by show x i-x i=_;omega⟩
theorem PerN.sr{m n:Nat}{G:(Nat->Int)->Int}(h:PerN m (n+1) G):PerN m n λx=>SR m λu=>G (GE.cons u x):=λx y e=>by
 show SR m _=SR m _
 congr 1;funext u;exact h.cons u x y e
theorem jgz{m:Nat}(hm:0<m)(s:Int):∀(n j:Nat),j<n->∀G,PerN m n G->SX m n (λx=>G λk=>x k+if k=j then s else 0)=SX m n G
 |n+1,0,_,G,hG=>by
  show SX m n (λx=>SR m λu=>G λk=>cons u x k+if k=0 then s else 0)=SX m n λx=>SR m λu=>G (cons u x)
  congr 1;funext x;rw[<-qxx hm (hG.head x) s];congr 1;funext u;congr 1;funext i;cases i<;>simp[cons]
 |n+1,j+1,hj,G,hG=>by
  show SX m n (λx=>SR m λu=>G λk=>cons u x k+if k=j+1 then s else 0)=SX m n λx=>SR m λu=>G (cons u x)
  rw[<-jgz hm s n j (by omega) _ hG.sr];congr 1;funext x;congr 1;funext u;congr 1;funext i;cases i<;>simp[cons]
theorem zyu{m:Nat}(hm:0<m)(c:Int):∀(n i j:Nat),i<n->j<n->i≠j->∀G,PerN m n G->SX m n (λx=>G λk=>x k+if k=j then c*x i else 0)=SX m n G
 |n+1,0,0,_,_,h,_,_=>absurd rfl h
 |n+1,0,j+1,_,hj,_,G,hG=>by
  show SX m n (λx=>SR m λu=>G λk=>cons u x k+if k=j+1 then c*u else 0)=SX m n λx=>SR m λu=>G (cons u x)
  rw[zwj,zwj];congr 1;funext u;rw[<-jgz hm (c*u) n j (by omega) _ (hG.cons u)];congr 1;funext x;congr 1;funext i;cases i<;>simp[cons]
 |n+1,i+1,0,hi,_,_,G,hG=>by
  show SX m n (λx=>SR m λu=>G λk=>cons u x k+if k=0 then c*x i else 0)=SX m n λx=>SR m λu=>G (cons u x)
  congr 1;funext x;rw[<-qxx hm (hG.head x) (c*x i)];congr 1;funext u;congr 1;funext i;cases i<;>simp[cons]
 |n+1,i+1,j+1,hi,hj,h,G,hG=>by
  show SX m n (λx=>SR m λu=>G λk=>cons u x k+if k=j+1 then c*x i else 0)=SX m n λx=>SR m λu=>G (cons u x)
  rw[<-zyu hm c n i j (by omega) (by omega) (by omega) _ hG.sr];congr 1;funext x;congr 1;funext u;congr 1;funext i;cases i<;>simp[cons]
theorem qpb{m:Nat}:∀(n j:Nat),j<n->∀G,PerN m n G->SX m n (λx=>G λk=>if k=j then -x k else x k)=SX m n G
 |n+1,0,_,G,hG=>by
  show SX m n (λx=>SR m λu=>G λk=>if k=0 then -cons u x k else cons u x k)=SX m n λx=>SR m λu=>G (cons u x)
  congr 1;funext x;rw[<-jgy (hG.head x)];congr 1;funext u;congr 1;funext i;cases i<;>simp[cons]
 |n+1,j+1,hj,G,hG=>by
  show SX m n (λx=>SR m λu=>G λk=>if k=j+1 then -cons u x k else cons u x k)=SX m n λx=>SR m λu=>G (cons u x)
  rw[<-qpb n j (by omega) _ hG.sr];congr 1;funext x;congr 1;funext u;congr 1;funext i;cases i<;>simp[cons]
def ap(n:Nat)(T:Nat->Nat->Int)(x:Nat->Int):Nat->Int:=λi=>sumR (λj=>T i j*x j) n
def Um(m n:Nat)(T:Nat->Nat->Int):Prop:= ∀G,PerN m n G->SX m n (λx=>G (ap n T x))=SX m n G
theorem zrk{m:Nat}{f g:Nat->Int}:∀{n},(∀i,i<n->(m:Int)∣f i-g i)->(m:Int)∣sumR f n-sumR g n
 |0,_=>⟨0,by simp[sumR]⟩
 |n+1,h=>by
  have:=zK (zrk (n:=n) λi hi=>h i (by omega)) (h n (by omega));simp only[sumR]
  rwa[show sumR f n-sumR g n+(f n-g n)=sumR f n+f n-(sumR g n+g n) by omega]at this
theorem qxy{m n:Nat}(T:Nat->Nat->Int){x y:Nat->Int}(h:∀i,i<n->(m:Int)∣x i-y i)(i:Nat):(m:Int)∣ap n T x i-ap n T y i:=
 zrk λj hj=>by rw[<-Int.mul_sub];exact yU (h j hj)
theorem jha{m n:Nat}(T:Nat->Nat->Int){G:(Nat->Int)->Int}(h:PerN m n G):PerN m n λx=>G (ap n T x):=λx y e=>h _ _ λi _=>qxy T e i
theorem ztj{m n:Nat}{G:(Nat->Int)->Int}(h:PerN m n G){x y:Nat->Int}(e:∀i,i<n->x i=y i):G x=G y:=h _ _ λi hi=>⟨0,by rw[e i hi];omega⟩
theorem jhb{n:Nat}{A B C:Nat->Nat->Int}(h:∀i j,i<n->j<n->C i j=sumR (λk=>A i k*B k j) n)(x:Nat->Int){i:Nat}(hi:i<n):ap n C x i=ap n A (ap n B x) i:=by
 unfold ap
 rw[zah (h:=λj=>sumR (λk=>A i k*(B k j*x j)) n) λj hj=>by
  rw[h i j hi hj,<-sum_mul];exact zah λk _=>yM _ _ _]
 rw[zie];exact zah λk _=>mul_sum _ _ _
theorem Um.mul{m n:Nat}{A B C:Nat->Nat->Int}(hA:Um m n A)(hB:Um m n B)(h:∀i j,i<n->j<n->C i j=sumR (λk=>A i k*B k j) n):Um m n C:=λG hG=>by
 rw[<-hA G hG,<-hB _ (jha A hG)];congr 1;funext x;exact ztj hG λi hi=>jhb h x hi
theorem Um.congr{m n:Nat}{A B:Nat->Nat->Int}(hA:Um m n A)(h:∀i j,i<n->j<n->B i j=A i j):Um m n B:=λG hG=>by
 rw[<-hA G hG];congr 1;funext x;exact ztj hG λi hi=>zah λj hj=>by rw[h i j hi hj]
theorem jhc{m n:Nat}:Um m n λi j=>if i=j then 1 else 0:=λG hG=>by
 congr 1;funext x;refine ztj hG λi hi=>?_
 show sumR (λj=>(if i=j then(1:Int)else 0)*x j) n=x i
 rw[zgw hi λj _ hne=>by rw[if_neg (λe=>hne e.symm),yQ],if_pos rfl,zJ]
theorem qxz{m n i j:Nat}(hm:0<m)(c:Int)(hi:i<n)(hj:j<n)(h:i≠j):Um m n λk l=>(if k=l then 1 else 0)+if k=j/\l=i then c else 0:=λG hG=>by
 rw[<-zyu hm c n i j hi hj h G hG];congr 1;funext x;refine ztj hG λk hk=>?_
 unfold ap
 rw[zah (h:=λl=>(if k=l then 1 else 0)*x l+(if k=j/\l=i then c else 0)*x l) λl _=>jE _ _ _,add_sum,
  zgw hk λl _ hne=>by rw[if_neg (λe=>hne e.symm),yQ],if_pos rfl,zJ]
 congr 1;by_cases hkj:k=j
 ·rw[if_pos hkj,zgw hi λl _ hne=>by rw[if_neg (λe=>hne e.2),yQ],if_pos ⟨hkj,rfl⟩]
 ·rw[if_neg hkj,zdy λl _=>by rw[if_neg (λe=>hkj e.1),yQ]]
theorem jhd{m n j:Nat}(hj:j<n):Um m n λk l=>if k=l then(if k=j then -1 else 1)else 0:=λG hG=>by
 rw[<-qpb n j hj G hG];congr 1;funext x;refine ztj hG λk hk=>?_
 show sumR (λl=>(if k=l then(if k=j then(-1:Int)else 1)else 0)*x l) n=if k=j then -x k else x k
 rw[zgw hk λl _ hne=>by rw[if_neg (λe=>hne e.symm),yQ],if_pos rfl];split<;>omega
def qf(a:Nat->Row)(n:Nat)(x:Nat->Int):Int:=sumR (λi=>sumR (λj=>a i j*x j) n*x i) n
def NS(m:Nat)(a:Nat->Row)(n:Nat)(t:Int):Int:=SX m n λx=>if(m:Int)∣qf a n x-t then 1 else 0
theorem jhe{m n:Nat}(a:Nat->Row)(t:Int):PerN m n λx=>if(m:Int)∣qf a n x-t then 1 else 0:=λx y h=>by
 have h2:(m:Int)∣qf a n x-qf a n y:=zrk λi hi=>by
  have e1:(m:Int)∣sumR (λj=>a i j*x j) n-sumR (λj=>a i j*y j) n:=qxy a h i;have e2:=h i hi;rw[show sumR (λj=>a i j*x j) n*x i-sumR (λj=>a i j*y j) n*y i=(sumR (λj=>a i j*x j) n-sumR (λj=>a i j*y j) n)*x i+sumR (λj=>a i j*y j) n*(x i-y i) by grind];exact zK (yD e1) (yU e2)
 have:(m:Int)∣qf a n x-t↔(m:Int)∣qf a n y-t:=by
  constructor
  ·intro h3;have:=Int.dvd_sub h3 h2
   rwa[show qf a n x-t-(qf a n x-qf a n y)=qf a n y-t by omega]at this
  ·intro h3;have:=zK h3 h2
   rwa[show qf a n y-t+(qf a n x-qf a n y)=qf a n x-t by omega]at this
 simp only[this]
theorem jjm{n:Nat}{a b:Nat->Row}{T:Nat->Nat->Int}(h:∀s t,s<n->t<n->b s t=sumR (λx=>sumR (λy=>a x y*T y t) n*T x s) n)(x:Nat->Int):qf b n x=qf a n (ap n T x):=by
 have e1:∀s,s<n->sumR (λt=>b s t*x t) n=sumR (λu=>sumR (λy=>a u y*ap n T x y) n*T u s) n:=λs hs=>by
  rw[zah (h:=λt=>sumR (λu=>sumR (λy=>a u y*T y t) n*T u s*x t) n) λt ht=>by rw[h s t hs ht,sum_mul],zie];refine zah λu _=>?_
  rw[zah (h:=λt=>sumR (λy=>a u y*T y t) n*x t*T u s) λt _=>by rw[yM,jU (T u s),<-yM],sum_mul];congr 1;rw[zah (h:=λt=>sumR (λy=>a u y*T y t*x t) n) λt _=>(sum_mul _ _ _).symm,zie];refine zah λy _=>?_
  unfold ap;rw[<-mul_sum];exact zah λt _=>yM _ _ _
 unfold qf;rw[zah (h:=λs=>sumR (λu=>sumR (λy=>a u y*ap n T x y) n*T u s*x s) n) λs hs=>by rw[e1 s hs,sum_mul],zie];refine zah λu _=>?_
 rw[zah (h:=λs=>sumR (λy=>a u y*ap n T x y) n*(T u s*x s)) λs _=>yM _ _ _,mul_sum];rfl
theorem jhf{m n:Nat}{a b:Nat->Row}{T:Nat->Nat->Int}(hT:Um m n T)(h:∀s t,s<n->t<n->b s t=sumR (λx=>sumR (λy=>a x y*T y t) n*T x s) n)(t:Int):NS m b n t=NS m a n t:=by
 unfold NS;rw[<-hT _ (jhe a t)];congr 1;funext x;rw[jjm h x]
theorem zom(f:Nat->Nat):∀m,((sumN f m:Nat):Int)=sumR (λi=>(f i:Int)) m
 |0=>rfl
 |m+1=>by simp only[sumN,sumR,yX,zom f m]
theorem qet(p:Nat):∀(n:Nat) (Q:List Nat->Bool) (G:(Nat->Int)->Int),(∀y,(if Q y=true then(1:Int)else 0)=G λi=>(y.getD i 0:Nat))->(((allV p n).countP Q:Nat):Int)=SX p n G
 |0,Q,G,h=>by
  have:=h [];show(([[]].countP Q:Nat):Int)=G λ_=>0
  simp only[List.getD_nil,jC]at this;rw[<-this,List.countP_cons,List.countP_nil];split<;>rfl
 |n+1,Q,G,h=>by
  show(((List.flatMap _ _).countP Q:Nat):Int)=_
  rw[zqx,zom]
  show _=SX p n λx=>SR p λu=>G (cons u x)
  rw[zwj];refine zah λu _=>?_
  refine qet p n _ (λx=>G (cons (u:Int) x)) λy=>?_
  rw[h (u::y)];congr 1;funext i;cases i<;>rfl
theorem jcy{p t x:Nat}(ht:t<p):x%p=t↔(p:Int)∣(x:Int)-t:=by
 constructor
 ·intro h;rw[<-h]
  exact⟨((x/p:Nat):Int),by
   have:=zE x p;have e:((p*(x/p)+x%p:Nat):Int)=(x:Int):=by rw[this]
   rw[yX,xJ]at e;omega⟩
 ·rintro⟨q,hq⟩;have e:(x:Int)=t+p*q:=by omega
  have:=congrArg (· % (p:Int)) e;simp only[Int.add_mul_emod_self_left]at this;rw[Int.emod_eq_of_lt (a:=(t:Int)) (by omega) (by omega)]at this;omega
theorem count_NS{p n t:Nat}{g:List (List Nat)}{a:Nat->Row}(ht:t<p)(hg:∀i j,i<n->j<n->(p:Int)∣(ent g i j:Int)-a j i):(((allV p n).countP λy=>decide (nrm g n y%p=t):Nat):Int)=NS p a n t:=by
 refine qet p n _ _ λy=>?_
 have e:((nrm g n y:Nat):Int)=qf (λi j=>(ent g j i:Int)) n λi=>(y.getD i 0:Nat):=by
  unfold nrm gx qf;rw[zom];refine zah λi _=>?_
  rw[xJ,zom];congr 1
 have h2:(p:Int)∣qf (λi j=>(ent g j i:Int)) n (λi=>(y.getD i 0:Nat))-qf a n λi=>(y.getD i 0:Nat):=by
  unfold qf;refine zrk λi hi=>?_
  rw[<-Int.sub_mul];refine yD (zrk λj hj=>?_);rw[<-Int.sub_mul];exact yD (hg j i hj hi)
 rw[<-e]at h2
 have:nrm g n y%p=t↔(p:Int)∣qf a n (λi=>(y.getD i 0:Nat))-(t:Int):=by
  rw[jcy ht];constructor
  ·intro h;have:=Int.dvd_sub h h2
   rwa[show(nrm g n y:Int)-t-((nrm g n y:Int)-qf a n λi=>(y.getD i 0:Nat))=(qf a n λi=>(y.getD i 0:Nat))-t by omega]at this
  ·intro h;have:=zK h h2
   rwa[show(qf a n λi=>(y.getD i 0:Nat))-t+((nrm g n y:Int)-qf a n λi=>(y.getD i 0:Nat))=(nrm g n y:Int)-t by omega]at this
 simp only[decide_eq_true_eq,this]
end Go.GE
namespace Go.Proofs.YtgfbaioffpcelaaGreatDoor
open Go Go.AL Go.Det Go.GE
theorem jcz{m n i j:Nat}(hm:0<m)(hi:i<n)(hj:j<n)(h:i≠j){G:(Nat->Int)->Int}(hG:PerN m n G):SX m n (λx=>G λk=>x (if k=i then j else if k=j then i else k))=SX m n G:=by
 have p4:PerN m n λx=>G λk=>if k=i then -x k else x k:=λx y e=>hG _ _ λk hk=>by
  have:=e k hk;show(m:Int)∣(if k=i then -x k else x k)-(if k=i then -y k else y k)
  split
  ·have:=Int.dvd_neg.2 this
   rwa[show -(x k-y k)= -x k - -y k by omega]at this
  ·exact this
 have pa:∀{F:(Nat->Int)->Int} (c:Int) (a b:Nat),a<n->PerN m n F->PerN m n λx=>F λk=>x k+if k=b then c*x a else 0:=λc a b ha hF x y e=>hF _ _ λk hk=>by
  show(m:Int)∣(x k+if k=b then c*x a else 0)-(y k+if k=b then c*y a else 0)
  split
  ·have:=zK (e k hk) (yU (b:=c) (e a ha))
   rwa[show x k-y k+c*(x a-y a)=x k+c*x a-(y k+c*y a) by grind]at this
  ·have:=e k hk
   rwa[show x k+0-(y k+0)=x k-y k by omega]
 have p3:=pa 1 i j hi p4;have p2:=pa (-1) j i hj p3;rw[<-qpb n i hi G hG,<-zyu hm 1 n i j hi hj h _ p4,<-zyu hm (-1) n j i hj hi (λe=>h e.symm) _ p3,<-zyu hm 1 n i j hi hj h _ p2];congr 1;funext x;congr 1;funext k;by_cases k1:k=i
 ·subst k1;simp[h];omega
 ·by_cases k2:k=j
  ·subst k2;simp[k1,λe:i=k=>k1 e.symm];omega
  ·simp[k1,k2]
theorem qpc{m n i j:Nat}(hm:0<m)(hi:i<n)(hj:j<n)(h:i≠j):Um m n λk l=>if(if k=i then j else if k=j then i else k)=l then 1 else 0:=λG hG=>by
 rw[<-jcz hm hi hj h hG];congr 1;funext x;refine ztj hG λk hk=>?_
 have hk':(if k=i then j else if k=j then i else k)<n:=by split<;>(try split)<;>omega
 show sumR (λl=>(if(if k=i then j else if k=j then i else k)=l then(1:Int)else 0)*x l) n=x (if k=i then j else if k=j then i else k)
 generalize (if k=i then j else if k=j then i else k)=k' at*;rw[zgw hk' λl _ hne=>by rw[if_neg (λe=>hne e.symm),yQ],if_pos rfl,zJ]
theorem zyv{n i j:Nat}(hi:i<n)(hj:j<n):ent (idM n) i j=if i=j then 1 else 0:=zbl hi hj
theorem jda{m n i j:Nat}(hm:0<m)(c:Int)(hi:i<n)(hj:j<n)(h:i≠j):Um m n λk l=>ent (addU n i j c) k l:=(qxz hm c hi hj h).congr λk l hk hl=>by
 unfold addU;rw[(zet n).ent_set hj hi,zyv hk hl];by_cases e:k=j/\l=i
 ·obtain⟨rfl,rfl⟩:=e;rw[if_pos ⟨rfl,rfl⟩,if_neg (λe=>h e.symm),if_pos ⟨rfl,rfl⟩];omega
 ·rw[if_neg e,if_neg e];omega
theorem qvk{m n i:Nat}(hm:0<m)(hi:i<n)(h0:0<i):Um m n λk l=>ent (zkn n i) k l:=(qpc (i:=i-1) (j:=i) hm (by omega) hi (by omega)).congr λk l hk hl=>by
 unfold zkn;rw[(zjz (zet n) hi (by omega)).2,zyv (by split<;>(try split)<;>omega) hl]
theorem jdb{m n:Nat}(hm:0<m){M' T':List (List Int)}:∀{k:Nat} {M T:List (List Int)},Ends n M' T' k M T->Um m n (λi j=>ent T i j)->Um m n λi j=>ent T' i j:=by
 intro k M T h
 induction h with
 |done _=>exact id
 |add hc _ ih=>exact λhT=>ih (hT.mul (jda hm _ hc.hi (jA hc.hj hc.hi) (by have:=hc.hj;omega)) λi j hi hj=>zbl hi hj)
 |sw hc _ ih=>exact λhT=>ih (hT.mul (qvk hm hc.hi hc.h0) λi j hi hj=>zbl hi hj)
theorem qpd{m n k:Nat}(hm:0<m){D K:Int}{M0 M' T':List (List Int)}(h:Ends n M' T' k M0 (idM n))(hL:LState n D K M0 M' T')(t:Int):NS m (rowF M') n t=NS m (rowF M0) n t:=
 jhf (jdb hm h (jhc.congr λ_ _ hi hj=>zyv hi hj)) (λs t hs ht=>hL.rel s t hs ht) t
theorem zlc(a:Nat->Row):lead a 1=a 0 0:=by rw[zbh,zda]
theorem zik(a:Nat->Row):lead a 2=a 0 0*a 1 1-a 1 0*a 0 1:=by
 have h:=zcg (a:=a) (k:=0) (λi hi=>by rw[show i=0 by omega,zat];decide) 1 1;rw[zat,zda,zda,zda,zlc,zJ]at h;rw[zbh,h]
theorem qbz(a:Nat->Row):lead a 3=a 0 0*(a 1 1*a 2 2-a 1 2*a 2 1)-a 0 1*(a 1 0*a 2 2-a 1 2*a 2 0)+a 0 2*(a 1 0*a 2 1-a 1 1*a 2 0):=by
 show det [2,1,0] [a 0,a 1,a 2]=_
 simp[det,zco,sg];grind
theorem zkf{p x q:Int}(c:Int)(hp:0<p)(hq:0<q)(h:0<p*q-x*x):0<p+2*c*x+c*c*q:=by
 have e:p*(p+2*c*x+c*c*q)=(p+c*x)*(p+c*x)+c*c*(p*q-x*x):=by grind
 have h1:0<=(p+c*x)*(p+c*x):=by
  rcases zB 0 (p+c*x)with h | h
  ·exact xB h h
  ·have:=xB (show 0<= -(p+c*x) by omega) (show 0<= -(p+c*x) by omega)
   rwa[zG]at this
 have h2:0<=c*c:=by
  rcases zB 0 c with h | h
  ·exact xB h h
  ·have:=xB (show 0<= -c by omega) (show 0<= -c by omega)
   rwa[zG]at this
 have h3:=xB h2 (show 0<=p*q-x*x by omega);refine Classical.byContradiction λhn=>?_
 have h4:=qO (show p+2*c*x+c*c*q<=0 by omega) (show 0<=p by omega);rw[zA,e]at h4;have h5:(p+c*x)*(p+c*x)=0:=by omega
 have h6:c*c*(p*q-x*x)=0:=by omega
 have h7:p+c*x=0:=by rcases Int.mul_eq_zero.1 h5 with e | e<;>exact e
 have h8:c=0:=by
  rcases Int.mul_eq_zero.1 h6 with e | e
  ·rcases Int.mul_eq_zero.1 e with e | e<;>exact e
  ·omega
 rw[h8]at h7;omega
theorem zhi{a b c:Int}(ha:0<a)(h:a*b=c)(hc:0<c):0<b:=by
 refine Classical.byContradiction λhn=>?_
 have:=qO (show b<=0 by omega) (show 0<=a by omega);omega
theorem sq_nonneg(x:Int):0<=x*x:=by
 rcases zB 0 x with h | h
 ·exact xB h h
 ·have:=xB (show 0<= -x by omega) (show 0<= -x by omega)
  rwa[zG]at this
structure PD3(a b c t u v:Int):Prop where
 pa:0<a
 pb:0<b
 pc:0<c
 pab:0<a*b-t*t
 pac:0<a*c-u*u
 pbc:0<b*c-v*v
 pd:0<a*(b*c-v*v)-t*(t*c-v*u)+u*(t*v-b*u)
theorem qpe{a b c t u v:Int}(h1:0<a)(h2:0<a*b-t*t)(h3:0<a*(b*c-v*v)-t*(t*c-v*u)+u*(t*v-b*u)):PD3 a b c t u v:=by
 have hb:0<b:=zhi h1 rfl (by have:=sq_nonneg t;omega)
 have hac:0<a*c-u*u:=zhi h2 (c:=a*(a*(b*c-v*v)-t*(t*c-v*u)+u*(t*v-b*u))+(a*v-t*u)*(a*v-t*u)) (by grind) (by
  have:=yN h1 h3;have:=sq_nonneg (a*v-t*u);omega)
 have hbc:0<b*c-v*v:=zhi h2 (c:=b*(a*(b*c-v*v)-t*(t*c-v*u)+u*(t*v-b*u))+(t*v-b*u)*(t*v-b*u)) (by grind) (by
  have:=yN hb h3;have:=sq_nonneg (t*v-b*u);omega)
 exact⟨h1,hb,zhi h1 rfl (by have:=sq_nonneg u;omega),h2,hac,hbc,h3⟩
theorem PD3.s01{a b c t u v:Int}(h:PD3 a b c t u v):PD3 b a c t v u:=⟨h.pb,h.pa,h.pc,by have:=h.pab;grind,h.pbc,h.pac,by have:=h.pd;grind⟩
theorem PD3.s12{a b c t u v:Int}(h:PD3 a b c t u v):PD3 a c b u t v:=⟨h.pa,h.pc,h.pb,h.pac,h.pab,by have:=h.pbc;grind,by have:=h.pd;grind⟩
def PDn(n:Nat)(a:Nat->Row):Prop:=(∀i j,i<n->j<n->a i j=a j i)/\∀k,k<=n->0<lead a k
theorem qeu{a:Nat->Row}(h10:a 1 0=a 0 1)(h20:a 2 0=a 0 2)(h21:a 2 1=a 1 2):lead a 3=a 0 0*(a 1 1*a 2 2-a 1 2*a 1 2)-a 0 1*(a 0 1*a 2 2-a 1 2*a 0 2)+a 0 2*(a 0 1*a 1 2-a 1 1*a 0 2):=by rw[qbz,h10,h20,h21]
theorem jdc{a:Nat->Row}:PDn 3 a↔(a 1 0=a 0 1/\a 2 0=a 0 2/\a 2 1=a 1 2)/\PD3 (a 0 0) (a 1 1) (a 2 2) (a 0 1) (a 0 2) (a 1 2):=by
 constructor
 ·rintro⟨hs,hp⟩;have h10:=hs 1 0 (by omega) (by omega);have h20:=hs 2 0 (by omega) (by omega);have h21:=hs 2 1 (by omega) (by omega);have p1:=hp 1 (by omega);have p2:=hp 2 (by omega);have p3:=hp 3 (by omega);rw[zlc]at p1;rw[zik,h10]at p2;rw[qeu h10 h20 h21]at p3;exact⟨⟨h10,h20,h21⟩,qpe p1 p2 p3⟩
 ·rintro⟨⟨h10,h20,h21⟩,h⟩;refine⟨λi j hi hj=>?_,λk hk=>?_⟩
  ·match i,j,hi,hj with
   |0,0,_,_ | 1,1,_,_ | 2,2,_,_=>rfl
   |0,1,_,_=>exact h10.symm
   |0,2,_,_=>exact h20.symm
   |1,2,_,_=>exact h21.symm
   |1,0,_,_=>exact h10
   |2,0,_,_=>exact h20
   |2,1,_,_=>exact h21
   |n+3,_,h,_=>exact absurd h (by omega)
   |_,n+3,_,h=>exact absurd h (by omega)
  ·match k,hk with
   |0,_=>rw[zat];decide
   |1,_=>rw[zlc];exact h.pa
   |2,_=>rw[zik,h10];exact h.pab
   |3,_=>rw[qeu h10 h20 h21];exact h.pd
   |k+4,h=>exact absurd h (by omega)
theorem qpf{a:Nat->Row}:PDn 2 a↔a 1 0=a 0 1/\0<a 0 0/\0<a 0 0*a 1 1-a 0 1*a 0 1:=by
 constructor
 ·rintro⟨hs,hp⟩;have h10:=hs 1 0 (by omega) (by omega);have p1:=hp 1 (by omega);have p2:=hp 2 (by omega);rw[zlc]at p1;rw[zik,h10]at p2;exact⟨h10,p1,p2⟩
 ·rintro⟨h10,h1,h2⟩;refine⟨λi j hi hj=>?_,λk hk=>?_⟩
  ·match i,j,hi,hj with
   |0,0,_,_ | 1,1,_,_=>rfl
   |0,1,_,_=>exact h10.symm
   |1,0,_,_=>exact h10
   |n+2,_,h,_=>exact absurd h (by omega)
   |_,n+2,_,h=>exact absurd h (by omega)
  ·match k,hk with
   |0,_=>rw[zat];decide
   |1,_=>rw[zlc];exact h1
   |2,_=>rw[zik,h10];exact h2
   |k+3,h=>exact absurd h (by omega)
def zld(n:Nat)(a b:Nat->Row):Prop:=PDn n b/\lead b n=lead a n
theorem qev{a b:Nat->Row}(hb:b 1 0=b 0 1/\b 2 0=b 0 2/\b 2 1=b 1 2)(h10:a 1 0=a 0 1)(h20:a 2 0=a 0 2)(h21:a 2 1=a 1 2)(h:PD3 (b 0 0) (b 1 1) (b 2 2) (b 0 1) (b 0 2) (b 1 2))
  (e:b 0 0*(b 1 1*b 2 2-b 1 2*b 1 2)-b 0 1*(b 0 1*b 2 2-b 1 2*b 0 2)+b 0 2*(b 0 1*b 1 2-b 1 1*b 0 2)=a 0 0*(a 1 1*a 2 2-a 1 2*a 1 2)-a 0 1*(a 0 1*a 2 2-a 1 2*a 0 2)+a 0 2*(a 0 1*a 1 2-a 1 1*a 0 2)):zld 3 a b:=
 ⟨jdc.2 ⟨hb,h⟩,by rw[qeu hb.1 hb.2.1 hb.2.2,qeu h10 h20 h21];exact e⟩
theorem qvl{n i j:Nat}{a:Nat->Row}(c:Int)(h3:n<=3)(hi:i<n)(hj:j<n)(hij:i≠j)(h:PDn n a):zld n a (addG a i j c):=by
 match n,h3 with
 |0,_=>exact absurd hi (by omega)
 |1,_=>exact absurd hij (by omega)
 |2,_=>
  obtain⟨h10,p1,p2⟩:=qpf.1 h;have pb:0<a 1 1:=zhi p1 rfl (by have:=sq_nonneg (a 0 1);omega)
  match i,j,hi,hj with
  |0,0,_,_ | 1,1,_,_=>exact absurd rfl hij
  |0,1,_,_=>
   have e0:addG a 0 1 c 0 0=a 0 0+2*c*a 0 1+c*c*a 1 1:=by simp[addG,h10];grind
   have e1:addG a 0 1 c 0 1=a 0 1+c*a 1 1:=by simp[addG]
   have e2:addG a 0 1 c 1 1=a 1 1:=by simp[addG]
   have e3:addG a 0 1 c 1 0=a 0 1+c*a 1 1:=by simp[addG,h10]
   have em:addG a 0 1 c 0 0*addG a 0 1 c 1 1-addG a 0 1 c 0 1*addG a 0 1 c 0 1=a 0 0*a 1 1-a 0 1*a 0 1:=by rw[e0,e1,e2];grind
   refine⟨qpf.2 ⟨by rw[e1,e3],by rw[e0];exact zkf c p1 pb p2,by rw[em];exact p2⟩,?_⟩;rw[zik,zik,e3,<-e1,em,h10]
  |1,0,_,_=>
   have e0:addG a 1 0 c 0 0=a 0 0:=by simp[addG]
   have e1:addG a 1 0 c 0 1=a 0 1+c*a 0 0:=by simp[addG]
   have e2:addG a 1 0 c 1 1=a 1 1+2*c*a 0 1+c*c*a 0 0:=by simp[addG,h10];grind
   have e3:addG a 1 0 c 1 0=a 0 1+c*a 0 0:=by simp[addG,h10]
   have em:addG a 1 0 c 0 0*addG a 1 0 c 1 1-addG a 1 0 c 0 1*addG a 1 0 c 0 1=a 0 0*a 1 1-a 0 1*a 0 1:=by rw[e0,e1,e2];grind
   refine⟨qpf.2 ⟨by rw[e1,e3],by rw[e0];exact p1,by rw[em];exact p2⟩,?_⟩;rw[zik,zik,e3,<-e1,em,h10]
  |n+2,_,h,_=>exact absurd h (by omega)
  |_,n+2,_,h=>exact absurd h (by omega)
 |3,_=>
  obtain⟨⟨h10,h20,h21⟩,p⟩:=jdc.1 h;have hs:∀s t,s<3->t<3->addG a i j c s t=a s t+(if s=i then c*a j t else 0)+(if t=i then c*a s j else 0)+(if s=i/\t=i then c*c*a j j else 0):=λ_ _ _ _=>rfl
  have b00:=hs 0 0 (by omega) (by omega);have b01:=hs 0 1 (by omega) (by omega);have b02:=hs 0 2 (by omega) (by omega);have b10:=hs 1 0 (by omega) (by omega);have b11:=hs 1 1 (by omega) (by omega);have b12:=hs 1 2 (by omega) (by omega);have b20:=hs 2 0 (by omega) (by omega);have b21:=hs 2 1 (by omega) (by omega);have b22:=hs 2 2 (by omega) (by omega);have pm:=p.pab;have pc:=p.pac;have pe:=p.pbc;have pd:=p.pd;generalize addG a i j c=b at*
  have fin:b 1 0=b 0 1/\b 2 0=b 0 2/\b 2 1=b 1 2->b 0 0*(b 1 1*b 2 2-b 1 2*b 1 2)-b 0 1*(b 0 1*b 2 2-b 1 2*b 0 2)+b 0 2*(b 0 1*b 1 2-b 1 1*b 0 2)=a 0 0*(a 1 1*a 2 2-a 1 2*a 1 2)-a 0 1*(a 0 1*a 2 2-a 1 2*a 0 2)+a 0 2*(a 0 1*a 1 2-a 1 1*a 0 2)->0<b 0 0->0<b 0 0*b 1 1-b 0 1*b 0 1->zld 3 a b:=
   λhb e q1 q2=>qev hb h10 h20 h21 (qpe q1 q2 (by rw[e];exact pd)) e
  match i,j,hi,hj with
  |0,0,_,_ | 1,1,_,_ | 2,2,_,_=>exact absurd rfl hij
  |0,1,_,_=>
   simp[h10,h20,h21]at b00 b01 b02 b10 b11 b12 b20 b21 b22;refine fin (by grind) (by rw[b00,b01,b02,b11,b12,b22];grind) ?_ ?_
   ·have:=zkf c p.pa p.pb p.pab;rw[b00];grind
   ·rw[b00,b01,b11];grind
  |0,2,_,_=>
   simp[h10,h20,h21]at b00 b01 b02 b10 b11 b12 b20 b21 b22;refine fin (by grind) (by rw[b00,b01,b02,b11,b12,b22];grind) ?_ ?_
   ·have:=zkf c p.pa p.pc p.pac;rw[b00];grind
   ·have:=zkf (x:=a 0 2*a 1 1-a 0 1*a 1 2) c pm pe (by
     have e:(a 0 0*a 1 1-a 0 1*a 0 1)*(a 1 1*a 2 2-a 1 2*a 1 2)-(a 0 2*a 1 1-a 0 1*a 1 2)*(a 0 2*a 1 1-a 0 1*a 1 2)=a 1 1*(a 0 0*(a 1 1*a 2 2-a 1 2*a 1 2)-a 0 1*(a 0 1*a 2 2-a 1 2*a 0 2)+a 0 2*(a 0 1*a 1 2-a 1 1*a 0 2)):=by grind
     rw[e];exact yN p.pb pd)
    rw[b00,b01,b11];grind
  |1,0,_,_=>
   simp[h10,h20,h21]at b00 b01 b02 b10 b11 b12 b20 b21 b22;refine fin (by grind) (by rw[b00,b01,b02,b11,b12,b22];grind) ?_ ?_
   ·rw[b00];exact p.pa
   ·rw[b00,b01,b11];grind
  |1,2,_,_=>
   simp[h10,h20,h21]at b00 b01 b02 b10 b11 b12 b20 b21 b22;refine fin (by grind) (by rw[b00,b01,b02,b11,b12,b22];grind) ?_ ?_
   ·rw[b00];exact p.pa
   ·have:=zkf (x:=a 0 0*a 1 2-a 0 1*a 0 2) c pm pc (by
     have e:(a 0 0*a 1 1-a 0 1*a 0 1)*(a 0 0*a 2 2-a 0 2*a 0 2)-(a 0 0*a 1 2-a 0 1*a 0 2)*(a 0 0*a 1 2-a 0 1*a 0 2)=a 0 0*(a 0 0*(a 1 1*a 2 2-a 1 2*a 1 2)-a 0 1*(a 0 1*a 2 2-a 1 2*a 0 2)+a 0 2*(a 0 1*a 1 2-a 1 1*a 0 2)):=by grind
     rw[e];exact yN p.pa pd)
    rw[b00,b01,b11];grind
  |2,0,_,_=>
   simp[h10,h20,h21]at b00 b01 b02 b10 b11 b12 b20 b21 b22;refine fin (by grind) (by rw[b00,b01,b02,b11,b12,b22];grind) ?_ ?_
   ·rw[b00];exact p.pa
   ·rw[b00,b01,b11];exact pm
  |2,1,_,_=>
   simp[h10,h20,h21]at b00 b01 b02 b10 b11 b12 b20 b21 b22;refine fin (by grind) (by rw[b00,b01,b02,b11,b12,b22];grind) ?_ ?_
   ·rw[b00];exact p.pa
   ·rw[b00,b01,b11];exact pm
  |n+3,_,h,_=>exact absurd h (by omega)
  |_,n+3,_,h=>exact absurd h (by omega)
 |n+4,h=>exact absurd h (by omega)
def tp(i j s:Nat):Nat:=if s=i then j else if s=j then i else s
theorem qpg{n i j:Nat}{a:Nat->Row}(h3:n<=3)(hi:i<n)(hj:j<n)(hij:i≠j)(h:PDn n a):zld n a λs t=>a (tp i j s) (tp i j t):=by
 match n,h3 with
 |0,_=>exact absurd hi (by omega)
 |1,_=>exact absurd hij (by omega)
 |2,_=>
  obtain⟨h10,p1,p2⟩:=qpf.1 h;have pb:0<a 1 1:=zhi p1 rfl (by have:=sq_nonneg (a 0 1);omega)
  have key:zld 2 a λs t=>a (tp 0 1 s) (tp 0 1 t):=by
   refine⟨qpf.2 ⟨?_,?_,?_⟩,?_⟩
   ·simp[tp,h10]
   ·simp[tp];exact pb
   ·simp[tp,h10];grind
   ·rw[zik,zik];simp[tp,h10];grind
  have e:tp 1 0=tp 0 1:=by funext s;unfold tp;split<;>split<;>omega
  match i,j,hi,hj with
  |0,0,_,_ | 1,1,_,_=>exact absurd rfl hij
  |0,1,_,_=>exact key
  |1,0,_,_=>rw[e];exact key
  |n+2,_,h,_=>exact absurd h (by omega)
  |_,n+2,_,h=>exact absurd h (by omega)
 |3,_=>
  obtain⟨⟨h10,h20,h21⟩,p⟩:=jdc.1 h;have e:∀i j,tp j i=tp i j:=λi j=>by funext s;unfold tp;split<;>split<;>omega
  have k01:zld 3 a λs t=>a (tp 0 1 s) (tp 0 1 t):=by
   refine qev ?_ h10 h20 h21 ?_ ?_
   ·simp[tp,h10,h20,h21]
   ·have:=p.s01;simpa[tp,h10]using this
   ·simp[tp,h10];grind
  have k12:zld 3 a λs t=>a (tp 1 2 s) (tp 1 2 t):=by
   refine qev ?_ h10 h20 h21 ?_ ?_
   ·simp[tp,h10,h20,h21]
   ·have:=p.s12;simpa[tp,h21]using this
   ·simp[tp,h21];grind
  have k02:zld 3 a λs t=>a (tp 0 2 s) (tp 0 2 t):=by
   refine qev ?_ h10 h20 h21 ?_ ?_
   ·simp[tp,h10,h20,h21]
   ·have:=p.s01.s12.s01;simpa[tp,h20,h21,h10]using this
   ·simp[tp,h20,h21,h10];grind
  match i,j,hi,hj with
  |0,0,_,_ | 1,1,_,_ | 2,2,_,_=>exact absurd rfl hij
  |0,1,_,_=>exact k01
  |0,2,_,_=>exact k02
  |1,2,_,_=>exact k12
  |1,0,_,_=>rw[e];exact k01
  |2,0,_,_=>rw[e];exact k02
  |2,1,_,_=>rw[e];exact k12
  |n+3,_,h,_=>exact absurd h (by omega)
  |_,n+3,_,h=>exact absurd h (by omega)
 |n+4,h=>exact absurd h (by omega)
theorem qvm{n:Nat}{a:Nat->Row}{e:Nat->Int}(h3:n<=3)(he:∀i,e i*e i=1)(h:PDn n a):zld n a λs t=>e s*(e t*a s t):=by
 have hp:=h.2;have l1:lead (λs t=>e s*(e t*a s t)) 1=lead a 1:=by rw[zlc,zlc];have:=he 0;grind
 have l2:lead (λs t=>e s*(e t*a s t)) 2=lead a 2:=by rw[zik,zik];have:=he 0;have:=he 1;grind
 have l3:lead (λs t=>e s*(e t*a s t)) 3=lead a 3:=by
  rw[qbz,qbz];have:=he 0;have:=he 1;have:=he 2;generalize a 0 0=x00 at*;grind
 refine⟨⟨λi j hi hj=>?_,λk hk=>?_⟩,?_⟩
 ·show e i*(e j*a i j)=e j*(e i*a j i)
  rw[h.1 i j hi hj];grind
 ·match k,hk with
  |0,_=>rw[zat];decide
  |1,hk=>rw[l1];exact hp 1 hk
  |2,hk=>rw[l2];exact hp 2 hk
  |3,hk=>rw[l3];exact hp 3 hk
  |k+4,h=>exact absurd h (by omega)
 ·match n,h3 with
  |0,_=>rw[zat,zat]
  |1,_=>exact l1
  |2,_=>exact l2
  |3,_=>exact l3
  |n+4,h=>exact absurd h (by omega)
inductive UP(n:Nat):Nat->List (List Int)->Prop
 |id:UP n 0 (idM n)
 |no {k:Nat} {T:List (List Int)}:UP n k T->UP n (k+1) T
 |add {k i j:Nat} {c:Int} {T:List (List Int)}:UP n k T->i<n->j<n->i≠j-> -2<=c->c<=2->UP n (k+1) (mkM n λr s=>ent T r s+if s=i then c*ent T r j else 0)
 |swap {k i j:Nat} {T:List (List Int)}:UP n k T->i<n->j<n->i≠j->UP n (k+1) (mkM n λr s=>ent T r (tp i j s))
 |neg {k i:Nat} {T:List (List Int)}:UP n k T->i<n->UP n (k+1) (mkM n λr s=>if s=i then -ent T r s else ent T r s)
theorem UP.shp{n k:Nat}{T:List (List Int)}(h:UP n k T):Shp n T:=by
 induction h with
 |id=>exact zet n
 |no _ ih=>exact ih
 |add=>exact zci n _
 |swap=>exact zci n _
 |neg=>exact zci n _
theorem UP.bnd{n k:Nat}{T:List (List Int)}(h:UP n k T):∀i j,(ent T i j).natAbs<=3^k:=by
 have key:∀(f:Nat->Nat->Int) (B:Nat),(∀i j,i<n->j<n->(f i j).natAbs<=B)->∀i j,(ent (mkM n f) i j).natAbs<=B:=λf B hf i j=>by
  by_cases hij:i<n/\j<n
  ·rw[zbl hij.1 hij.2];exact hf i j hij.1 hij.2
  ·rw[(zci n f).out (by omega)];exact xE _
 induction h with
 |id=>exact key _ _ λi j _ _=>by split<;>decide
 | @no k T _ ih=>exact λi j=>by have:=ih i j;rw[xM];omega
 | @add k i j c T _ _ _ _ h1 h2 ih=>
  refine key _ _ λr s _ _=>?_
  have a1:=ih r s;have a2:=ih r j;rw[xM];split
  ·have a3:(c*ent T r j).natAbs<=2*3^k:=by rw[Int.natAbs_mul];exact qS (by omega) a2
   omega
  ·omega
 | @swap k i j T _ _ _ _ ih=>
  refine key _ _ λr s _ _=>?_
  have:=ih r (tp i j s);rw[xM];omega
 | @neg k i T _ _ ih=>
  refine key _ _ λr s _ _=>?_
  have:=ih r s;rw[xM];split<;>omega
theorem UP.um{m n k:Nat}{T:List (List Int)}(hm:0<m)(h:UP n k T):Um m n λi j=>ent T i j:=by
 induction h with
 |id=>exact jhc.congr λ_ _ hi hj=>zyv hi hj
 |no _ ih=>exact ih
 | @add k i j c T _ hi hj hij _ _ ih=>
  refine ih.mul (qxz hm c hi hj hij) λr s hr hs=>?_
  rw[zbl hr hs]
  rw[zah (h:=λl=>(if l=s then ent T r l else 0)+if s=i then(if l=j then c*ent T r l else 0)else 0) λl _=>by
   by_cases e1:l=s<;>by_cases e2:s=i<;>by_cases e3:l=j<;>simp[e1,e2,e3]<;>grind]
  rw[GE.add_sum,zgw hs λl _ hne=>by rw[if_neg hne],if_pos rfl];congr 1;split
  ·rw[zgw hj λl _ hne=>by rw[if_neg hne],if_pos rfl]
  ·exact(zdy λ_ _=>rfl).symm
 | @swap k i j T _ hi hj hij ih=>
  refine ih.mul (qpc hm hi hj hij) λr s hr hs=>?_
  rw[zbl hr hs];have ht:tp i j s<n:=by unfold tp;split<;>(try split)<;>omega
  have iff:∀l,(if l=i then j else if l=j then i else l)=s↔l=tp i j s:=λl=>by unfold tp;split<;>split<;>(try split)<;>(try split)<;>omega
  rw[zgw ht λl _ hne=>by rw[if_neg (λe=>hne ((iff l).1 e)),zA],if_pos ((iff _).2 rfl),Int.mul_one]
 | @neg k i T _ hi ih=>
  refine ih.mul (jhd hi) λr s hr hs=>?_
  rw[zbl hr hs,zgw hs λl _ hne=>by rw[if_neg hne,zA],if_pos rfl];split<;>omega
theorem UP.keep{n k:Nat}{T:List (List Int)}{a:Nat->Row}(h3:n<=3)(ha:PDn n a)(h:UP n k T):zld n a (zje a n λx y=>ent T x y):=by
 have cg:∀{b b':Nat->Row},(∀s t,s<n->t<n->b s t=b' s t)->zld n a b'->zld n a b:=λ{b b'} e hk=>by
  have hl:∀t,t<=n->lead b t=lead b' t:=λt ht=>by
   match n,h3,e,ht with
   |0,_,e,ht=>
    obtain rfl:t=0:=by omega
    rw[zat,zat]
   |1,_,e,ht=>
    rcases(by omega:t=0\/t=1)with rfl | rfl
    ·rw[zat,zat]
    ·rw[zlc,zlc,e 0 0 (by omega) (by omega)]
   |2,_,e,ht=>
    rcases(by omega:t=0\/t=1\/t=2)with rfl | rfl | rfl
    ·rw[zat,zat]
    ·rw[zlc,zlc,e 0 0 (by omega) (by omega)]
    ·rw[zik,zik,e 0 0 (by omega) (by omega),e 0 1 (by omega) (by omega),e 1 0 (by omega) (by omega),e 1 1 (by omega) (by omega)]
   |3,_,e,ht=>
    rcases(by omega:t=0\/t=1\/t=2\/t=3)with rfl | rfl | rfl | rfl
    ·rw[zat,zat]
    ·rw[zlc,zlc,e 0 0 (by omega) (by omega)]
    ·rw[zik,zik,e 0 0 (by omega) (by omega),e 0 1 (by omega) (by omega),e 1 0 (by omega) (by omega),e 1 1 (by omega) (by omega)]
    ·rw[qbz,qbz,e 0 0 (by omega) (by omega),e 0 1 (by omega) (by omega),e 0 2 (by omega) (by omega),e 1 0 (by omega) (by omega),e 1 1 (by omega) (by omega),e 1 2 (by omega) (by omega),e 2 0 (by omega) (by omega),e 2 1 (by omega) (by omega),e 2 2 (by omega) (by omega)]
   |n+4,h,_,_=>exact absurd h (by omega)
  refine⟨⟨λi j hi hj=>by rw[e i j hi hj,e j i hj hi];exact hk.1.1 i j hi hj,λk hk'=>by rw[hl k hk'];exact hk.1.2 k hk'⟩,by rw[hl n (qA n)];exact hk.2⟩
 have tr:∀{b c:Nat->Row},zld n a b->zld n b c->zld n a c:=λh1 h2=>⟨h2.1,h2.2.trans h1.2⟩
 induction h with
 |id=>exact cg (λs t hs ht=>qna a hs ht) ⟨ha,rfl⟩
 |no _ ih=>exact ih
 | @add k i j c T _ hi hj hij _ _ ih=>
  refine cg (b':=addG (zje a n λx y=>ent T x y) i j c) (λs t hs ht=>?_) (tr ih (qvl c h3 hi hj hij ih.1));rw[<-zym];exact zhg a (λx hx=>zbl hx hs) (λx hx=>zbl hx ht)
 | @swap k i j T _ hi hj hij ih=>
  refine cg (λs t hs ht=>?_) (tr ih (qpg h3 hi hj hij ih.1));exact zhg a (T':=λx y=>ent T x (tp i j y)) (λx hx=>zbl hx hs) (λx hx=>zbl hx ht)
 | @neg k i T _ hi ih=>
  refine cg (λs t hs ht=>?_) (tr ih (qvm (e:=λs=>if s=i then -1 else 1) h3 (λs=>by show(if s=i then(-1:Int)else 1)*(if s=i then -1 else 1)=1;split<;>rfl) ih.1));rw[zhg a (T':=λx y=>(if y=i then -1 else 1)*ent T x y) (λx hx=>by rw[zbl hx hs];split<;>omega) (λx hx=>by rw[zbl hx ht];split<;>omega)]
  show sumR (λx=>sumR (λy=>a x y*((if t=i then -1 else 1)*ent T y t)) n*((if s=i then -1 else 1)*ent T x s)) n=(if s=i then -1 else 1)*((if t=i then -1 else 1)*sumR (λx=>sumR (λy=>a x y*ent T y t) n*ent T x s) n)
  generalize (if t=i then(-1:Int)else 1)=et;generalize (if s=i then(-1:Int)else 1)=es;rw[<-GE.mul_sum,<-GE.mul_sum];refine zah λx _=>?_
  rw[zah (h:=λy=>et*(a x y*ent T y t)) λy _=>by grind,GE.mul_sum];grind
end Go.Proofs.YtgfbaioffpcelaaGreatDoor
namespace Go.Proofs.YtgfbaioffpcelaaGreatDoor
open Go Go.AL Go.Proofs Go.Limb Go.GE
def uS(n i j:Nat)(c:Int)(T:List (List Int)):List (List Int):=
 if i=j then(if c<0 then mkM n λr s=>if s=i then -ent T r s else ent T r s else T)
 else if c=0 then mkM n λr s=>ent T r (tp i j s)else mkM n λr s=>ent T r s+if s=i then c*ent T r j else 0
def jdd(n:Nat)(l:List Int)(q:Nat)(T:List (List Int)):List (List Int):=
 uS n (zdt l q%n).toNat (zdt l (zbx l q)%n).toNat (Int.tmod (zgh l (zbx l (zbx l q))) 3) T
def uRun(n:Nat)(l:List Int):Nat->Nat->List (List Int)->List (List Int)
 |0,_,T=>T
 |f+1,q,T=>if q<l.length then uRun n l f (zbx l (zbx l (zbx l q))) (jdd n l q T)else T
theorem jhg(x:Int): -2<=Int.tmod x 3/\Int.tmod x 3<=2:=by
 have h1:=zS x (show(0:Int)<3 by decide);have h2:=zT x (show(0:Int)<3 by decide);omega
theorem jjn{n i j k:Nat}{c:Int}{T:List (List Int)}(h:UP n k T)(hi:i<n)(hj:j<n)(hc: -2<=c/\c<=2):UP n (k+1) (uS n i j c T):=by
 unfold uS;split
 ·split
  ·exact .neg h hi
  ·exact .no h
 ·split
  ·exact .swap h hi hj (by assumption)
  ·exact .add h hi hj (by assumption) hc.1 hc.2
theorem qew{n k q:Nat}{l:List Int}{T:List (List Int)}(hn:1<=n)(h:UP n k T):UP n (k+1) (jdd n l q T):=by
 have key:∀x:Int,(x%n).toNat<n:=λx=>by
  have:=yA x (show(n:Int)≠0 by omega);have:=yC x (show 0<(n:Int) by omega);omega
 exact jjn h (key _) (key _) (jhg _)
theorem qph{n:Nat}{l:List Int}(hn:1<=n):∀f k q (T:List (List Int)),UP n k T->∃k',k'<=k+f/\UP n k' (uRun n l f q T)
 |0,k,q,T,h=>⟨k,qA _,h⟩
 |f+1,k,q,T,h=>by
  unfold uRun;split
  ·obtain⟨k',h1,h2⟩:=qph hn f (k+1) (zbx l (zbx l (zbx l q))) _ (qew hn h);exact⟨k',by omega,h2⟩
  ·exact⟨k,by omega,h⟩
def uH(n:Nat)(X:List (List Int))(l:List Int)(c:Option Nat)(k:Nat):Heap:=bO 0 n n X++tP l c k
section
variable{n:Nat}{X:List (List Int)}{l:List Int}{c:Option Nat}{k:Nat}
theorem qya(hX:Shp n X):getB (uH n X l c k) 0=some (outO 0 n n n):=by
 unfold uH;rw[zbm (by simp[bO])];have:=zfv (P:=[]) (o:=0) (N:=n) (n:=n) (rows:=X) rfl;rw[hX.len]at this;exact this
theorem qpi(hX:Shp n X){i:Nat}(hi:i<n):getB (uH n X l c k) (i+1)=some (i64z (X.getD i [])):=by
 unfold uH;rw[zbm (by simp[bO,hX.len,hi])];have:=zkr (P:=[]) (o:=0) (N:=n) (n:=n) (rows:=X) rfl (i:=i) (by rw[hX.len];exact hi);rw[qH]at this;exact this
theorem qex(hX:Shp n X){i:Nat}(hi:i<n)(r:List Int):(uH n X l c k).set (i+1) (some (i64z r))=uH n (X.set i r) l c k:=by
 unfold uH;rw[zL _ _ (by simp[bO,hX.len,hi])];have:=zri (P:=[]) (o:=0) (N:=n) (n:=n) (rows:=X) rfl (i:=i) r;rw[qH]at this;rw[show(bO 0 n n X).set (i+1) (some (i64z r))=bO 0 n n (X.set i r)from this]
theorem qca(hX:Shp n X):getB (uH n X l c k) (n+1)=some (zdu l c k):=by
 unfold uH getB;rw[qI (by simp[bO,hX.len])];simp[bO,hX.len,tP]
theorem qcb(hX:Shp n X)(k':Nat):(uH n X l c k).set (n+1) (some (zdu l c k'))=uH n X l c k':=by
 unfold uH;rw[qL _ _ (by simp[bO,hX.len])];simp[bO,hX.len,tP]
theorem uG{i:Nat}(hi:i<n):(outO 0 n n n).getD i .junk= .sl (i+1) 0 n 1 (some n):=by
 have:=zid (o:=0) (N:=n) (n:=n) hi
 rwa[qH]at this
theorem qyb(hX:Shp n X):frzI 0 (uH n X l c k) 3 (.sl 0 0 n 1 (some n))=some (.vec (zbt n X) n (some n)):=by
 have e0:outO 0 n n n=zij 0 n n:=by
  unfold outO;rw[qN,qZ,qW]
 have key:(zij 0 n n).mapM (frzI 0 (uH n X l c k) 2)=some (zbt n X):=by
  have:zbt n X=(List.range n).map λk=>AV.vec (i64z (X.getD k [])) n (some n):=by
   refine xT (by simp[zbt,hX.len]) λk h1 h2=>?_
   simp only[zbt,jD,jQ];have hk:k<X.length:=by simpa[zbt]using h1
   rw[qK,qE hk];rfl
  rw[this];unfold zij;rw[List.mapM_map]
  have:∀a:List Nat,(∀k∈a,k<n)->a.mapM (λj=>frzI 0 (uH n X l c k) 2 (.sl (0+j+1) 0 n 1 (some n)))=some (a.map λk=>AV.vec (i64z (X.getD k [])) n (some n)):=by
   intro a
   induction a with
   |nil=>intro _;rfl
   |cons j a ih=>
    intro h;have hk:=h j (by simp)
    have e:frzI 0 (uH n X l c k) 2 (.sl (0+j+1) 0 n 1 (some n))=some (.vec (i64z (X.getD j [])) n (some n)):=by
     rw[frzI,qH];have hl:=hX.row j hk;simp only[yZ,if_false,qpi hX hk,need,qH,yR,zbe,hl,qA,if_true,xS];rw[qG (by rw[zbe];omega),zol];rfl
    rw[yE,e,ih (λx hx=>h x (by simp[hx]))];rfl
  exact this _ (λk hk=>List.mem_range.1 hk)
 rw[frzI];simp only[yZ,if_false,qya hX,e0,need,qH,yR,zfa,qA,if_true,xS];rw[qG (by rw[zfa];omega),key];rfl
end
theorem jhh{n i j:Nat}{c:Int}{T:List (List Int)}(hT:Shp n T):Shp n (uS n i j c T):=by
 unfold uS;split
 ·split
  ·exact zci _ _
  ·exact hT
 ·split<;>exact zci _ _
theorem uIn{n i j q:Nat}{cc:Int}{T:List (List Int)}{l:List Int}{c:Option Nat}(hn:1<=n/\n<=8)(hi:i<n)(hj:j<n)(hc: -2<=cc/\cc<=2)(hT:Shp n T)(hb:∀s t,(ent T s t).natAbs<=531441){v7 v8:AV}{E:Env}{Q:Post}
  (e1:E 1= .int .i64 (n:Nat)) (e5:E 5= .sl 0 0 n 1 (some n)) (e7:E 7=v7) (e8:E 8=v8) (e9:E 9= .int .i64 (i:Int)) (e10:E 10= .int .i64 (j:Int)) (e11:E 11= .int .i64 cc) (e61:E 61= .int .i64 (n:Nat)) (e62:E 62= .int .i64 0)
  (hQ:∀E',E' 1= .int .i64 (n:Nat)->E' 5= .sl 0 0 n 1 (some n)->E' 7=v7->E' 8=v8->Q (.exit 4) E' (uH n (uS n i j cc T) l c q)):Wg 0 145 (.loop l143_2) E (uH n T l c q) Q:=by
 refine zaj (λf E H=>∃r X,r+f=n/\Shp n X/\(∀s t,s<n->t<n->ent X s t=if s<r then ent (uS n i j cc T) s t else ent T s t)/\H=uH n X l c q/\E 1= .int .i64 (n:Nat)/\E 5= .sl 0 0 n 1 (some n)/\E 7=v7/\E 8=v8/\E 9= .int .i64 (i:Int)/\E 10= .int .i64 (j:Int)/\E 11= .int .i64 cc/\E 61= .int .i64 (n:Nat)/\E 62= .int .i64 (r:Nat)) (n:=n)
  ⟨0,T,by omega,hT,λs t _ _=>by rw[if_neg (by omega)],rfl,e1,e5,e7,e8,e9,e10,e11,e61,e62⟩ ?_
 clear e1 e5 e7 e8 e9 e10 e11 e61 e62 E;rintro f E H ⟨r,X,hrf,hX,hx,rfl,e1,e5,e7,e8,e9,e10,e11,e61,e62⟩;refine wM ?_;rcases xH f with hf | hf
 ·obtain rfl:r=n:=by omega
  have d1:decide ((r:Int)<(r:Nat))=false:=dF;have e:X=uS r i j cc T:=zqq hX (jhh hT) λs t hs ht=>by rw[hx s t hs ht,if_pos hs]
  subst e;simp only[l143_2,r143_14,SS,fC,reduceIte,e61,e62,d1];refine hQ _ ?_ ?_ ?_ ?_<;>simp only[UU,qQ, *]
 obtain⟨f,rfl⟩:∃f',f=f'+1:=⟨f-1,by omega⟩
 have hr:r<n:=by omega
 have d1:decide ((r:Int)<(n:Nat))=true:=dT;have w9:=wS1 r (by omega);have go:=qya (l:=l) (c:=c) (k:=q) hX;have gr:=qpi (l:=l) (c:=c) (k:=q) hX hr;have ol:=zgs (o:=0) (N:=n) (n:=n) (i:=n) (qA _);have og:=uG (n:=n) hr;have lX:=hX.row r hr
 have gi:(i64z (X.getD r [])).getD i .junk= .int .i64 (ent T r i):=by
  rw[zck _ i (by omega)];have:=hx r i hr hi;rw[if_neg (by omega)]at this;rw[<-this];rfl
 have gj:(i64z (X.getD r [])).getD j .junk= .int .i64 (ent T r j):=by
  rw[zck _ j (by omega)];have:=hx r j hr hj;rw[if_neg (by omega)]at this;rw[<-this];rfl
 have bi:=hb r i;have bj:=hb r j
 have fin:∀(X':List (List Int)) (E':Env),Shp n X'->(∀s t,s<n->t<n->ent X' s t=if s=r then ent (uS n i j cc T) r t else ent X s t)->E' 1= .int .i64 (n:Nat)->E' 5= .sl 0 0 n 1 (some n)->E' 7=v7->E' 8=v8->E' 9= .int .i64 (i:Int)->E' 10= .int .i64 (j:Int)->E' 11= .int .i64 cc->E' 61= .int .i64 (n:Nat)->E' 62= .int .i64 ((r+1:Nat):Int)->
   ∃r' X,r'+f=n/\Shp n X/\(∀s t,s<n->t<n->ent X s t=if s<r' then ent (uS n i j cc T) s t else ent T s t)/\uH n X' l c q=uH n X l c q/\E' 1= .int .i64 (n:Nat)/\E' 5= .sl 0 0 n 1 (some n)/\E' 7=v7/\E' 8=v8/\E' 9= .int .i64 (i:Int)/\E' 10= .int .i64 (j:Int)/\E' 11= .int .i64 cc/\E' 61= .int .i64 (n:Nat)/\E' 62= .int .i64 (r':Nat):=by
  intro X' E' h1 h2 f1 f5 f7 f8 f9 f10 f11 f61 f62;refine⟨r+1,X',by omega,h1,λs t hs ht=>?_,rfl,f1,f5,f7,f8,f9,f10,f11,f61,f62⟩;rw[h2 s t hs ht];by_cases e:s=r
  ·subst e;rw[if_pos rfl,if_pos (by omega)]
  ·rw[if_neg e,hx s t hs ht];by_cases e2:s<r
   ·rw[if_pos e2,if_pos (by omega)]
   ·rw[if_neg e2,if_neg (by omega)]
 have hX0:∀t,t<n->ent X r t=ent T r t:=λt ht=>by
  have:=hx r t hr ht
  rwa[if_neg (Nat.lt_irrefl r)]at this
 have er:∀(z:Int) (a:Nat),(i64z (X.getD r [])).set a (.int .i64 z)=i64z ((X.getD r []).set a z):=λz a=>zdi _ _ _
 have eM:∀(z:Int) (a:Nat),X.set r ((X.getD r []).set a z)=setM X r a z:=λz a=>rfl
 simp only[l143_2,r143_14,SS,fC,reduceIte,e61,e62,d1];simp only[r143_15,SS,reduceIte,qQ,e62];by_cases hij:i=j
 ·subst hij;by_cases hc0:cc<0
  ·have d4:decide (cc<0)=true:=decide_eq_true hc0;have w1:IntKind.i64.wrap (0-ent T r i)= -ent T r i:=by rw[jJ];exact w64 (by omega) (by omega)
   simp only[r143_16,↓zcq,SS,fC,reduceIte,qQ,e9,e10,e11,d4,decide_true];simp only[r143_17,SS,fC,reduceIte,qQ,e5,e9,qU,go,ol,og,gr,zbe,lX,gi,w1,er];refine⟨⟨by omega,by omega⟩,by omega,⟨by omega,by omega⟩,by omega,⟨by omega,by omega⟩,by omega,⟨by omega,by omega⟩,by omega,rfl,?_⟩;rw[qex hX hr,eM];simp only[r143_22,SS,reduceIte,qQ,e62,w9];refine⟨f,_,_,by omega,fin _ _ (hX.set hr) (λs t hs ht=>?_) ?_ ?_ ?_ ?_ ?_ ?_ ?_ ?_ ?_,.refl⟩
   ·rw[hX.ent_set hr hi];unfold uS;rw[if_pos rfl,if_pos hc0,zbl hr ht];by_cases e1:s=r
    ·subst e1;by_cases e2:t=i
     ·subst e2;rw[if_pos ⟨rfl,rfl⟩,if_pos rfl,if_pos rfl]
     ·rw[if_neg (λh=>e2 h.2),if_pos rfl,if_neg e2,hX0 t ht]
    ·rw[if_neg (λh=>e1 h.1),if_neg e1]
   all_goals simp only[UU,qQ,reduceIte, *]
  ·have d4:decide (cc<0)=false:=decide_eq_false hc0;simp only[r143_16,↓zcq,SS,fC,reduceIte,qQ,e9,e10,e11,d4,decide_true];simp only[r143_18,↓zkk,SS,fC,reduceIte,qQ,e9,e10,ne_eq,not_true_eq_false,decide_false];simp only[r143_20,SS,fC,reduceIte,qQ,e9,e10,ne_eq,not_true_eq_false,decide_false];simp only[r143_22,SS,reduceIte,qQ,e62,w9];refine⟨f,_,_,by omega,fin _ _ hX (λs t hs ht=>?_) ?_ ?_ ?_ ?_ ?_ ?_ ?_ ?_ ?_,.refl⟩
   ·unfold uS;rw[if_pos rfl,if_neg hc0];by_cases e1:s=r
    ·rw[if_pos e1,e1,hX0 t ht]
    ·rw[if_neg e1]
   all_goals simp only[UU,qQ,reduceIte, *]
 ·have d2:decide ((i:Int)=(j:Int))=false:=dF;have d3:decide ((i:Int)≠(j:Int))=true:=dT;have d3':decide (¬(i:Int)=(j:Int))=true:=dT;simp only[r143_16,↓zkk,SS,fC,reduceIte,qQ,e9,e10,d2];by_cases hc0:cc=0
  ·have d4:decide (cc=0)=true:=decide_eq_true hc0;simp only[r143_18,↓zcq,SS,fC,reduceIte,qQ,e9,e10,e11,d3,d4];simp only[r143_19,SS,fC,reduceIte,qQ,e5,e9,e10,qU,go,ol,og,gr,zbe,lX,gi,gj,er];have hX1:Shp n (setM X r i (ent T r j)):=hX.set hr;have l1:=hX1.row r hr;refine⟨⟨by omega,by omega⟩,by omega,⟨by omega,by omega⟩,by omega,⟨by omega,by omega⟩,by omega,⟨by omega,by omega⟩,by omega,⟨by omega,by omega⟩,by omega,⟨by omega,by omega⟩,by omega,⟨by omega,by omega⟩,by omega,⟨by omega,by omega⟩,?_⟩;rw[qex hX hr,eM,qpi hX1 hr];simp only[zar,zbe,l1,zdi];refine⟨by omega,rfl,?_⟩;rw[qex hX1 hr];simp only[r143_22,SS,reduceIte,qQ,e62,w9];refine⟨f,_,_,by omega,fin (setM (setM X r i (ent T r j)) r j (ent T r i)) _ (hX1.set hr) (λs t hs ht=>?_) ?_ ?_ ?_ ?_ ?_ ?_ ?_ ?_ ?_,.refl⟩
   ·rw[hX1.ent_set hr hj,hX.ent_set hr hi];unfold uS;rw[if_neg hij,if_pos hc0,zbl hr ht];by_cases e1:s=r
    ·subst e1;rw[if_pos rfl];by_cases e2:t=j
     ·subst e2;rw[if_pos ⟨rfl,rfl⟩];unfold tp;rw[if_neg (λe=>hij e.symm),if_pos rfl]
     ·rw[if_neg (λh=>e2 h.2)];by_cases e3:t=i
      ·subst e3;rw[if_pos ⟨rfl,rfl⟩];unfold tp;rw[if_pos rfl]
      ·rw[if_neg (λh=>e3 h.2),hX0 t ht];unfold tp;rw[if_neg e3,if_neg e2]
    ·rw[if_neg (λh=>e1 h.1),if_neg (λh=>e1 h.1),if_neg e1]
   all_goals simp only[UU,qQ,reduceIte, *]
  ·have d4:decide (cc=0)=false:=decide_eq_false hc0;have b2:(cc*ent T r j).natAbs<=2*531441:=by rw[Int.natAbs_mul];exact qS (by omega) bj
   have w1:IntKind.i64.wrap (cc*ent T r j)=cc*ent T r j:=w64 (by omega) (by omega);have w2:IntKind.i64.wrap (ent T r i+cc*ent T r j)=ent T r i+cc*ent T r j:=w64 (by omega) (by omega);simp only[r143_18,↓zcq,SS,fC,reduceIte,qQ,e9,e10,e11,d3,d4];simp only[r143_20,SS,fC,reduceIte,qQ,e9,e10,d3];simp only[r143_21,SS,fC,reduceIte,qQ,e5,e9,e10,e11,qU,go,ol,og,gr,zbe,lX,gi,gj,w1,w2,er];refine⟨⟨by omega,by omega⟩,by omega,⟨by omega,by omega⟩,by omega,⟨by omega,by omega⟩,by omega,⟨by omega,by omega⟩,by omega,⟨by omega,by omega⟩,by omega,rfl,?_⟩;rw[qex hX hr,eM];simp only[r143_22,SS,reduceIte,qQ,e62,w9];refine⟨f,_,_,by omega,fin _ _ (hX.set hr) (λs t hs ht=>?_) ?_ ?_ ?_ ?_ ?_ ?_ ?_ ?_ ?_,.refl⟩
   ·rw[hX.ent_set hr hi];unfold uS;rw[if_neg hij,if_neg hc0,zbl hr ht];by_cases e1:s=r
    ·subst e1;rw[if_pos rfl];by_cases e2:t=i
     ·subst e2;rw[if_pos ⟨rfl,rfl⟩,if_pos rfl]
     ·rw[if_neg (λh=>e2 h.2),if_neg e2,hX0 t ht,Int.add_zero]
    ·rw[if_neg (λh=>e1 h.1),if_neg e1]
   all_goals simp only[UU,qQ,reduceIte, *]
theorem jhi{n i:Nat}(hi:i<n):(idM n).getD i []=(List.replicate n 0).set i 1:=by
 have hr:=(zet n).row i hi;refine xT (by rw[hr];simp) λt h1 h2=>?_
 have ht:t<n:=by omega
 have e:=zyv hi ht;unfold ent at e;rw[qK,qE h1]at e;rw[zY];simp only[yI]at e;rw[e];by_cases hit:i=t
 ·rw[if_pos hit,if_pos hit]
 ·rw[if_neg hit,if_neg hit];simp
theorem zyw{l:List Int}{c:Option Nat}{n:Nat}(h:zgf l)(hn:1<=n/\n<=8):
  Rt 143 [.vec (i8z l) l.length c,.int .i64 (n:Nat)] [] (.vec (zbt n (uRun n l 12 0 (idM n))) n (some n)) []:=by
 have hD:=zet n;refine oF o143 ?_;simp only[c143,r143_0,SS,reduceCtorEq];simp only[r143_1,SS,reduceIte,qQ,qU];refine⟨by decide,⟨by omega,by omega,by omega,by omega⟩,?_⟩;simp only[r143_2,SS,reduceIte,qQ]
 refine zaj (λf E H=>∃i,i+f=n/\H=bO 0 n n ((idM n).take i)/\E 0= .vec (i8z l) l.length c/\E 1= .int .i64 (n:Nat)/\E 5= .sl 0 0 n 1 (some n)/\E 16= .int .i64 (n:Nat)/\E 17= .int .i64 (i:Nat)) (n:=n)
  ⟨0,by omega,rfl,by rfl,by rfl,by rfl,by rfl,by rfl⟩ ?_
 rintro f E H ⟨i,hif,rfl,e0,e1,e5,e16,e17⟩;refine wM ?_;rcases xH f with hf | hf
 rotate_left
 ·obtain⟨f,rfl⟩:∃f',f=f'+1:=⟨f-1,by omega⟩
  have hi:i<n:=by omega
  have d1:decide ((i:Int)<(n:Nat))=true:=dT;have w9:=wS1 i (by omega);have hDl:=hD.len;have htl:((idM n).take i).length=i:=by rw[xG];omega
  have hbl:(bO 0 n n ((idM n).take i)).length=i+1:=by
   show(List.map _ _).length+1=i+1
   rw[xD,htl]
  have hgo:getB (bO 0 n n ((idM n).take i)++[some (i64z (List.replicate n 0))]) 0=some (outO 0 n n i):=by
   show getB (some (outO 0 n n ((idM n).take i).length)::_) 0=_
   rw[htl];rfl
  have gol:=zgs (o:=0) (N:=n) (n:=n) (i:=i) (by omega);have hnew:=qxr (P:=[]) (o:=0) (N:=n) (n:=n) (rows:=(idM n).take i) rfl (List.replicate n 0) (by omega);rw[htl,xY,xY,qH]at hnew;simp only[l143_0,r143_3,SS,fC,reduceCtorEq,reduceIte,e16,e17,d1];simp only[r143_4,r143_5,SS,reduceIte,qQ,e1,e5,e17,qU,hbl,zkd,hgo,gol];refine⟨by decide,⟨by omega,by omega,by omega,by omega⟩,⟨by omega,by omega⟩,by omega,?_⟩;rw[hnew];have hrl:((idM n).take i++[List.replicate n 0]).length=i+1:=by simp;omega
  have ko:getB (bO 0 n n ((idM n).take i++[List.replicate n 0])) 0=some (outO 0 n n (i+1)):=by
   show getB (some (outO 0 n n ((idM n).take i++[List.replicate n 0]).length)::_) 0=_
   rw[hrl];rfl
  have kl:=zgs (o:=0) (N:=n) (n:=n) (i:=i+1) (by omega);have kg:=zid (o:=0) (N:=n) (n:=n) (i:=i+1) (k:=i) (by omega);rw[qH]at kg;have gr:=zkr (P:=[]) (o:=0) (N:=n) (n:=n) (rows:=(idM n).take i++[List.replicate n 0]) rfl (i:=i) (by omega)
  have grr:((idM n).take i++[List.replicate n 0]).getD i []=List.replicate n 0:=by
   rw[qK,qI (by omega),htl,qN];simp
  rw[grr,xY,qH]at gr;have hs:=zri (P:=[]) (o:=0) (N:=n) (n:=n) (rows:=(idM n).take i++[List.replicate n 0]) rfl (i:=i) ((List.replicate n 0).set i 1)
  have eset:((idM n).take i++[List.replicate n 0]).set i ((List.replicate n 0).set i 1)=(idM n).take (i+1):=by
   rw[qL _ _ (by omega),htl,qN,<-jhi hi];rw[zZ,qK,qE (by omega)];rfl
  rw[eset,xY,xY,qH]at hs;simp only[r143_6,SS,fC,reduceIte,qQ,e5,qU,ko,kl,kg,gr,zbe,zI,zdi];refine⟨⟨by omega,by omega⟩,by omega,⟨by omega,by omega⟩,by omega,?_⟩;rw[hs];simp only[r143_7,SS,reduceIte,qQ,e17,w9];refine⟨f,_,_,by omega,⟨i+1,by omega,rfl,?_,?_,?_,?_,?_⟩,.refl⟩
  all_goals simp only[UU,qQ,reduceIte, *]
 obtain rfl:i=n:=by omega
 have d1:decide ((i:Int)<(i:Nat))=false:=dF;have htl:(idM i).take i=idM i:=qG (by rw[hD.len];omega);have hbl:(bO 0 i i (idM i)).length=i+1:=by simp[bO,hD.len]
 rw[htl];simp only[l143_0,r143_3,SS,fC,reduceCtorEq,reduceIte,e16,e17,d1];simp only[r143_8,SS,reduceCtorEq,reduceIte,qV,qQ,qJ,e0,hbl];simp only[r143_9,SS]
 refine zaj (λf E H=>∃k q T,k+f=12/\UP i k T/\q<=l.length/\uRun i l f q T=uRun i l 12 0 (idM i)/\H=uH i T l c q/\E 1= .int .i64 (i:Nat)/\E 5= .sl 0 0 i 1 (some i)/\E 7= .ptr (i+1) 0/\E 8= .int .i64 (k:Nat)) (n:=12)
  ⟨0,0,idM i,rfl,.id,xE _,rfl,rfl,by exact e1,by exact e5,by rfl,by rfl⟩ ?_
 clear e0 e1 e5 e16 e17 d1 htl hbl hif;rintro f E H ⟨k,q,T,hkf,hU,hq,hrun,rfl,e1,e5,e7,e8⟩;refine wM ?_;have hT:=hU.shp;have gt:=qca (l:=l) (c:=c) (k:=q) hT;rcases xH f with hf | hf
 ·obtain rfl:f=0:=hf;obtain rfl:k=12:=by omega
  have eT:T=uRun i l 12 0 (idM i):=hrun;have d1:decide (((12:Nat):Int)<12)=false:=by decide
  simp only[l143_1,r143_10,↓zkk,SS,fC,reduceCtorEq,reduceIte,qQ,e8,d1];refine⟨rfl,?_⟩;simp only[r143_24,SS,reduceIte,qQ,e5];exact⟨.inl trivial,_,rfl,.freeze 3 _ _ _ (by rw[<-eT];exact qyb hT) (by intro i cs h;omega)⟩
 obtain⟨f,rfl⟩:∃f',f=f'+1:=⟨f-1,by omega⟩
 have d1:decide ((k:Int)<12)=true:=dT;have gtc:zdu l c q=[.vec (i8z l) l.length c,.int .i64 (q:Nat)]:=rfl;by_cases hql:q<l.length;rotate_left
 ·have d2:decide ((q:Int)<(l.length:Nat))=false:=dF
  have eT:T=uRun i l 12 0 (idM i):=by
   have:uRun i l (f+1) q T=T:=by unfold uRun;rw[if_neg hql]
   rw[<-hrun,this]
  simp only[l143_1,r143_10,↓zcq,SS,fC,reduceCtorEq,reduceIte,qV,qQ,qJ,e7,e8,d1,gt,gtc,d2];refine⟨rfl,?_⟩;simp only[r143_24,SS,reduceIte,qQ,e5];exact⟨.inl trivial,_,rfl,.freeze 3 _ _ _ (by rw[<-eT];exact qyb hT) (by intro i cs h;omega)⟩
 ·have d2:decide ((q:Int)<(l.length:Nat))=true:=dT;have hi0:1<=(i:Int)/\(i:Int)<1000000:=by omega
  have q1:zbx l q<=l.length:=by unfold zbx;split<;>omega
  have q2:zbx l (zbx l q)<=l.length:=by
   have:∀x,x<=l.length->zbx l x<=l.length:=λx hx=>by unfold zbx;split<;>omega
   exact this _ q1
  have q3:zbx l (zbx l (zbx l q))<=l.length:=by
   have:∀x,x<=l.length->zbx l x<=l.length:=λx hx=>by unfold zbx;split<;>omega
   exact this _ q2
  have t1:=zyt (l:=l) (c:=c) (k:=q) (m:=(i:Int)) h hq hi0;have t2:=zyt (l:=l) (c:=c) (k:=zbx l q) (m:=(i:Int)) h q1 hi0;have t3:=jcv (l:=l) (c:=c) (k:=zbx l (zbx l q)) h q2;have g1:=qca (l:=l) (c:=c) (k:=zbx l q) hT;have g2:=qca (l:=l) (c:=c) (k:=zbx l (zbx l q)) hT;have s1:=qcb (l:=l) (c:=c) (k:=q) hT (zbx l q);have s2:=qcb (l:=l) (c:=c) (k:=zbx l q) hT (zbx l (zbx l q));have s3:=qcb (l:=l) (c:=c) (k:=zbx l (zbx l q)) hT (zbx l (zbx l (zbx l q)))
  have rg:∀x:Int,((x%(i:Int)).toNat:Int)=x%(i:Int)/\(x%(i:Int)).toNat<i:=λx=>by
   have:=yA x (show(i:Int)≠0 by omega);have:=yC x (show 0<(i:Int) by omega);omega
  have b3:=jhg (zgh l (zbx l (zbx l q)));have w3:IntKind.i64.wrap (Int.tmod (zgh l (zbx l (zbx l q))) 3)=Int.tmod (zgh l (zbx l (zbx l q))) 3:=w64 (by omega) (by omega);have w9:=wS1 k (by omega);have hb:∀s t,(ent T s t).natAbs<=531441:=λs t=>xX (hU.bnd s t) (xX (xW (by decide) (show k<=12 by omega)) (by decide))
  simp only[l143_1,r143_10,↓zcq,SS,fC,reduceCtorEq,reduceIte,qV,qQ,qJ,e7,e8,d1,gt,gtc,d2];refine⟨rfl,?_⟩;simp only[r143_11,SS,reduceIte,qQ,e1,e7];refine zcm (id:=i+1) t1 gt (by simp[AV.ren,zan]) ?_;simp only[zaf,zac,qZ,qW,SS,reduceIte,qQ,s1];refine zcm (id:=i+1) t2 g1 (by simp[AV.ren,zan,e1,e7]) ?_;simp only[zaf,zac,qZ,qW,SS,reduceIte,qQ,s2];simp only[r143_12,SS,reduceIte,qQ,e7];refine zcm (id:=i+1) t3 g2 (by simp[AV.ren,zan]) ?_;simp only[zaf,zac,qZ,qW,SS,reduceIte,qQ,s3];refine⟨by decide,?_⟩;simp only[r143_13,SS,reduceIte,qQ,e5];refine uIn (v7:= .ptr (i+1) 0) (v8:= .int .i64 (k:Nat)) (i:=(zdt l q%i).toNat) (j:=(zdt l (zbx l q)%i).toNat) (cc:=Int.tmod (zgh l (zbx l (zbx l q))) 3) hn (rg _).2 (rg _).2 b3 hT hb ?_ ?_ ?_ ?_ ?_ ?_ ?_ ?_ ?_ ?_
  ·exact e1
  ·exact e5
  ·exact e7
  ·exact e8
  ·simp only[UU,qQ,reduceIte,(rg _).1]
  ·simp only[UU,qQ,reduceIte,(rg _).1]
  ·rfl
  ·rfl
  ·rfl
  intro E' f1 f5 f7 f8;simp only[SS,reduceCtorEq,reduceIte,qQ,r143_23,f8,w9];refine⟨f,_,_,by omega,⟨k+1,zbx l (zbx l (zbx l q)),jdd i l q T,by omega,qew (by omega) hU,q3,?_,rfl,?_,?_,?_,?_⟩,.refl⟩
  ·rw[<-hrun];show _=uRun i l (f+1) q T;conv=>rhs;unfold uRun
   rw[if_pos hql]
  all_goals simp only[UU,qQ,reduceIte, *]
end Go.Proofs.YtgfbaioffpcelaaGreatDoor
namespace Go.Proofs.YtgfbaioffpcelaaGreatDoor
open Go Go.AL Go.Proofs Go.Limb
theorem qpj{H:Heap}(σ:Nat->Nat)(s:Nat)(hσ:∀i,σ (s+i)=H.length+i):∀(L X:Heap),zac (effs σ (s+X.length) L) (H++(X++List.replicate L.length none))=H++(X++L.map (renB σ)):=by
 intro L
 induction L with
 |nil=>intro X;simp[effs,zac]
 |cons b L ih=>
  intro X;have e:H++(X++List.replicate (b::L).length none)=H++(X++(none::List.replicate L.length none)):=rfl;rw[e];simp only[effs,zac,hσ]
  have e2:(H++(X++(none::List.replicate L.length none))).set (H.length+X.length) (renB σ b)=H++((X++[renB σ b])++List.replicate L.length none):=by
   rw[qL _ _ (by omega),Nat.add_sub_cancel_left,qL _ _ (by omega),qN];simp
  rw[e2];have:=ih (X++[renB σ b]);rw[xU,List.length_singleton,<-zO]at this;rw[this];simp
theorem zrl(r:List Int):qX (i64z r)=true:=by
 induction r with
 |nil=>rfl
 |cons z r ih=>
  show((AV.int .i64 z).closed && qX (i64z r))=true
  rw[ih];rfl
theorem jhj{σ:Nat->Nat}{K N n:Nat}{rows:List (List Int)}(hσ:∀j,σ (1+j)=K+j):(bO 1 N n rows).map (renB σ)=bO K N n rows:=by
 unfold bO;rw[List.map_cons,zC];congr 1
 ·show some ((outO 1 N n rows.length).map (AV.ren σ))=_
  congr 1;unfold outO;rw[jG];congr 1
  ·unfold zij;rw[zC];refine yY λk _=>?_
   show AV.sl (σ (1+k+1)) 0 n 1 (some n)= .sl (K+k+1) 0 n 1 (some n)
   rw[show 1+k+1=1+(k+1) by omega,hσ];rfl
  ·rw[jZ];rfl
 ·refine yY λr _=>?_
  show some ((i64z r).map (AV.ren σ))=some (i64z r)
  rw[zay _ _ (zrl r)]
theorem zmk{H:Heap}{id n:Nat}{cs':List AV}{M:List (List Int)}(hid:id<H.length):zac ((id,some cs')::effs (zan [id] H.length) 1 (bO 1 n n M)) (H++List.replicate (bO 1 n n M).length none)=H.set id (some cs')++bO H.length n n M:=by
 have h1:∀j,zan [id] H.length (1+j)=H.length+j:=by
  intro j;rw[Nat.add_comm 1];exact qmg
 have:=qpj (H:=H.set id (some cs')) (zan [id] H.length) 1 (λj=>by rw[h1,qM]) (bO 1 n n M) [];simp only[zac];rw[zL _ _ hid];simp only[xK,xQ,xY]at this;rw[this,jhj h1]
theorem jde{l:List Int}{k n i j:Nat}(hi:i<n)(hj:j<i):ent (genM l k n) i j=offZ l (zbu l k n) i j/\ent (genM l k n) j i=offZ l (zbu l k n) i j:=by
 unfold genM;rw[zbl hi (by omega),zbl (by omega) hi];have h1:¬i=j:=by omega
 have h2:¬j=i:=by omega
 have h3:¬i<j:=by omega
 rw[if_neg h1,if_pos hj,if_neg h2,if_neg h3];exact⟨rfl,rfl⟩
theorem qvn{l:List Int}{k n i:Nat}(hi:i<n):ent (genM l k n) i i=ent (diaM l k n 6) i i:=by
 unfold genM diaM;rw[zbl hi hi,zbl hi hi,if_pos rfl,if_pos rfl]
theorem jdf{l:List Int}{c:Option Nat}{k n i:Nat}(h:zgf l)(hk:k<=l.length)(hn:1<=n/\n<=8)(hi:i<n){X0:List (List Int)}(hX0:Shp n X0)(hx0:∀s t,s<n->t<n->ent X0 s t=if s<i/\t<i then ent (genM l k n) s t else ent (diaM l k n 6) s t)
  {v12 v13:AV} {E:Env} {Q:Post} (e0:E 0= .ptr 0 0) (e5:E 5= .sl 1 0 n 1 (some n)) (e6:E 6= .int .i64 (i:Nat)) (e7:E 7= .int .i64 0) (e12:E 12=v12) (e13:E 13=v13)
  (hQ:∀E' X,Shp n X->(∀s t,s<n->t<n->ent X s t=if s<i+1/\t<i+1 then ent (genM l k n) s t else ent (diaM l k n 6) s t)->E' 0= .ptr 0 0->E' 5= .sl 1 0 n 1 (some n)->E' 12=v12->E' 13=v13->Q (.exit 2) E' (tP l c (zbu l k (n+triK (i+1)))++bO 1 n n X)):
  Wg 1 45 (.loop l78_1) E (tP l c (zbu l k (n+triK i))++bO 1 n n X0) Q:=by
 refine zaj (λq E H=>∃j X,j+q=i/\Shp n X/\(∀s t,s<n->t<n->ent X s t=if(s<i/\t<i)\/(s=i/\t<j)\/(t=i/\s<j)then ent (genM l k n) s t else ent (diaM l k n 6) s t)/\H=tP l c (zbu l k (n+triK i+j))++bO 1 n n X/\
  E 0= .ptr 0 0/\E 5= .sl 1 0 n 1 (some n)/\E 6= .int .i64 (i:Nat)/\E 7= .int .i64 (j:Nat)/\E 12=v12/\E 13=v13) (n:=i)
  ⟨0,X0,by omega,hX0,λs t hs ht=>by
   rw[hx0 s t hs ht];by_cases e:s<i/\t<i
   ·rw[if_pos e,if_pos (.inl e)]
   ·rw[if_neg e,if_neg (by omega)],rfl,e0,e5,e6,e7,e12,e13⟩ ?_
 clear e0 e5 e6 e7 e12 e13 E hX0 hx0 X0;rintro q E H ⟨j,X,hjq,hX,hx,rfl,e0,e5,e6,e7,e12,e13⟩;refine wM ?_;simp only[l78_1,r78_6,SS,reduceIte,qQ,e6,e7];refine⟨λhlt=>?_,λhge=>?_⟩
 ·obtain⟨q,rfl⟩:∃q',q=q'+1:=⟨q-1,by omega⟩
  have hj:j<i:=by omega
  have hXl:=hX.len;have w5:=wS1 j (by omega);have hK:=zic hk (n+triK i+j);have tN:=jcv (c:=c) h hK;have hnk:zbx l (zbu l k (n+triK i+j))=zbu l k (n+triK i+(j+1)):=rfl;rw[hnk]at tN;obtain⟨g1,g2⟩:=jde (l:=l) (k:=k) hi hj
  have hoff:Int.tmod (zgh l (zbu l k (n+triK i+j))) 3=ent (genM l k n) i j:=by
   rw[g1];unfold offZ;rw[qor,zO]
  have hr:=zwg l (zbu l k n) i j
  have w6:IntKind.i64.wrap (Int.tmod (zgh l (zbu l k (n+triK i+j))) 3)=ent (genM l k n) i j:=by
   rw[hoff,g1];exact w64 (by omega) (by omega)
  have hP:=zti l c (zbu l k (n+triK i+j));have hP':=zti l c (zbu l k (n+triK i+(j+1)));have ko:=zfv (N:=n) (n:=n) (rows:=X) hP;have ko':=zfv (N:=n) (n:=n) (rows:=setM X i j (ent (genM l k n) i j)) hP';rw[hXl]at ko;rw[zdd,hXl]at ko';have kl:=zgs (o:=1) (N:=n) (n:=n) (i:=n) (qA _);have kg:=zid (o:=1) (N:=n) (n:=n) (i:=n) (k:=i) hi;have kg2:=zid (o:=1) (N:=n) (n:=n) (i:=n) (k:=j) (by omega);have gr:=zkr (N:=n) (n:=n) (rows:=X) hP' (i:=i) (by omega);have hs1:=zri (N:=n) (n:=n) (rows:=X) hP' (i:=i) ((X.getD i []).set j (ent (genM l k n) i j));have eM:X.set i ((X.getD i []).set j (ent (genM l k n) i j))=setM X i j (ent (genM l k n) i j):=rfl;rw[eM]at hs1;have hX1:Shp n (setM X i j (ent (genM l k n) i j)):=hX.set hi;have gr1:=zkr (N:=n) (n:=n) (rows:=setM X i j (ent (genM l k n) i j)) hP' (i:=i) (by rw[hX1.len];exact hi);have gr2:=zkr (N:=n) (n:=n) (rows:=setM X i j (ent (genM l k n) i j)) hP' (i:=j) (by rw[hX1.len];omega);have lX:=hX.row i hi;have l1:=hX1.row i hi;have l2:=hX1.row j (by omega)
  have gz:(i64z ((setM X i j (ent (genM l k n) i j)).getD i [])).getD j .junk= .int .i64 (ent (genM l k n) i j):=by
   rw[zck _ j (by omega)];have:=hX.ent_set (z:=ent (genM l k n) i j) hi (show j<n by omega) i j;unfold ent at this ⊢;rw[this,if_pos ⟨rfl,rfl⟩]
  have hs2:=zri (N:=n) (n:=n) (rows:=setM X i j (ent (genM l k n) i j)) hP' (i:=j) (((setM X i j (ent (genM l k n) i j)).getD j []).set i (ent (genM l k n) i j));have eM2:(setM X i j (ent (genM l k n) i j)).set j (((setM X i j (ent (genM l k n) i j)).getD j []).set i (ent (genM l k n) i j))=setM (setM X i j (ent (genM l k n) i j)) j i (ent (genM l k n) i j):=rfl;rw[eM2]at hs2;simp only[r78_7,SS,fC,reduceCtorEq,reduceIte,qQ,e0,e5,e6,e7,qU,ko,kl,kg];refine⟨⟨by omega,by omega⟩,by omega,?_⟩;refine zcm (id:=0) tN (qxs _ _ _ _) rfl ?_;simp only[zaf,zac,keys,qZ,qW,SS,reduceIte,qQ,qxt,hoff,gr,lX,zbe,qU,zdi];refine⟨by decide,⟨by omega,by omega⟩,by omega,rfl,?_⟩;rw[hs1];simp only[r78_8,SS,fC,reduceIte,qQ,e5,e6,e7,qU,ko',kl,kg,kg2,gr1,gr2,l1,l2,gz,zbe,zdi];refine⟨⟨by omega,by omega⟩,by omega,⟨by omega,by omega⟩,by omega,⟨by omega,by omega⟩,by omega,⟨by omega,by omega⟩,by omega,rfl,?_⟩;rw[hs2];simp only[r78_9,SS,reduceIte,qQ,e7,w5];refine⟨q,_,_,by omega,⟨j+1,setM (setM X i j (ent (genM l k n) i j)) j i (ent (genM l k n) i j),by omega,hX1.set (by omega),λs t hs ht=>?_,rfl,?_,?_,?_,?_,?_,?_⟩,.refl⟩
  ·rw[hX1.ent_set (by omega) hi,hX.ent_set hi (by omega),hx s t hs ht];by_cases a1:s=j/\t=i
   ·rw[if_pos a1,if_pos (.inr (.inr ⟨a1.2,by omega⟩)),a1.1,a1.2,g1,g2]
   ·rw[if_neg a1];by_cases a2:s=i/\t=j
    ·rw[if_pos a2,if_pos (.inr (.inl ⟨a2.1,by omega⟩)),a2.1,a2.2]
    ·rw[if_neg a2];by_cases a3:(s<i/\t<i)\/(s=i/\t<j)\/(t=i/\s<j)
     ·rw[if_pos a3,if_pos (by omega)]
     ·rw[if_neg a3,if_neg (by omega)]
  all_goals simp only[UU,qQ,reduceIte, *]
 ·have hji:j=i:=by omega
  subst hji;have htri:n+triK (j+1)=n+triK j+j:=by show n+(triK j+j)=_;omega
  rw[<-htri];refine hQ _ X hX (λs t hs ht=>?_) (by exact e0) (by exact e5) (by exact e12) (by exact e13);rw[hx s t hs ht];by_cases e:s=j/\t=j
  ·rw[e.1,e.2,if_neg (by omega),if_pos (by omega),qvn hi]
  ·by_cases e2:s<j+1/\t<j+1
   ·rw[if_pos e2,if_pos (by omega)]
   ·rw[if_neg e2,if_neg (by omega)]
theorem qvo{l:List Int}{c:Option Nat}{k n:Nat}(h:zgf l)(hk:k<=l.length)(hn:1<=n/\n<=8):
  Rt 78 [.ptr 0 0,.int .i64 (n:Nat)] [some (zdu l c k)] (.sl 1 0 n 1 (some n)) (tP l c (zbu l k (n+triK n))++bO 1 n n (genM l k n)):=by
 have hG:Shp n (genM l k n):=zci _ _;have tD:=zmj (c:=c) (most:=6) h hk hn (by omega);have hlen:(bO 1 n n (diaM l k n 6)).length=n+1:=by simp[bO,(zrj l k n 6).len]
 have heff:=zmk (H:=[some (zdu l c k)]) (id:=0) (n:=n) (cs':=zdu l c (zbu l k n)) (M:=diaM l k n 6) (Nat.zero_lt_one);refine oF o78 ?_ (by simp) (by simp only[xU,zti,qP,xK];omega);simp only[c78,r78_0,r78_1,SS,reduceCtorEq,reduceIte,qQ];refine zed (id:=0) (cs:=zdu l c k) (cs':=zdu l c (zbu l k n)) (L:=bO 1 n n (diaM l k n 6)) tD rfl rfl rfl rfl rfl ?_;have hv:(AV.sl 1 0 n 1 (some n)).ren (zan [0] [some (zdu l c k)].length)= .sl 1 0 n 1 (some n):=rfl;rw[hv];simp only[zaf];rw[heff];have e1:([some (zdu l c k)].set 0 (some (zdu l c (zbu l k n)))++bO [some (zdu l c k)].length n n (diaM l k n 6):Heap)=tP l c (zbu l k n)++bO 1 n n (diaM l k n 6):=rfl;rw[e1];simp only[SS,reduceIte,qQ];simp only[r78_2,SS,reduceIte,qQ]
 refine zaj (λq E H=>∃i X,i+q=n/\Shp n X/\(∀s t,s<n->t<n->ent X s t=if s<i/\t<i then ent (genM l k n) s t else ent (diaM l k n 6) s t)/\H=tP l c (zbu l k (n+triK i))++bO 1 n n X/\E 0= .ptr 0 0/\E 5= .sl 1 0 n 1 (some n)/\E 12= .int .i64 (n:Nat)/\E 13= .int .i64 (i:Nat)) (n:=n)
  ⟨0,diaM l k n 6,by omega,zrj _ _ _ _,λs t _ _=>by rw[if_neg (by omega)],rfl,by rfl,by rfl,by rfl,by rfl⟩ ?_
 rintro q E H ⟨i,X,hiq,hX,hx,rfl,e0,e5,e12,e13⟩;refine wM ?_;simp only[l78_0,r78_3,SS,reduceCtorEq,reduceIte,e12,e13];refine⟨λhlt=>?_,λhge=>?_⟩
 ·obtain⟨q,rfl⟩:∃q',q=q'+1:=⟨q-1,by omega⟩
  have hi:i<n:=by omega
  have w5:=wS1 i (by omega);simp only[r78_4,r78_5,SS,reduceIte,qQ,e13];refine jdf (c:=c) h hk hn hi hX hx (by exact e0) (by exact e5) (by rfl) (by rfl) (by simp only[UU,qQ];exact e12) (by simp only[UU,qQ];exact e13) ?_;intro E' X' hX' hx' f0 f5 f12 f13;simp only[SS,reduceCtorEq,reduceIte,qQ,r78_10,f13,w5];refine⟨q,_,_,by omega,⟨i+1,X',by omega,hX',hx',rfl,?_,?_,?_,?_⟩,.refl⟩
  all_goals simp only[UU,qQ,reduceIte, *]
 ·have hin:i=n:=by omega
  subst hin;have e:X=genM l k i:=zqq hX hG λs t hs ht=>by rw[hx s t hs ht,if_pos ⟨hs,ht⟩]
  subst e;simp only[r78_11,SS,reduceIte,qQ,e5];exact kR
theorem zkg(N n:Nat):∃H1 ps,zac (effs (zan [] 0) 0 (zH N n N)) (List.replicate (zH N n N).length none)=H1/\MatH H1 0 ps n (zmat N n):=
 ⟨_,_,zhs (H:=[]) (zan [] 0) (λi=>zcj 0 i) (zH N n N) [],zst [] N n⟩
theorem qpk{n:Nat}(hn:1<=n/\n<=16){I:List (List Int)}(h1:I.length=n)(h2:∀i,i<n->(I.getD i []).length=n)(h3:∀i j,i<n->j<n->ent I i j=if i=j then 1 else 0):
  Rt 73 [.int .i64 (n:Nat)] [] (.tup [matC I,.bool true]) []:=by
 refine oFw o73 ?_;simp only[c73,r73_0,r73_1,SS,fC,reduceCtorEq,reduceIte,qQ];refine⟨λ_=>⟨λh=>absurd h (by omega),λ_=>?_⟩,λh=>absurd h (by omega)⟩;simp only[r73_3,SS,reduceCtorEq,reduceIte,qQ];refine zdx (qmc hn.2 hn.2) rfl ?_;obtain⟨H1,ps,hH1,hz⟩:=zkg n n;simp only[zaf,SS,reduceIte,qQ,AV.ren,zcj,xQ,hH1];simp only[r73_4,SS,reduceIte,qQ];refine zaj (λk E H=>∃i X,i+k=n/\MatH H 0 ps n X/\X.length=n/\(∀s t,ent X s t=if s<i/\s=t then 1 else 0)/\E 4= .sl 0 0 n 1 (some n)/\E 16= .int .i64 (n:Nat)/\E 17= .int .i64 (i:Nat)) (n:=n) ⟨0,zmat n n,by omega,hz,(zjx _ _).1,λs t=>by rw[if_neg (by omega),zlu],by rfl,by rfl,by rfl⟩ ?_;rintro k E H ⟨i,X,hik,hM,hXl,hX,e4,e16,e17⟩;refine wM ?_;simp only[l73_0,r73_5,SS,reduceCtorEq,reduceIte,e16,e17];refine⟨λhlt=>?_,λhge=>?_⟩
 ·obtain⟨k,rfl⟩:∃k',k=k'+1:=⟨k-1,by omega⟩
  have hi:i<n:=by omega
  obtain⟨csk,gk,lk,rk,fk⟩:=zei hM (i:=i) (by omega);have ok:=zce (ps:=ps) (n:=n) (i:=i) (by rw[hM.len];omega);have hol:(ps.map (zcv n)).length=n:=by rw[xD,hM.len];exact hXl
  have hou:=hM.outer;obtain⟨v,hv,ts⟩:=zhb 1 (by omega) (by omega);have hv0:=hv;obtain⟨lv,cv,_,_,_,rfl⟩:=hv0;have hset:=ziy hM (i:=i) (j:=i) (by omega) hi hv gk;have w5:=wS1 i (by omega);simp only[r73_6,r73_7,SS,fC,reduceIte,qQ,e4,e17,qU,hou,hol,ok];refine⟨⟨by omega,by omega⟩,by omega,?_⟩;refine zaa ts ?_;simp only[SS,reduceIte,qV,qQ,gk,lk,qU];refine⟨⟨by omega,by omega⟩,by omega,rfl,?_⟩;simp only[r73_8,SS,reduceIte,qQ,e17,w5];refine⟨k,_,_,by omega,⟨i+1,setM X i i 1,by omega,hset,by rw[zdd];exact hXl,?_,?_,?_,?_⟩,.refl⟩
  ·intro s t;rw[zhv (by omega) (by rw[hM.cols i (by omega)];exact hi),hX];by_cases h1:s=i/\t=i
   ·rw[if_pos h1,if_pos ⟨by omega,by omega⟩]
   ·rw[if_neg h1];by_cases h2:s<i/\s=t
    ·rw[if_pos h2,if_pos ⟨by omega,h2.2⟩]
    ·rw[if_neg h2,if_neg (by omega)]
  all_goals simp only[UU,qQ,reduceIte, *]
 ·have hin:i=n:=by omega
  subst hin
  have e:X=I:=by
   refine zvg hXl h1 (λs hs=>hM.cols s (by omega)) h2 λs t hs ht=>?_
   rw[hX,h3 s t hs ht];by_cases h:s=t
   ·rw[if_pos ⟨hs,h⟩,if_pos h]
   ·rw[if_neg (λe=>h e.2),if_neg h]
  subst e;simp only[r73_9,SS,reduceIte,qQ,e4];obtain⟨v,g1,g2⟩:=zjw (cap:=some i) (b:=true) hM;rw[hXl]at g1;exact⟨.inl trivial,_,v,rfl,g1,g2⟩
theorem jhk{M:List (List Int)}{rows:List AV}{c cap:Option Nat}{n:Nat}(hn:n<=16)(hN:M.length<=16)(hl:rows.length=M.length)(hr:∀i,i<M.length->zgn (M.getD i []) (rows.getD i .junk))(hc:∀i,i<M.length->(M.getD i []).length=n)
  {i:Nat} (hi:i<M.length) {v22 v23:AV} {Q:Post} {ps:List (Nat×Option Nat)} {X0:List (List Int)} (hX0:X0.length=n)
  {E:Env} {H:Heap} (hM:MatH H 0 ps M.length X0) (e0:E 0= .vec rows M.length c) (e7:E 7= .sl 0 0 n 1 cap) (e8:E 8= .int .i64 (i:Nat)) (e22:E 22=v22) (e23:E 23=v23) (e30:E 30= .int .i64 (n:Nat)) (e31:E 31= .int .i64 0)
  (hQ:∀E' H' X,MatH H' 0 ps M.length X->X.length=n->(∀s t,ent X s t=if t=i/\s<n then ent M t s else ent X0 s t)->E' 0= .vec rows M.length c->E' 7= .sl 0 0 n 1 cap->E' 22=v22->E' 23=v23->Q (.exit 2) E' H'):
  Wg 0 51 (.loop l167_1) E H Q:=by
 refine zaj (λk E H=>∃j X,j+k=n/\MatH H 0 ps M.length X/\X.length=n/\(∀s t,ent X s t=if t=i/\s<j then ent M t s else ent X0 s t)/\E 0= .vec rows M.length c/\E 7= .sl 0 0 n 1 cap/\E 8= .int .i64 (i:Nat)/\E 22=v22/\E 23=v23/\
  E 30= .int .i64 (n:Nat)/\E 31= .int .i64 (j:Nat)) (n:=n) ⟨0,X0,by omega,hM,hX0,λs t=>by rw[if_neg (by omega)],e0,e7,e8,e22,e23,e30,e31⟩ ?_
 clear hM e0 e7 e8 e22 e23 e30 e31 E H;rintro k E H ⟨j,X,hjk,hM,hXl,hX,e0,e7,e8,e22,e23,e30,e31⟩;refine wM ?_;simp only[l167_1,r167_9,SS,reduceIte,e30,e31];refine⟨λhlt=>?_,λhge=>?_⟩
 ·obtain⟨k,rfl⟩:∃k',k=k'+1:=⟨k-1,by omega⟩
  have hj:j<n:=by omega
  obtain⟨csk,gk,lk,rk,fk⟩:=zei hM (i:=j) (by omega);have ok:=zce (ps:=ps) (n:=M.length) (i:=j) (by rw[hM.len];omega);have hol:(ps.map (zcv M.length)).length=n:=by rw[xD,hM.len];exact hXl
  have hou:=hM.outer;obtain⟨csi,ci,hei,hci⟩:=hr i hi;have hcl:=zcz hci;obtain⟨u,v,hu,hz⟩:=zfi hci j (by rw[hc i hi];exact hj);obtain⟨w,hw,ts⟩:=zsk hz;obtain⟨lz,cz,hz1,hz2⟩:=zau hz;subst hz1 hz2;have hw0:=hw;obtain⟨lv,cv,_,_,_,rfl⟩:=hw0;have hset:=ziy hM (i:=j) (j:=i) (by omega) hi hw gk;have w5:=wS1 j (by omega);simp only[r167_10,r167_11,SS,fC,reduceCtorEq,reduceIte,qQ,e0,e7,e8,e31,qU,hou,hol,ok,hl,hei,hcl,hc i hi,hu];refine⟨⟨by omega,by omega⟩,by omega,⟨by omega,by omega⟩,by omega,⟨by omega,by omega⟩,by omega,?_⟩;refine zaa ts ?_;simp only[SS,reduceIte,qV,qQ,gk,lk,qU];refine⟨⟨by omega,by omega⟩,by omega,rfl,?_⟩;simp only[r167_12,SS,reduceIte,qQ,e31,w5];refine⟨k,_,_,by omega,⟨j+1,setM X j i (ent M i j),by omega,hset,by rw[zdd];exact hXl,?_,?_,?_,?_,?_,?_,?_,?_⟩,.refl⟩
  ·intro s t;rw[zhv (by omega) (by rw[hM.cols j (by omega)];exact hi),hX];by_cases h1:s=j/\t=i
   ·rw[if_pos h1,if_pos ⟨h1.2,by omega⟩,h1.1,h1.2]
   ·rw[if_neg h1];by_cases h2:t=i/\s<j
    ·rw[if_pos h2,if_pos ⟨h2.1,by omega⟩]
    ·rw[if_neg h2,if_neg (by omega)]
  all_goals simp only[UU,qQ,reduceIte, *]
 ·have hjn:j=n:=by omega
  subst hjn;exact hQ _ _ X hM hXl hX (by exact e0) (by exact e7) (by exact e22) (by exact e23)
theorem ztk{M:List (List Int)}{a:AV}{n:Nat}(h:MatV M a)(hn:1<=n/\n<=16)(hN:1<=M.length/\M.length<=16)(hc:∀i,i<M.length->(M.getD i []).length=n)
  {T:List (List Int)} (h1:T.length=n) (h2:∀i,i<n->(T.getD i []).length=M.length) (h3:∀i j,i<n->j<M.length->ent T i j=ent M j i):
  Rt 167 [a] [] (.tup [matC T,.bool true]) []:=by
 have ts:=qde h ⟨hN.1,hN.2,λi hi=>by rw[hc i hi,hc 0 (by omega)];exact⟨hn.1,hn.2,rfl⟩⟩;rw[hc 0 (by omega)]at ts;obtain⟨rows,c,rfl,hl,hr⟩:=h;refine oFw o167 ?_;simp only[c167,r167_0,r167_1,SS,reduceCtorEq,reduceIte];refine zaa ts ?_;simp only[SS,fC,reduceIte,qQ,r167_2,r167_4,qC,qB];refine zdx (qmc hn.2 hN.2) rfl ?_;obtain⟨H1,ps,hH1,hz⟩:=zkg n M.length;simp only[zaf,SS,reduceIte,qQ,AV.ren,zcj,xQ,hH1];simp only[r167_5,SS,reduceCtorEq,reduceIte,qQ];refine zaj (λk E H=>∃i X,i+k=M.length/\MatH H 0 ps M.length X/\X.length=n/\(∀s t,ent X s t=if t<i/\s<n then ent M t s else 0)/\E 0= .vec rows M.length c/\E 7= .sl 0 0 n 1 (some n)/\E 22= .int .i64 (M.length:Nat)/\E 23= .int .i64 (i:Nat)) (n:=M.length) ⟨0,zmat n M.length,by omega,hz,(zjx _ _).1,λs t=>by rw[if_neg (by omega),zlu],by rfl,by rfl,by rfl,by rfl⟩ ?_;rintro k E H ⟨i,X,hik,hM,hXl,hX,e0,e7,e22,e23⟩;refine wM ?_;simp only[l167_0,r167_6,SS,reduceCtorEq,reduceIte,e22,e23];refine⟨λhlt=>?_,λhge=>?_⟩
 ·obtain⟨k,rfl⟩:∃k',k=k'+1:=⟨k-1,by omega⟩
  have hi:i<M.length:=by omega
  obtain⟨csi,ci,hei,hci⟩:=hr i hi;have hcl:=zcz hci;have w5:=wS1 i (by omega);simp only[r167_7,r167_8,SS,fC,reduceCtorEq,reduceIte,qQ,e0,e23,qU,hei,hl,hc i hi];refine⟨⟨by omega,by omega⟩,by omega,?_⟩;refine jhk (c:=c) (cap:=some n) hn.2 hN.2 hl hr hc hi hXl hM (by exact e0) (by exact e7) (by rfl) (by simp only[UU,qQ];exact e22) (by simp only[UU,qQ];exact e23) (by rfl) (by rfl) ?_;intro E' H' X' hM' hXl' hX' f0 f7 f22 f23;simp only[SS,reduceCtorEq,reduceIte,qQ,r167_13,f23,w5];refine⟨k,_,_,by omega,⟨i+1,X',by omega,hM',hXl',?_,?_,?_,?_,?_⟩,.refl⟩
  ·intro s t;rw[hX',hX];by_cases h1:t=i/\s<n
   ·rw[if_pos h1,if_pos ⟨by omega,h1.2⟩]
   ·rw[if_neg h1];by_cases h2:t<i/\s<n
    ·rw[if_pos h2,if_pos ⟨by omega,h2.2⟩]
    ·rw[if_neg h2,if_neg (by omega)]
  all_goals simp only[UU,qQ,reduceIte, *]
 ·have hin:i=M.length:=by omega
  subst hin
  have e:X=T:=by
   refine zvg hXl h1 (λs hs=>hM.cols s (by omega)) h2 λs t hs ht=>?_
   rw[hX,h3 s t hs ht,if_pos ⟨ht,hs⟩]
  subst e;simp only[r167_14,SS,reduceIte,qQ,e7];obtain⟨v,g1,g2⟩:=zjw (cap:=some n) (b:=true) hM;rw[hXl]at g1;exact⟨.inl trivial,_,v,rfl,g1,g2⟩
def dotS(r s:List Int):Nat->Int
 |0=>0
 |k+1=>dotS r s k+r.getD k 0*s.getD k 0
theorem mDot{r s:List Int}{a b:AV}(ha:zgn r a)(hb:zgn s b)(hl:s.length=r.length)(h16:r.length<=16)(hB:∀i,i<r.length->(r.getD i 0*s.getD i 0).natAbs<BIG)(hS:∀k,k<=r.length->(dotS r s k).natAbs<BIG):
  Rt 213 [a,b] [] (intV (dotS r s r.length)) []:=by
 obtain⟨ra,ca,rfl,hra⟩:=ha;obtain⟨sb,cb,rfl,hsb⟩:=hb;have la:=zcz hra;have lb:=zcz hsb;refine oFw o213 ?_;simp only[c213,r213_0,r213_1,r213_2,SS,reduceCtorEq,reduceIte,qV,qQ,qJ]
 refine zaj (λm E H=>∃k u v,k+m=r.length/\H=[some [AV.bool false,AV.vec [] 0 (some 0)],some [u,v]]/\zap (dotS r s k) (.agg [u,v])/\E 0= .vec ra r.length ca/\E 1= .vec sb s.length cb/\E 4= .ptr 0 0/\E 5= .ptr 1 0/\E 9= .int .i64 (r.length:Nat)/\E 10= .int .i64 (k:Nat)) (n:=r.length)
  ⟨0,_,_,by omega,rfl,zsr,by rfl,by rfl,by rfl,by rfl,by rfl,by rfl⟩ ?_
 rintro m E H ⟨k,u,v,hkm,rfl,hz,e0,e1,e4,e5,e9,e10⟩;refine wM ?_;obtain⟨lz,cz,hz1,hz2⟩:=zau hz;subst hz1 hz2;simp only[l213_0,r213_3,SS,reduceCtorEq,reduceIte,e9,e10];refine⟨λhlt=>?_,λhge=>?_⟩
 ·obtain⟨m,rfl⟩:∃m',m=m'+1:=⟨m-1,by omega⟩
  have hk:k<r.length:=by omega
  obtain⟨u1,v1,g1,hz1⟩:=zfi hra k hk;obtain⟨u2,v2,g2,hz2⟩:=zfi hsb k (by omega);obtain⟨p,hp,t1⟩:=zMul hz1 hz2 (hB k hk);obtain⟨q,hq,t2⟩:=zAdd hz hp (hS (k+1) hk);obtain⟨l1,c1,x1,y1⟩:=zau hz1;obtain⟨l2,c2,x2,y2⟩:=zau hz2;subst x1 y1 x2 y2;obtain⟨lp,cp,_,_,_,rfl⟩:=id hp;obtain⟨lq,cq,_,_,_,rfl⟩:=id hq;have w5:=wS1 k (by omega);simp only[r213_4,r213_5,SS,reduceCtorEq,reduceIte,qV,qQ,qJ,e0,e1,e5,e10,qU,g1,g2,la,lb,hl];refine⟨⟨by omega,by omega⟩,by omega,⟨by omega,by omega⟩,by omega,?_⟩;refine zaa t1 ?_;simp only[SS,reduceIte,qQ];refine zaa t2 ?_;simp only[SS,reduceIte,qV,qQ,qJ,e5];refine⟨rfl,?_⟩;simp only[r213_6,SS,reduceIte,qQ,e10,w5];refine⟨m,_,_,by omega,⟨k+1,_,_,by omega,rfl,hq,?_,?_,?_,?_,?_,?_⟩,.refl⟩
  all_goals first | (simp only[UU,qQ,reduceIte, *];done) | (simp only[UU,qQ,reduceIte, *];rw[hl])
 ·have hkr:k=r.length:=by omega
  subst hkr;simp only[r213_7,SS,reduceIte,qV,qQ,qJ,e4,e5];exact⟨.inl trivial,_,_,zfh (id:=0) (by exact e4) rfl,.drop _ _ rfl (by intro i cs h;omega),hz.wk⟩
end Go.Proofs.YtgfbaioffpcelaaGreatDoor
namespace Go.Proofs.YtgfbaioffpcelaaGreatDoor
open Go Go.AL Go.Det
section
variable{n N B A0:Nat}{M:List (List Int)}{ds:List Int}
theorem qpl(hF:FitN N B A0)(hb:Bnd A0 M)(hnN:n<=N)(h:zeu B M n=some ds)(hp:∀t,t<=n->0<lead (rowF M) t){i j:Nat}(hj:j<n):zqc B M ds i j=some (decide (SZ (rowF M) i j)):=by
 obtain⟨b,hbs⟩:=qmr (ds:=ds) hF hb (i:=i) (j:=j) (by omega);have hi:=qmp h hp hj hbs;rw[hbs];congr 1;by_cases hz:SZ (rowF M) i j
 ·rw[decide_eq_true hz];exact hi.2 hz
 ·rw[decide_eq_false hz];cases b with
  |false=>rfl
  |true=>exact absurd (hi.1 rfl) hz
theorem jdg(hF:FitN N B A0)(hb:Bnd A0 M)(hnN:n<=N)(h:zeu B M n=some ds)(hf:∀z∈ds,z.natAbs<=bndS A0 N)(hp:∀t,t<=n->0<lead (rowF M) t){i:Nat}(h0:0<i)(hi:i<n):lovO B M ds i=some (decide (LV (rowF M) i)):=by
 obtain⟨b,hbs⟩:=jbu (ds:=ds) hF hb hf (i:=i) (by omega);have hv:=jbq h hp h0 hi hbs;rw[hbs];congr 1;by_cases hz:LV (rowF M) i
 ·rw[decide_eq_true hz];exact hv.2 hz
 ·rw[decide_eq_false hz];cases b with
  |false=>rfl
  |true=>exact absurd (hv.1 rfl) hz
theorem qpm(hF:FitN N B A0)(hb:Bnd A0 M)(hnN:n<=N)(hp:∀t,t<=n->0<lead (rowF M) t){i j:Nat}(hj:j<n):lamO B M i j=some (stg (rowF M) j i j)/\(stg (rowF M) j i j).natAbs<=bndS A0 N:=by
 obtain⟨l,h1,h2⟩:=qbf hF hb (i:=i) (j:=j) (by omega);have e:=zlx (i:=i) (j:=j) (λt ht=>by have:=hp t (by omega);omega) (zhc h1).1;rw[e]at h1 h2;exact⟨h1,h2⟩
end
theorem qpn{f:Nat->Int}{n c:Nat}(h:∀t,t<n->(f t).natAbs<=c):(sumR f n).natAbs<=n*c:=by
 have:=zok (f:=f) (n:=n) (c:=(c:Int)) λt ht=>by have:=h t ht;omega
 have e:((n*c:Nat):Int)=(n:Int)*c:=by simp
 omega
theorem jdh{l d:Int}(hd:0<d):(zhf l d).natAbs<=l.natAbs+1:=by
 have h:=qmz (l:=l) (d:=d) hd;rw[Int.neg_mul]at h;have h1:2*(zhf l d*d)<=2*l+d:=by omega
 have h2:2*l-d<=2*(zhf l d*d):=by omega
 generalize zhf l d=q at*;rcases zB 0 q with hq | hq
 ·rcases(by omega:q<=l.natAbs+1\/(l.natAbs:Int)+2<=q)with e | e
  ·omega
  ·exfalso;have m:=xA e (show(0:Int)<=d by omega);have m2:(l.natAbs:Int)*1<=l.natAbs*d:=qO (by omega) (by omega);rw[jE]at m;omega
 ·rcases(by omega: -q<=l.natAbs+1\/(l.natAbs:Int)+2<= -q)with e | e
  ·omega
  ·exfalso;have m:=xA e (show(0:Int)<=d by omega);have m2:(l.natAbs:Int)*1<=l.natAbs*d:=qO (by omega) (by omega);rw[jE,Int.neg_mul]at m;omega
open Go.Proofs Go.Limb
theorem jdi(r s:List Int):∀k,dotS r s k=sumR (λt=>r.getD t 0*s.getD t 0) k:=by
 intro k
 induction k with
 |zero=>rfl
 |succ k ih=>show dotS r s k+_=sumR _ k+_;rw[ih]
structure MulB(n x y:Nat)(A B:List (List Int)):Prop where
 a:Bnd x A
 b:Bnd y B
 fit:8*(x*y)+x+y<BIG
theorem MulB.term{n x y:Nat}{A B:List (List Int)}(h:MulB n x y A B)(i j k:Nat):(ent A i k*ent B k j).natAbs<=x*y:=zeg (h.a i k) (h.b k j)
theorem MulB.bnd{n x y:Nat}{A B:List (List Int)}(h:MulB n x y A B)(hn:n<=8):Bnd (8*(x*y)) (mulM n A B):=by
 intro i j;by_cases hij:i<n/\j<n
 ·unfold mulM;rw[zbl hij.1 hij.2];have:=qpn (f:=λk=>ent A i k*ent B k j) (n:=n) (c:=x*y) λt _=>h.term i j t
  have:=xP (x*y) hn;omega
 ·rw[(zvq n A B).out (by omega)];simp
theorem jdj{n x y:Nat}{A B:List (List Int)}{ar tr:List AV}{ac tc cap:Option Nat}(hn:1<=n/\n<=8)(hM:MulB n x y A B)(hsA:Shp n A)(hal:ar.length=n)(har:∀i,i<n->zgn (A.getD i []) (ar.getD i .junk))(htl:tr.length=n)(htr:∀i,i<n->zgn ((trM n B).getD i []) (tr.getD i .junk))
  {i:Nat} (hi:i<n) {v43 v44:AV} {Q:Post} {ps:List (Nat×Option Nat)} {X0:List (List Int)} (hX0:X0.length=n)
  {E:Env} {H:Heap} (hH:MatH H 0 ps n X0) (e0:E 0= .vec ar n ac) (e9:E 9= .vec tr n tc) (e11:E 11= .sl 0 0 n 1 cap) (e12:E 12= .int .i64 (i:Nat)) (e43:E 43=v43) (e44:E 44=v44) (e48:E 48= .int .i64 (n:Nat)) (e49:E 49= .int .i64 0)
  (hQ:∀E' H' X,MatH H' 0 ps n X->X.length=n->(∀s t,ent X s t=if s=i/\t<n then ent (mulM n A B) s t else ent X0 s t)->E' 0= .vec ar n ac->E' 9= .vec tr n tc->E' 11= .sl 0 0 n 1 cap->E' 43=v43->E' 44=v44->Q (.exit 2) E' H'):
  Wg 0 70 (.loop l168_1) E H Q:=by
 refine zaj (λk E H=>∃j X,j+k=n/\MatH H 0 ps n X/\X.length=n/\(∀s t,ent X s t=if s=i/\t<j then ent (mulM n A B) s t else ent X0 s t)/\E 0= .vec ar n ac/\E 9= .vec tr n tc/\E 11= .sl 0 0 n 1 cap/\E 12= .int .i64 (i:Nat)/\E 43=v43/\E 44=v44/\
  E 48= .int .i64 (n:Nat)/\E 49= .int .i64 (j:Nat)) (n:=n) ⟨0,X0,by omega,hH,hX0,λs t=>by rw[if_neg (by omega)],e0,e9,e11,e12,e43,e44,e48,e49⟩ ?_
 clear hH e0 e9 e11 e12 e43 e44 e48 e49 E H;rintro k E H ⟨j,X,hjk,hH,hXl,hX,e0,e9,e11,e12,e43,e44,e48,e49⟩;refine wM ?_;simp only[l168_1,r168_10,SS,reduceIte,e48,e49];refine⟨λhlt=>?_,λhge=>?_⟩
 ·obtain⟨k,rfl⟩:∃k',k=k'+1:=⟨k-1,by omega⟩
  have hj:j<n:=by omega
  obtain⟨csk,gk,lk,rk,fk⟩:=zei hH (i:=i) (by omega);have ok:=zce (ps:=ps) (n:=n) (i:=i) (by rw[hH.len];omega);have hol:(ps.map (zcv n)).length=n:=by rw[xD,hH.len];exact hXl
  have hou:=hH.outer;have rA:=har i hi;have rT:=htr j hj;have lA:=hsA.row i hi;have lT:((trM n B).getD j []).length=n:=(zci n _).row j hj;have hfit:=hM.fit
  have e1:∀t,t<n->((trM n B).getD j []).getD t 0=ent B t j:=by
   intro t ht
   show ent (trM n B) j t=_
   unfold trM;rw[zbl hj ht]
  have hdot:∀m,m<=n->dotS (A.getD i []) ((trM n B).getD j []) m=sumR (λt=>ent A i t*ent B t j) m:=by
   intro m hm;rw[jdi];refine zah λt ht=>?_
   rw[e1 t (by omega)];rfl
  have hval:dotS (A.getD i []) ((trM n B).getD j []) (A.getD i []).length=ent (mulM n A B) i j:=by
   rw[lA,hdot n (qA _)];unfold mulM;rw[zbl hi hj]
  have td:=mDot rA rT (by rw[lA,lT]) (by omega) (λt ht=>by
    rw[e1 t (by omega)];have:=hM.term i j t;have e:(A.getD i []).getD t 0=ent A i t:=rfl;rw[e];omega) (λm hm=>by
    rw[hdot m (by omega)];have h1:=qpn (f:=λt=>ent A i t*ent B t j) (n:=m) (c:=x*y) λt _=>hM.term i j t
    have h2:m*(x*y)<=8*(x*y):=xP _ (by omega);omega)
  rw[hval]at td;have hbv:=hM.bnd hn.2 i j;have hiv:zap (ent (mulM n A B) i j) (intV (ent (mulM n A B) i j)):=zbv (by omega);have hv0:=hiv;obtain⟨lv,cv,hcv1,hcv2,hcv3,hev⟩:=hiv;rw[hev]at td hv0;have hset:=ziy hH (i:=i) (j:=j) (by omega) hj hv0 gk;have w5:=wS1 j (by omega);obtain⟨acs,aci,hae,hac⟩:=rA;obtain⟨tcs,tci,hte,htc⟩:=rT;rw[hae,hte]at td;simp only[r168_11,r168_12,SS,fC,reduceCtorEq,reduceIte,qQ,e0,e9,e11,e12,e49,qU,hou,hol,ok,hal,htl,hae,hte];refine⟨⟨by omega,by omega⟩,by omega,⟨by omega,by omega⟩,by omega,⟨by omega,by omega⟩,by omega,?_⟩;refine zaa td ?_;simp only[SS,reduceIte,qV,qQ,gk,lk,qU];refine⟨⟨by omega,by omega⟩,by omega,rfl,?_⟩;simp only[r168_13,SS,reduceIte,qQ,e49,w5];refine⟨k,_,_,by omega,⟨j+1,setM X i j (ent (mulM n A B) i j),by omega,hset,by rw[zdd];exact hXl,?_,?_,?_,?_,?_,?_,?_,?_,?_⟩,.refl⟩
  ·intro s t;rw[zhv (by omega) (by rw[hH.cols i (by omega)];exact hj),hX];by_cases h1:s=i/\t=j
   ·rw[if_pos h1,if_pos ⟨h1.1,by omega⟩,h1.1,h1.2]
   ·rw[if_neg h1];by_cases h2:s=i/\t<j
    ·rw[if_pos h2,if_pos ⟨h2.1,by omega⟩]
    ·rw[if_neg h2,if_neg (by omega)]
  all_goals simp only[UU,qQ,reduceIte, *]
 ·have hjn:j=n:=by omega
  subst hjn;exact hQ _ _ X hH hXl hX (by exact e0) (by exact e9) (by exact e11) (by exact e43) (by exact e44)
theorem mMul{n x y:Nat}{A B:List (List Int)}{a b:AV}(ha:Sq n A a)(hb:Sq n B b)(hM:MulB n x y A B):Rt 168 [a,b] [] (.tup [matC (mulM n A B),.bool true]) []:=by
 have hn:1<=n/\n<=8:=⟨ha.lo,ha.hi⟩
 have hfit:=hM.fit;have hsA:Shp n A:=⟨ha.len,ha.cols⟩
 have hsB:Shp n B:=⟨hb.len,hb.cols⟩
 have t1:=qde ha.mat ha.shape;rw[ha.cols 0 (by omega),ha.len]at t1;have hTs:Shp n (trM n B):=zci n _;have t2:=ztk (n:=n) hb.mat (by omega) (by rw[hb.len];omega) (λi hi=>hb.cols i (by rw[hb.len]at hi;exact hi)) (T:=trM n B) hTs.len (λi hi=>by rw[hb.len];exact hTs.row i hi) (λi j hi hj=>by unfold trM;rw[zbl hi (by rw[hb.len]at hj;exact hj)])
 have hTb:Bnd y (trM n B):=by
  intro i j;by_cases hij:i<n/\j<n
  ·unfold trM;rw[zbl hij.1 hij.2];exact hM.b j i
  ·rw[hTs.out (by omega)];simp
 have hT:MatV (trM n B) (matC (trM n B)):=zqk (zvy hTb (by omega));have c1:qX [a]=true:=by simp only[qX,ha.closed,qY]
 have c2:qX [b]=true:=by simp only[qX,hb.closed,qY]
 obtain⟨tr,tc,hte,htl,htr⟩:=hT;rw[hte]at t2;have hbl:=hb.len;obtain⟨ar,ac,hae,hal,har⟩:=ha.mat;obtain⟨br,bc,hbe,hbl2,hbr⟩:=hb.mat;subst hae hbe;rw[ha.len]at hal har t1 c1 ⊢;rw[hb.len]at t2 c2 ⊢;rw[hTs.len]at htl htr t2;refine oFw o168 ?_;simp only[c168,r168_0,r168_1,SS,reduceCtorEq,reduceIte];refine zaa t1 ?_ c1;simp only[SS,reduceIte,qQ,qC,qB];simp only[r168_2,SS,reduceIte,qQ];refine zaa t2 ?_ c2;simp only[SS,reduceIte,qQ,qC,qB];simp only[r168_3,SS,fC,reduceIte,qQ];refine⟨λhne=>absurd rfl hne,λ_=>?_⟩;simp only[r168_5,SS,reduceCtorEq,reduceIte,qQ];refine zdx (qmc (by omega) (by omega)) rfl ?_;obtain⟨H1,ps,hH1,hz⟩:=zkg n n;simp only[zaf,SS,reduceIte,qQ,AV.ren,zcj,xQ,hH1];simp only[r168_6,SS,reduceCtorEq,reduceIte,qQ]
 refine zaj (λk E H=>∃i X,i+k=n/\MatH H 0 ps n X/\X.length=n/\(∀s t,ent X s t=if s<i/\t<n then ent (mulM n A B) s t else 0)/\E 0= .vec ar n ac/\E 9= .vec tr n tc/\E 11= .sl 0 0 n 1 (some n)/\E 43= .int .i64 (n:Nat)/\E 44= .int .i64 (i:Nat)) (n:=n)
  ⟨0,zmat n n,by omega,hz,(zjx _ _).1,λs t=>by rw[if_neg (by omega),zlu],by rfl,by rfl,by rfl,by rfl,by rfl⟩ ?_
 rintro k E H ⟨i,X,hik,hH,hXl,hX,e0,e9,e11,e43,e44⟩;refine wM ?_;simp only[l168_0,r168_7,SS,reduceCtorEq,reduceIte,e43,e44];refine⟨λhlt=>?_,λhge=>?_⟩
 ·obtain⟨k,rfl⟩:∃k',k=k'+1:=⟨k-1,by omega⟩
  have hi:i<n:=by omega
  have w5:=wS1 i (by omega);simp only[r168_8,r168_9,SS,reduceIte,qQ,e9,e44];refine jdj (ar:=ar) (tr:=tr) (ac:=ac) (tc:=tc) (cap:=some n) hn hM hsA hal har htl htr hi hXl hH (by exact e0) (by exact e9) (by exact e11) (by rfl) (by simp only[UU,qQ];exact e43) (by simp only[UU,qQ];exact e44) (by rfl) (by rfl) ?_;intro E' H' X' hH' hXl' hX' f0 f9 f11 f43 f44;simp only[SS,reduceCtorEq,reduceIte,qQ,r168_14,f44,w5];refine⟨k,_,_,by omega,⟨i+1,X',by omega,hH',hXl',?_,?_,?_,?_,?_,?_⟩,.refl⟩
  ·intro s t;rw[hX',hX];by_cases h1:s=i/\t<n
   ·rw[if_pos h1,if_pos ⟨by omega,h1.2⟩]
   ·rw[if_neg h1];by_cases h2:s<i/\t<n
    ·rw[if_pos h2,if_pos ⟨by omega,h2.2⟩]
    ·rw[if_neg h2,if_neg (by omega)]
  all_goals simp only[UU,qQ,reduceIte, *]
 ·have hin:i=n:=by omega
  subst hin
  have e:X=mulM i A B:=by
   refine zvg hXl (zvq i A B).len (λs hs=>hH.cols s (by omega)) (zvq i A B).row λs t hs ht=>?_
   rw[hX,if_pos ⟨hs,ht⟩]
  subst e;simp only[r168_15,SS,reduceIte,qQ,e11];obtain⟨v,g1,g2⟩:=zjw (cap:=some i) (b:=true) hH;rw[hXl]at g1;exact⟨.inl trivial,_,v,rfl,g1,g2⟩
theorem zwk{n x y:Nat}{A B:List (List Int)}{a b:AV}(ha:Sq n A a)(hb:Sq n B b)(hM:MulB n x y A B):Rt 77 [a,b] [] (matC (mulM n A B)) []:=by
 have t1:=mMul ha hb hM;have c1:qX [a,b]=true:=by simp only[qX,ha.closed,hb.closed,qY]
 refine oF o77 ?_;simp only[c77,r77_0,r77_1,SS,reduceCtorEq,reduceIte,qQ];refine zaa t1 ?_ c1;simp only[SS,reduceIte,qQ,r77_2,qC,qB];exact dR
theorem ztl{n x y:Nat}{A U:List (List Int)}{a u:AV}(ha:Sq n A a)(hu:Sq n U u)(hbA:Bnd x A)(hbU:Bnd y U)(hf:64*(y*x*y)+8*(y*x)+x+y<BIG):Rt 76 [a,u] [] (matC (cgM n A U)) []:=by
 have hn:1<=n/\n<=8:=⟨ha.lo,ha.hi⟩
 have hTs:Shp n (trM n U):=zci n _
 have hTb:Bnd y (trM n U):=by
  intro i j;by_cases hij:i<n/\j<n
  ·unfold trM;rw[zbl hij.1 hij.2];exact hbU j i
  ·rw[hTs.out (by omega)];simp
 have t1:=ztk (n:=n) hu.mat (by omega) (by rw[hu.len];omega) (λi hi=>hu.cols i (by rw[hu.len]at hi;exact hi)) (T:=trM n U) hTs.len (λi hi=>by rw[hu.len];exact hTs.row i hi) (λi j hi hj=>by unfold trM;rw[zbl hi (by rw[hu.len]at hj;exact hj)]);have hsT:=znx hTs hn hTb (by omega);have hM1:MulB n y x (trM n U) A:=⟨hTb,hbA,by omega⟩
 have t2:=zwk hsT ha hM1;have hb1:=hM1.bnd hn.2;have hs1:=znx (zvq n (trM n U) A) hn hb1 (by omega);have e1:8*(8*(y*x)*y)=64*(y*x*y):=by rw[xZ 8,<-xZ]
 have hM2:MulB n (8*(y*x)) y (mulM n (trM n U) A) U:=⟨hb1,hbU,by omega⟩
 have t3:=zwk hs1 hu hM2;have c1:qX [u]=true:=by simp only[qX,hu.closed,qY]
 have c2:qX [matC (trM n U),a]=true:=by simp only[qX,ha.closed,hsT.closed,qY]
 have c3:qX [matC (mulM n (trM n U) A),u]=true:=by simp only[qX,hu.closed,hs1.closed,qY]
 refine oF o76 ?_;simp only[c76,r76_0,r76_1,SS,reduceCtorEq,reduceIte,qQ];refine zaa t1 ?_ c1;simp only[SS,reduceCtorEq,reduceIte,qQ,r76_2,qC,qB];refine zaa t2 ?_ c2;simp only[SS,reduceIte,qQ];refine zaa t3 ?_ c3;simp only[SS,reduceIte,qQ];exact dR
end Go.Proofs.YtgfbaioffpcelaaGreatDoor
namespace Go.Proofs.YtgfbaioffpcelaaGreatDoor
open Go Go.AL Go.Proofs Go.Limb
def idB(H:Heap)(ps:List (Nat×Option Nat))(uv:List AV):Nat->Heap
 |0=>H
 |i+1=>(idB H ps uv i).set (pid ps i) (some (setL ((getB (idB H ps uv i) (pid ps i)).getD []) (i*2) uv))
def idX(n:Nat):Nat->List (List Int)
 |0=>zmat n n
 |i+1=>setM (idX n i) i i 1
theorem zrm(n:Nat):∀i,(idX n i).length=n:=by
 intro i
 induction i with
 |zero=>exact(zjx n n).1
 |succ i ih=>show(setM _ _ _ _).length=n;rw[zdd,ih]
theorem jdk{H:Heap}{ps:List (Nat×Option Nat)}{n:Nat}{u v:AV}(h:MatH H 0 ps n (zmat n n))(hz:zap 1 (.agg [u,v])):∀i,i<=n->MatH (idB H ps [u,v] i) 0 ps n (idX n i):=by
 intro i
 induction i with
 |zero=>intro _;exact h
 |succ i ih=>
  intro hi;have hM:=ih (by omega);obtain⟨cs,gk,_⟩:=zei hM (i:=i) (by rw[zrm];omega);have:=ziy hM (i:=i) (j:=i) (by rw[zrm];omega) (by omega) hz gk
  show MatH ((idB H ps [u,v] i).set (pid ps i) (some (setL ((getB (idB H ps [u,v] i) (pid ps i)).getD []) (i*2) [u,v]))) 0 ps n (setM (idX n i) i i 1)
  rw[gk];exact this
theorem jdl{n:Nat}:∀i,i<=n->(∀s,s<n->((idX n i).getD s []).length=n)/\∀s t,ent (idX n i) s t=if s<i/\s=t then 1 else 0:=by
 intro i
 induction i with
 |zero=>intro _;exact⟨(zjx n n).2,λs t=>by rw[if_neg (by omega)];exact zlu n n s t⟩
 |succ i ih=>
  intro hi;obtain⟨h1,h2⟩:=ih (by omega);have hl:=zrm n i
  have hrow:∀s,s<n->((setM (idX n i) i i 1).getD s []).length=n:=by
   intro s hs;unfold setM;rw[qK,zW];by_cases e:i=s
   ·subst e;rw[if_pos rfl,if_pos (by omega),yI,qM];exact h1 i hs
   ·rw[if_neg e,<-qK];exact h1 s hs
  refine⟨hrow,λs t=>?_⟩
  show ent (setM (idX n i) i i 1) s t=_
  rw[zhv (by omega) (by rw[h1 i (by omega)];omega),h2];by_cases e1:s=i/\t=i
  ·rw[if_pos e1,if_pos ⟨by omega,by omega⟩]
  ·rw[if_neg e1];by_cases e2:s<i/\s=t
   ·rw[if_pos e2,if_pos ⟨by omega,e2.2⟩]
   ·rw[if_neg e2,if_neg (by omega)]
theorem jhl(n:Nat):idX n n=idM n:=by
 obtain⟨h1,h2⟩:=jdl (n:=n) n (qA _);refine zqq (n:=n) ⟨zrm n n,h1⟩ (zet n) λs t hs ht=>?_
 rw[h2,zqs hs ht];by_cases e:s=t
 ·rw[if_pos ⟨hs,e⟩,if_pos e]
 ·rw[if_neg (λx=>e x.2),if_neg e]
theorem qhn{n:Nat}(hn:1<=n/\n<=16):∃H1 ps,MatH H1 0 ps n (idM n)/\Rt 73 [.int .i64 (n:Nat)] [] (.tup [.sl 0 0 n 1 (some n),.bool true]) H1:=by
 obtain⟨H1,ps,hH1,hz⟩:=zkg n n;obtain⟨v,hv,ts⟩:=zhb 1 (by omega) (by omega);have hv0:=hv;obtain⟨lv,cv,_,_,_,rfl⟩:=hv0;have hM:=jdk hz hv;refine⟨idB H1 ps _ n,ps,by have:=hM n (qA _);rw[jhl]at this;exact this,?_⟩;refine oF o73 ?_;simp only[c73,r73_0,r73_1,SS,fC,reduceCtorEq,reduceIte,qQ];refine⟨λ_=>⟨λh=>absurd h (by omega),λ_=>?_⟩,λh=>absurd h (by omega)⟩;simp only[r73_3,SS,reduceCtorEq,reduceIte,qQ];refine zdx (qmc hn.2 hn.2) rfl ?_;simp only[zaf,SS,reduceIte,qQ,AV.ren,zcj,xQ,hH1];simp only[r73_4,SS,reduceIte,qQ];refine zaj (λk E H=>∃i,i+k=n/\H=idB H1 ps [.bool (decide ((1:Int)<0)),.vec (u32s lv) lv.length cv] i/\E 4= .sl 0 0 n 1 (some n)/\E 16= .int .i64 (n:Nat)/\E 17= .int .i64 (i:Nat)) (n:=n) ⟨0,by omega,rfl,by rfl,by rfl,by rfl⟩ ?_;rintro k E H ⟨i,hik,rfl,e4,e16,e17⟩;refine wM ?_;simp only[l73_0,r73_5,SS,reduceCtorEq,reduceIte,e16,e17];refine⟨λhlt=>?_,λhge=>?_⟩
 ·obtain⟨k,rfl⟩:∃k',k=k'+1:=⟨k-1,by omega⟩
  have hi:i<n:=by omega
  have hMi:=hM i (by omega);have hXl:=zrm n i;obtain⟨csk,gk,lk,rk,fk⟩:=zei hMi (i:=i) (by omega);have ok:=zce (ps:=ps) (n:=n) (i:=i) (by rw[hMi.len];omega);have hol:(ps.map (zcv n)).length=n:=by rw[xD,hMi.len];exact hXl
  have hou:=hMi.outer;have w5:=wS1 i (by omega);simp only[r73_6,r73_7,SS,fC,reduceIte,qQ,e4,e17,qU,hou,hol,ok];refine⟨⟨by omega,by omega⟩,by omega,?_⟩;refine zaa ts ?_;simp only[SS,reduceIte,qV,qQ,gk,lk,qU];refine⟨⟨by omega,by omega⟩,by omega,rfl,?_⟩;simp only[r73_8,SS,reduceIte,qQ,e17,w5];refine⟨k,_,_,by omega,⟨i+1,by omega,?_,?_,?_,?_⟩,.refl⟩
  ·show _=(idB H1 ps _ i).set (pid ps i) (some (setL ((getB (idB H1 ps _ i) (pid ps i)).getD []) (i*2) _))
   rw[gk];rfl
  all_goals simp only[UU,qQ,reduceIte, *]
 ·have hin:i=n:=by omega
  subst hin;simp only[r73_9,SS,reduceIte,qQ,e4];exact kR
open Go.Det
structure StepOut(n:Nat)(M:List (List Int))(out:AV):Prop where
 add:∀i j,CurA n (rowF M) i j->out= .tup [matC (zjk n M i j),.bool true]
 sw:∀i,CurS n (rowF M) i->out= .tup [matC (zkn n i),.bool true]
 none:(∀i,i<n->OKr (rowF M) i)->out= .tup [.vec [] 0 none,.bool false]
theorem qvp{n N A0:Nat}{M:List (List Int)}{ar:List AV}{ac:Option Nat}{ds:List Int}(hsq:Sq n M (.vec ar n ac))(hL:Lead BIG n M ds)(hF:FitN N BIG A0)(hb:Bnd A0 M)(hnN:n<=N)(hp:∀t,t<=n->0<lead (rowF M) t)(hds:zeu BIG M n=some ds)(hdf:∀z∈ds,z.natAbs<=bndS A0 N)
  {H2:Heap} {ps:List (Nat×Option Nat)} (hH:MatH H2 0 ps n (idM n)) {out:AV} (ho:StepOut n M out) {i:Nat} (hi:i<n) (hpre:∀s,s<i->OKr (rowF M) s) {v22 v23:AV} {E:Env} {Q:Post}
  (e0:E 0= .vec ar n ac) (e4:E 4=rowV ds) (e6:E 6= .sl 0 0 n 1 (some n)) (e8:E 8= .int .i64 (i:Nat)) (e9:E 9= .int .i64 ((i:Int)-1)) (e22:E 22=v22) (e23:E 23=v23)
  (hret:∀E' H' v,E' 2= .sl 0 0 n 1 (some n)->E' 3= .bool true->AL.Fin 0 (.tup [.sl 0 0 n 1 (some n),.bool true]) H' v []->v.wk=out->Q .ret E' H')
  (hQ:∀E',(∀l,l<i->SZ (rowF M) i l)->E' 0= .vec ar n ac->E' 4=rowV ds->E' 6= .sl 0 0 n 1 (some n)->E' 8= .int .i64 (i:Nat)->E' 22=v22->E' 23=v23->Q (.exit 2) E' H2):
  Wg 0 83 (.loop l74_1) E H2 Q:=by
 have hn:1<=n/\n<=8:=⟨hsq.lo,hsq.hi⟩
 refine zaj (λk E H=>k<=i/\(∀l,k<=l->l<i->SZ (rowF M) i l)/\H=H2/\E 0= .vec ar n ac/\E 4=rowV ds/\E 6= .sl 0 0 n 1 (some n)/\E 8= .int .i64 (i:Nat)/\E 9= .int .i64 ((k:Int)-1)/\E 22=v22/\E 23=v23) (n:=i)
  ⟨qA _,λl h1 h2=>absurd h2 (by omega),rfl,e0,e4,e6,e8,e9,e22,e23⟩ ?_
 clear e0 e4 e6 e8 e9 e22 e23 E;rintro k E H ⟨hki,hup,rfl,e0,e4,e6,e8,e9,e22,e23⟩;refine wM ?_;simp only[l74_1,r74_7,SS,reduceIte,qQ,e9];refine⟨λhge=>?_,λhlt=>?_⟩
 ·obtain⟨k,rfl⟩:∃k',k=k'+1:=⟨k-1,by omega⟩
  have e9k:((k+1:Nat):Int)-1=(k:Nat):=by omega
  rw[e9k]at e9;have hk:k<n:=by omega
  have tS:=jfq zef hsq hL hi hk (qpl hF hb hnN hds hp (i:=i) hk);have c1:qX [.vec ar n ac,rowV ds,.int .i64 (i:Nat),.int .i64 (k:Nat)]=true:=rfl;have w3:IntKind.i64.wrap ((k:Int)-1)=(k:Int)-1:=w64 (by omega) (by omega);simp only[r74_8,SS,reduceCtorEq,reduceIte,qQ,e0,e4,e8,e9,e9k];refine zaa tS ?_ c1;simp only[SS,reduceIte,qQ];by_cases hz:SZ (rowF M) i k
  ·have d1:decide (SZ (rowF M) i k)=true:=decide_eq_true hz;simp only[SS,fC,d1];simp only[r74_11,SS,reduceIte,qQ,e9,w3];refine⟨k,_,_,by omega,⟨by omega,λl h1 h2=>?_,rfl,?_,?_,?_,?_,?_,?_,?_⟩,.refl⟩
   ·rcases(by omega:l=k\/k+1<=l)with e | e
    ·rw[e];exact hz
    ·exact hup l e h2
   all_goals simp only[UU,qQ,reduceIte, *]
  ·have d1:decide (SZ (rowF M) i k)=false:=decide_eq_false hz;have hc:CurA n (rowF M) i k:=⟨hi,by omega,hpre,λl h1 h2=>hup l (by omega) h2,hz⟩
   have hout:=ho.add i k hc;obtain⟨hlam,hlb⟩:=qpm hF hb hnN hp (i:=i) (j:=k) hk;obtain⟨hdet,hlf⟩:=zhc hlam;have tL:=qax zef hsq hi hk hdet hlf;have hli:=zbv (z:=stg (rowF M) k i k) hlf;have tM:=zyd zef hL hn.2 (k:=k+1) (by omega);have hmin:zdb ds (k+1)=lead (rowF M) (k+1):=zhe hds hp (by omega);have hmi:=zbv (zne zef hL (k+1));rw[hmin]at tM hmi;have hdp:=hp (k+1) (by omega);obtain⟨q,hq,tQ⟩:=qnd hli hmi hdp;have hmb:=zjc hF hdf (k+1);rw[hmin]at hmb;have hfit:=hF.fit;have hsq1:=yS (bndS A0 N) (zlz hF.one N);obtain⟨w,hw,tN⟩:=quc hq hdp (by omega);obtain⟨x,hx,tG⟩:=zNeg hw;obtain⟨csk,gk,lk,rk,fk⟩:=zei hH (i:=k) (by rw[(zet n).len];exact hk);have ok:=zce (ps:=ps) (n:=n) (i:=k) (by rw[hH.len,(zet n).len];exact hk);have hol:(ps.map (zcv n)).length=n:=by rw[xD,hH.len];exact(zet n).len
   have hou:=hH.outer;have hx0:=hx;obtain⟨lx,cx,_,_,_,rfl⟩:=hx0;have hset:=ziy hH (i:=k) (j:=i) (by rw[(zet n).len];exact hk) hi hx gk;have eU:setM (idM n) k i (-(zhf (stg (rowF M) k i k) (lead (rowF M) (k+1))))=zjk n M i k:=rfl;rw[eU]at hset;have hUl:(zjk n M i k).length=n:=(qec (c:= -(zhf (stg (rowF M) k i k) (lead (rowF M) (k+1)))) (i:=i) hk).len;obtain⟨a1,a2,b1,b2,rfl,p1,p2⟩:=id hq;obtain⟨_,_,y1,y2⟩:=zau p1;obtain⟨_,_,y3,y4⟩:=zau p2;subst y1 y2 y3 y4;obtain⟨lw,cw,_,_,_,hew⟩:=id hw;subst hew;have w6:=wS1 k (by omega);have cL:qX [.vec ar n ac,.int .i64 (i:Nat),.int .i64 (k:Nat)]=true:=rfl;have cM:qX [rowV ds,.int .i64 ((k+1:Nat):Int)]=true:=rfl;have cQ:qX [intV (stg (rowF M) k i k),intV (lead (rowF M) (k+1))]=true:=by simp only[qX,hli.closed,hmi.closed,qY]
   simp only[SS,fC,d1];simp only[r74_9,SS,fC,reduceCtorEq,reduceIte,qQ,e0,e6,e8,e9,qU,hou,hol,ok];refine⟨⟨by omega,by omega⟩,by omega,?_⟩;refine zaa tL ?_ cL hli.closed;simp only[SS,reduceIte,qQ,e4,e9,w6];refine zaa tM ?_ cM hmi.closed;simp only[SS,reduceIte,qQ];refine zaa tQ ?_ cQ;simp only[SS,reduceIte,qQ];refine zaa tN ?_;simp only[SS,reduceIte,qQ];refine zaa tG ?_;simp only[SS,reduceIte,qV,qQ,gk,lk,qU];refine⟨⟨by omega,by omega⟩,by omega,rfl,?_⟩;simp only[r74_10,SS,reduceIte,qQ,e6];obtain⟨v,g1,g2⟩:=zjw (cap:=some n) (b:=true) hset;rw[hUl]at g1;exact hret _ _ v (by rfl) (by rfl) g1 (by rw[g2,hout])
 ·have hk0:k=0:=by omega
  subst hk0;exact hQ _ (λl hl=>hup l (xE _) hl) (by exact e0) (by exact e4) (by exact e6) (by exact e8) (by exact e22) (by exact e23)
theorem jdm{n N A0:Nat}{M:List (List Int)}{a out:AV}{ds:List Int}(hsq:Sq n M a)(hF:FitN N BIG A0)(hb:Bnd A0 M)(hnN:n<=N)(hp:∀t,t<=n->0<lead (rowF M) t)(ho:StepOut n M out):Rt 74 [a] [] out []:=by
 have hn:1<=n/\n<=8:=⟨hsq.lo,hsq.hi⟩
 obtain⟨ds,hds,hdf⟩:=zvm hF hb n hnN;have hds':zpz BIG M=some ds:=by unfold zpz;rw[hsq.len];exact hds
 have hL:=jaz hsq hds';have t1:=qdm zef hsq hds';obtain⟨H0,ps0,hM0,t2⟩:=qhn (n:=n) (by omega);have hM2:=zlq (H:=[]) hM0;have hH2:zac (effs (zan [] 0) 0 H0) (List.replicate H0.length none)=H0.map (renB (zan [] 0)):=zhs (H:=[]) (zan [] 0) (λi=>zcj 0 i) H0 [];simp only[xY,xK]at hM2;have c1:qX [a]=true:=by simp only[qX,hsq.closed,qY]
 obtain⟨ar,ac,hae,hal,har⟩:=hsq.mat;subst hae;rw[hsq.len]at hsq t1 c1 ⊢;refine oFw o74 ?_;simp only[c74,r74_0,r74_1,SS,reduceCtorEq,reduceIte];refine zaa t1 ?_ c1;simp only[SS,reduceIte,qQ,qC,qB];simp only[r74_2,SS,reduceCtorEq,reduceIte,qQ];refine zdx t2 rfl ?_;simp only[zaf,SS,reduceIte,qQ,AV.ren,AV.ren.renL,zcj,xQ,hH2,qC,qB];generalize H0.map (renB (zan [] 0))=H2 at*;generalize (ps0.map λp=>(0+p.1,p.2))=ps at*;simp only[r74_3,SS,reduceCtorEq,reduceIte,qQ]
 have hret:∀E' H' v,E' 2= .sl 0 0 n 1 (some n)->E' 3= .bool true->AL.Fin 0 (.tup [.sl 0 0 n 1 (some n),.bool true]) H' v []->v.wk=out->∃v' v'',resA Tryz.prog [.tmp 2,.tmp 3] E' H'=some v'/\AL.Fin 0 v' H' v'' []/\v''.wk=out:=by
  intro E' H' v f2 f3 g gw;refine⟨.tup [.sl 0 0 n 1 (some n),.bool true],v,?_,g,gw⟩;simp only[resA,zeh,yE,zN,f2,f3];rfl
 refine zaj (λk E H=>∃i,i+k=n/\H=H2/\E 0= .vec ar n ac/\E 4=rowV ds/\E 6= .sl 0 0 n 1 (some n)/\E 22= .int .i64 (n:Nat)/\E 23= .int .i64 (i:Nat)/\∀s,s<i->OKr (rowF M) s) (n:=n)
  ⟨0,by omega,rfl,by rfl,by rfl,by rfl,by rfl,by rfl,λs hs=>absurd hs (by omega)⟩ ?_
 rintro k E H ⟨i,hik,rfl,e0,e4,e6,e22,e23,hpre⟩;refine wM ?_;simp only[l74_0,r74_4,SS,reduceCtorEq,reduceIte,e22,e23];refine⟨λhlt=>?_,λhge=>?_⟩
 ·obtain⟨k,rfl⟩:∃k',k=k'+1:=⟨k-1,by omega⟩
  have hi:i<n:=by omega
  have w5:=wS1 i (by omega);have w3:IntKind.i64.wrap ((i:Int)-1)=(i:Int)-1:=w64 (by omega) (by omega);simp only[r74_5,r74_6,SS,reduceIte,qQ,e23,w3];refine qvp (ar:=ar) (ac:=ac) hsq hL hF hb hnN hp hds hdf hM2 ho hi hpre (by exact e0) (by exact e4) (by exact e6) (by rfl) (by rfl) (by simp only[UU,qQ];exact e22) (by simp only[UU,qQ];exact e23) ?_ ?_
  ·intro E' H' v f2 f3 g gw;simp only[SS,reduceCtorEq];exact⟨.inl trivial,hret E' H' v f2 f3 g gw⟩
  intro E' hSZ f0 f4 f6 f8 f22 f23;rcases xH i with h0 | h0
  ·have d0:decide ((0:Int)<(i:Nat))=false:=dF;simp only[SS,fC,reduceCtorEq,reduceIte,qQ,r74_12,f0,f4,f8,d0];simp only[r74_15,SS,reduceIte,qQ,f23,w5];refine⟨k,_,_,by omega,⟨i+1,by omega,rfl,?_,?_,?_,?_,?_,λs hs=>?_⟩,.refl⟩
   ·simp only[UU,qQ, *]
   ·simp only[UU,qQ, *]
   ·simp only[UU,qQ, *]
   ·simp only[UU,qQ, *]
   ·simp only[UU,qQ,reduceIte, *]
   ·rcases(by omega:s<i\/s=i)with e | e
    ·exact hpre s e
    ·rw[e];exact⟨hSZ,λh=>absurd h (by omega)⟩
  ·have d0:decide ((0:Int)<(i:Nat))=true:=dT;have tV:=jba zef hsq hL h0 hi (jdg hF hb hnN hds hdf hp h0 hi);simp only[SS,fC,reduceCtorEq,reduceIte,qQ,r74_12,f0,f4,f8,d0];refine zaa tV ?_;by_cases hv:LV (rowF M) i
   ·have d1:decide (LV (rowF M) i)=true:=decide_eq_true hv;simp only[SS,fC,reduceIte,qQ,d1];simp only[r74_15,SS,reduceIte,qQ,f23,w5];refine⟨k,_,_,by omega,⟨i+1,by omega,rfl,?_,?_,?_,?_,?_,λs hs=>?_⟩,.refl⟩
    ·simp only[UU,qQ, *]
    ·simp only[UU,qQ, *]
    ·simp only[UU,qQ, *]
    ·simp only[UU,qQ, *]
    ·simp only[UU,qQ,reduceIte, *]
    ·rcases(by omega:s<i\/s=i)with e | e
     ·exact hpre s e
     ·rw[e];exact⟨hSZ,λ_=>hv⟩
   ·have d1:decide (LV (rowF M) i)=false:=decide_eq_false hv;have hc:CurS n (rowF M) i:=⟨hi,h0,hpre,hSZ,hv⟩
    have hout:=ho.sw i hc;have hIl:=(zet n).len;have o1:=zce (ps:=ps) (n:=n) (i:=i) (by rw[hM2.len,hIl];exact hi);have o2:=zce (ps:=ps) (n:=n) (i:=i-1) (by rw[hM2.len,hIl];omega);have hol:(ps.map (zcv n)).length=n:=by rw[xD,hM2.len];exact hIl
    have hou:=hM2.outer;have w7:(i:Int)-1=((i-1:Nat):Int):=by omega
    have w8:IntKind.i64.wrap ((i-1:Nat):Int)=((i-1:Nat):Int):=w64 (by omega) (by omega);have hlt0:=zam hou;have hsw:=(qdh hM2 (p:=i) (k:=i-1) (by rw[hIl];exact hi) (by rw[hIl];omega)).1;have hUl:(zec (idM n) i (i-1)).length=n:=(zjz (zet n) hi (by omega)).1.len;simp only[SS,fC,reduceIte,qQ,d1];simp only[r74_13,SS,fC,reduceIte,qQ,f6,f8,w7,w8,qU,hou,hol,o1,o2,zaw hlt0,qM,List.set_set];refine⟨⟨by omega,by omega⟩,by omega,⟨by omega,by omega⟩,by omega,⟨by omega,by omega⟩,by omega,⟨by omega,by omega⟩,by omega,rfl,?_⟩;simp only[r74_14,SS,reduceIte,qQ,f6];obtain⟨v,g1,g2⟩:=zjw (cap:=some n) (b:=true) hsw;rw[hUl]at g1;exact⟨.inl trivial,hret _ _ v (by rfl) (by rfl) g1 (by rw[g2,hout];rfl)⟩
 ·have hin:i=n:=by omega
  subst hin;have hout:=ho.none hpre;simp only[r74_16,SS];exact⟨.inl trivial,_,_,rfl,.drop _ _ rfl (by intro i cs h;omega),by rw[hout];rfl⟩
end Go.Proofs.YtgfbaioffpcelaaGreatDoor
namespace Go.Proofs.YtgfbaioffpcelaaGreatDoor
open Go Go.AL Go.Proofs Go.Limb
theorem qyc{z:Int}{a:AV}(ha:zap z a)(hz:In64 z):Rt 93 [a] [] (.tup [.int .i64 z,.bool true]) []:=by
 obtain⟨z1,z2⟩:=hz;obtain⟨l,ca,hc,hl,hv,rfl⟩:=ha;obtain⟨c1,t1⟩:=znw l ca (by omega);have k1:=zbc hc.1;have kv:=(zbp l).trans hv;generalize zbi l=m at*;have hm2:=zhr k1 (by omega);have t2:=zlow m c1 k1.1 (by omega);rw[qG hm2,kv]at t2;have d1:decide ((2:Int)<(m.length:Nat))=false:=dF;by_cases hn:z<0
 ·have e1:decide (z<0)=true:=decide_eq_true hn;have d2:decide ((z.natAbs:Int)<=9223372036854775808)=true:=dT
  have w1:IntKind.i64.wrap (IntKind.u64.wrap (0-(z.natAbs:Int)))=z:=by
   simp[IntKind.wrap,IntKind.bits,IntKind.signed];omega
  refine oF o93 ?_;simp only[c93,r93_0,r93_1,SS,fC,reduceCtorEq,reduceIte,qV,qQ,qJ,e1];refine zaa t1 ?_;simp only[SS,reduceIte,qQ];simp only[r93_2,SS,reduceIte,qQ];refine zaa t2 ?_;simp only[SS,reduceIte,qQ];simp only[r93_3,SS,fC,reduceIte,qQ,d1];simp only[r93_5,SS,fC,reduceIte,qV,qQ,qJ,d2];simp only[r93_6,SS,reduceIte,qQ,w1];exact dR
 ·have e1:decide (z<0)=false:=decide_eq_false hn;have d2:decide ((z.natAbs:Int)<9223372036854775808)=true:=dT
  have w1:IntKind.i64.wrap (z.natAbs:Int)=z:=by
   rw[show(z.natAbs:Int)=z by omega];exact w64 z1 z2
  refine oF o93 ?_;simp only[c93,r93_0,r93_1,SS,fC,reduceCtorEq,reduceIte,qV,qQ,qJ,e1];refine zaa t1 ?_;simp only[SS,reduceIte,qQ];simp only[r93_2,SS,reduceIte,qQ];refine zaa t2 ?_;simp only[SS,reduceIte,qQ];simp only[r93_3,SS,fC,reduceIte,qQ,d1];simp only[r93_5,SS,fC,reduceIte,qV,qQ,qJ];simp only[r93_7,SS,fC,reduceIte,qV,qQ,qJ,d2];simp only[r93_8,SS,reduceIte,qQ,w1];exact dR
theorem jhm{n:Nat}{M:List (List Int)}{rows:List AV}{c:Option Nat}(hn:1<=n/\n<=8)(hS:Shp n M)(hl:rows.length=n)(hr:∀i,i<n->zgn (M.getD i []) (rows.getD i .junk))(hf:∀i j,In64 (ent M i j)){i:Nat}(hi:i<n){rs:List (List Int)}(hrl:rs.length=i+1)(hr0:(rs.getD i []).length=n){E:Env}{Q:Post}
  (e0:E 0= .vec rows n c) (e5:E 5= .int .i64 (n:Nat)) (e7:E 7= .sl 0 0 n 1 (some n)) (e8:E 8= .int .i64 (i:Nat)) (e23:E 23= .int .i64 (n:Nat)) (e24:E 24= .int .i64 (i:Nat)) (e36:E 36= .int .i64 (n:Nat)) (e37:E 37= .int .i64 0)
  (hQ:∀E' r,r.length=n->(∀j,j<n->r.getD j 0=ent M i j)->E' 0= .vec rows n c->E' 5= .int .i64 (n:Nat)->E' 7= .sl 0 0 n 1 (some n)->E' 23= .int .i64 (n:Nat)->E' 24= .int .i64 (i:Nat)->Q (.exit 2) E' (bH n n (rs.set i r))):
  Wg 0 63 (.loop l75_1) E (bH n n rs) Q:=by
 refine zaj (λk E H=>∃j r,j+k=n/\r.length=n/\(∀t,t<j->r.getD t 0=ent M i t)/\H=bH n n (rs.set i r)/\E 0= .vec rows n c/\E 5= .int .i64 (n:Nat)/\E 7= .sl 0 0 n 1 (some n)/\E 8= .int .i64 (i:Nat)/\E 23= .int .i64 (n:Nat)/\E 24= .int .i64 (i:Nat)/\
  E 36= .int .i64 (n:Nat)/\E 37= .int .i64 (j:Nat)) (n:=n)
  ⟨0,rs.getD i [],by omega,hr0,λt ht=>absurd ht (by omega),?_,e0,e5,e7,e8,e23,e24,e36,e37⟩ ?_
 ·congr 1;refine xT (by simp) λt h1 h2=>?_
  rw[zY];split
  ·rename_i e;subst e;rw[qK,qE h1];rfl
  ·rfl
 clear e0 e5 e7 e8 e23 e24 e36 e37 E;rintro k E H ⟨j,r,hjk,hrm,hr',rfl,e0,e5,e7,e8,e23,e24,e36,e37⟩;refine wM ?_;simp only[l75_1,r75_10,SS,reduceIte,e36,e37];refine⟨λhlt=>?_,λhge=>?_⟩
 ·obtain⟨k,rfl⟩:∃k',k=k'+1:=⟨k-1,by omega⟩
  have hj:j<n:=by omega
  have lM:=hS.row i hi;obtain⟨csi,ci,hei,hci⟩:=hr i hi;have hcl:=zcz hci;obtain⟨u,v,hu,hz⟩:=zfi hci j (by omega);obtain⟨lz,cz,hz1,hz2⟩:=zau hz;subst hz1 hz2;have ts:=qyc hz (hf i j);have w5:=wS1 j (by omega);have hset:(rs.set i r).length=i+1:=by simp[hrl]
  have gr:=zgq (N:=n) (n:=n) (i:=i) (rows:=rs.set i r) (by omega);have gri:(rs.set i r).getD i []=r:=by rw[qK,zD (by omega)];rfl
  rw[gri]at gr;have go:getB (bH n n (rs.set i r)) 0=some (outS n n (i+1)):=by rw[zen,hset]
  have gol:=zfl (N:=n) (n:=n) (i:=i+1) (by omega);have gog:=zfm (N:=n) (n:=n) (i:=i+1) (k:=i) (by omega);have hent:(M.getD i []).getD j 0=ent M i j:=rfl;rw[hent]at ts;simp only[r75_11,r75_12,SS,fC,reduceCtorEq,reduceIte,qQ,e0,e8,e37,qU,hl,hei,hcl,lM,hu];refine⟨⟨by omega,by omega⟩,by omega,⟨by omega,by omega⟩,by omega,?_⟩;refine zaa ts ?_;simp only[SS,reduceIte,qQ,qC,qB];simp only[r75_13,SS,fC,reduceIte,qQ];simp only[r75_15,SS,fC,reduceIte,qQ,e7,e8,qU,go,gol,gog,gr,hrm,zbe,zdi];refine⟨⟨by omega,by omega⟩,by omega,⟨by omega,by omega⟩,by omega,?_⟩;simp only[r75_16,SS,reduceIte,qQ,e37,w5,zii];refine⟨k,_,_,by omega,⟨j+1,r.set j (ent M i j),by omega,by simp[hrm],λt ht=>?_,?_,?_,?_,?_,?_,?_,?_,?_,?_⟩,.refl⟩
  ·rw[qK];rcases(by omega:t<j\/t=j)with e | e
   ·rw[List.getElem?_set_ne (by omega),<-qK];exact hr' t e
   ·rw[e,zD (by omega)];rfl
  ·rw[List.set_set]
  all_goals simp only[UU,qQ,reduceIte, *]
 ·have hjm:j=n:=by omega
  subst hjm;exact hQ _ r hrm hr' (by exact e0) (by exact e5) (by exact e7) (by exact e23) (by exact e24)
theorem jdn{n:Nat}{M:List (List Int)}{a:AV}(h:Sq n M a)(hf:∀i j,In64 (ent M i j)):Rt 75 [a] [] (.tup [.vec (zbt n M) n (some n),.bool true]) []:=by
 have hn:1<=n/\n<=8:=⟨h.lo,h.hi⟩
 have hS:Shp n M:=⟨h.len,h.cols⟩
 have t1:=qde h.mat h.shape;rw[h.cols 0 (by omega),h.len]at t1;have c1:qX [a]=true:=by simp only[qX,h.closed,qY]
 obtain⟨rows,c,hae,hl,hr⟩:=h.mat;subst hae;rw[h.len]at hl hr t1 c1 ⊢;have hTl:=hS.len;refine oF o75 ?_;simp only[c75,r75_0,r75_1,SS,reduceCtorEq,reduceIte];refine zaa t1 ?_ c1;simp only[SS,reduceIte,qQ,qC,qB];simp only[r75_2,SS,fC,reduceIte,qQ];simp only[r75_4,SS,reduceIte,qQ,qU];refine⟨by decide,⟨by omega,by omega,by omega,by omega⟩,?_⟩;simp only[r75_5,SS,reduceIte,qQ];have hb0:[some (List.replicate n (AV.vec [] 0 (some 0)))]=bH n n []:=rfl;rw[hb0]
 refine zaj (λk E H=>∃i,i+k=n/\H=bH n n (M.take i)/\E 0= .vec rows n c/\E 5= .int .i64 (n:Nat)/\E 7= .sl 0 0 n 1 (some n)/\E 23= .int .i64 (n:Nat)/\E 24= .int .i64 (i:Nat)) (n:=n)
  ⟨0,by omega,rfl,by rfl,by rfl,by rfl,by rfl,by rfl⟩ ?_
 rintro k E H ⟨i,hik,rfl,e0,e5,e7,e23,e24⟩;refine wM ?_;simp only[l75_0,r75_6,SS,reduceCtorEq,reduceIte,e23,e24];refine⟨λhlt=>?_,λhge=>?_⟩
 ·obtain⟨k,rfl⟩:∃k',k=k'+1:=⟨k-1,by omega⟩
  have hi:i<n:=by omega
  have htl:(M.take i).length=i:=by rw[xG];omega
  have w5:=wS1 i (by omega);have hbl:(bH n n (M.take i)).length=i+1:=by rw[qee,htl]
  have go:getB (bH n n (M.take i)++[some (i64z (List.replicate n 0))]) 0=some (outS n n i):=by
   have:getB (bH n n (M.take i)) 0=some (outS n n i):=by rw[zen,htl]
   exact this
  have gol:=zfl (N:=n) (n:=n) (i:=i) (by omega);have hnew:=qef (N:=n) (n:=n) (rows:=M.take i) (List.replicate n 0) (by omega);rw[htl]at hnew;simp only[r75_7,r75_8,SS,reduceIte,qQ,e5,e7,e24,qU,hbl,zkd,go,gol];refine⟨by decide,⟨by omega,by omega,by omega,by omega⟩,⟨by omega,by omega⟩,by omega,?_⟩;rw[hnew];have hrl:(M.take i++[List.replicate n 0]).length=i+1:=by simp;omega
  have hg0:getB (bH n n (M.take i++[List.replicate n 0])) 0=some (outS n n (i+1)):=by rw[zen,hrl]
  have hgl:=zfl (N:=n) (n:=n) (i:=i+1) (by omega);have hgg:=zfm (N:=n) (n:=n) (i:=i+1) (k:=i) (by omega);simp only[r75_9,SS,fC,reduceIte,qQ,e7,qU,hg0,hgl,hgg];refine⟨⟨by omega,by omega⟩,by omega,?_⟩;refine jhm (rows:=rows) (c:=c) hn hS hl hr hf hi (rs:=M.take i++[List.replicate n 0]) hrl ?_ (by exact e0) (by exact e5) (by exact e7) (by rfl) (by exact e23) (by exact e24) (by rfl) (by rfl) ?_
  ·rw[qK,qI (by omega),htl,qN];simp
  intro E' r hrm hr' f0 f5 f7 f23 f24
  have er:r=M.getD i []:=by
   have hTi:=hS.row i hi;refine xT (by omega) λt h1 h2=>?_
   have h3:=hr' t (by omega);unfold ent at h3;rw[qK,qE h1,qK (l:=M.getD i []),qE h2]at h3;exact h3
  have eset:(M.take i++[List.replicate n 0]).set i r=M.take (i+1):=by
   rw[qL _ _ (by omega),htl,qN,er];rw[zZ,qK,qE (by omega)];rfl
  rw[eset];simp only[r75_17,SS,reduceCtorEq,reduceIte,qQ,f24,w5];refine⟨k,_,_,by omega,⟨i+1,by omega,rfl,?_,?_,?_,?_,?_⟩,.refl⟩
  all_goals simp only[UU,qQ,reduceIte, *]
 ·have hin:i=n:=by omega
  have htl:M.take i=M:=qG (by omega);rw[htl];simp only[r75_18,SS,reduceIte,qQ,e7];have this:=qnl (N:=n) (n:=n) (rows:=M) hS.len hS.row
  have key:frzI 0 (bH n n M) 4 (.tup [.sl 0 0 n 1 (some n),.bool true])=some (.tup [.vec (zbt n M) n (some n),.bool true]):=by
   rw[frzI];simp only[yE,zN,this];rfl
  exact⟨.inl trivial,.tup [.sl 0 0 n 1 (some n),.bool true],rfl,.freeze 4 _ _ _ key (by intro i cs h;omega)⟩
end Go.Proofs.YtgfbaioffpcelaaGreatDoor
namespace Go.Proofs.YtgfbaioffpcelaaGreatDoor
open Go Go.AL Go.Det Go.Limb
def qvq:Nat:=2^3000
def qyd:Nat:=2^12000
def znr:Nat:=2^12001
def qpo:Nat:=2^30000
structure WB(n:Nat)(c:Int):Prop where
 one:1<=c
 fit:FitN n BIG (bigK (c^n) (8*c^n)).toNat
 vec:vecB (c^n) (8*c^n) (bigK (c^n) (8*c^n)) 7<=((qvq:Nat):Int)
 bnd:(bndS (bigK (c^n) (8*c^n)).toNat n:Int)<=((qyd:Nat):Int)
 big:bigK (c^n) (8*c^n)<=2^800
theorem wb16{n:Nat}(h1:1<=n)(h5:n<=5):WB n 16:=by
 rcases(by omega:n=1\/n=2\/n=3\/n=4\/n=5)with rfl | rfl | rfl | rfl | rfl<;>
  exact⟨by decide +kernel,⟨by decide +kernel,by decide +kernel⟩,by decide +kernel,by decide +kernel,by decide +kernel⟩
theorem wb46{n:Nat}(h1:1<=n)(h3:n<=3):WB n 70368744177664:=by
 rcases(by omega:n=1\/n=2\/n=3)with rfl | rfl | rfl<;>
  exact⟨by decide +kernel,⟨by decide +kernel,by decide +kernel⟩,by decide +kernel,by decide +kernel,by decide +kernel⟩
theorem jdo{x y a b B:Nat}(hx:x<=a)(hy:y<=b)(h:64*(b*a*b)+8*(b*a)+a+b<B):64*(y*x*y)+8*(y*x)+x+y<B:=by
 have h1:=qS hy hx;have h2:=qS h1 hy;omega
theorem jdp{x y a b B:Nat}(hx:x<=a)(hy:y<=b)(h:8*(a*b)+a+b<B):8*(x*y)+x+y<B:=by
 have h1:=qS hx hy;omega
theorem jhn{x y:Nat}(hx:x<=2^800)(hy:y<=znr):64*(y*x*y)+8*(y*x)+x+y<BIG:=jdo hx hy (by decide +kernel)
theorem jho{x y:Nat}(hx:x<=qvq)(hy:y<=znr):8*(x*y)+x+y<BIG:=jdp hx hy (by decide +kernel)
theorem jhp:qyd+1<=znr:=by decide +kernel
theorem jhq:qvq<qpo:=by decide +kernel
theorem jdq:znr<qpo:=by decide +kernel
theorem qvr:1<=znr:=by decide +kernel
theorem qye:qpo<BIG:=by decide +kernel
open Go.Proofs
theorem zyx{n:Nat}{M:List (List Int)}(h:∀i,i<n->OKr (rowF M) i):StepOut n M (.tup [.vec [] 0 none,.bool false]):=
 ⟨λi j c=>absurd ((h i c.hi).1 j c.hj) c.no,λi c=>absurd ((h i c.hi).2 c.h0) c.no,λ_=>rfl⟩
theorem qcc{n i j:Nat}{M:List (List Int)}(h:CurA n (rowF M) i j):StepOut n M (.tup [matC (zjk n M i j),.bool true]):=
 ⟨λi' j' c=>by obtain⟨rfl,rfl⟩:=qvh h c;rfl,λi' c=>(qxu h c).elim,λhk=>absurd ((hk i h.hi).1 j h.hj) h.no⟩
theorem qho{n i:Nat}{M:List (List Int)}(h:CurS n (rowF M) i):StepOut n M (.tup [matC (zkn n i),.bool true]):=
 ⟨λi' j' c=>(qxu c h).elim,λi' c=>by obtain rfl:=qvi h c;rfl,λhk=>absurd ((hk i h.hi).2 h.h0) h.no⟩
theorem jdr{H:Heap}{o n:Nat}{ps:List (Nat×Option Nat)}{M:List (List Int)}{cap:Option Nat}(h:MatH H o ps n M):∃vs,frzI 0 H 3 (.sl o 0 M.length 1 cap)=some (.vec vs M.length cap)/\MatV M (.vec vs M.length cap):=by
 obtain⟨vs,h1,h2,h3⟩:=zve (zvh h);have hl:=h.len;refine⟨vs,?_,⟨vs,cap,rfl,h2,h3⟩⟩;rw[frzI];simp only[yZ,if_false,h.outer,need,qH,yR,xD,hl,qA,if_true,xS];rw[qG (by simp[hl]),h1];rfl
theorem qyf{n y:Nat}(hy:1<=y):Bnd y (idM n):=by
 intro i j;by_cases h:i<n/\j<n
 ·rw[zqs h.1 h.2];split<;>simp<;>omega
 ·rw[(zet n).out (by omega)];simp
theorem qvs{n y i j:Nat}{M:List (List Int)}(hj:j<n)(hi:i<n)(hy:1<=y)(hc:(zhf (stg (rowF M) j i j) (lead (rowF M) (j+1))).natAbs<=y):Bnd y (zjk n M i j):=by
 intro s t;unfold zjk addU;rw[(zet n).ent_set hj hi];split
 ·rw[Int.natAbs_neg];exact hc
 ·exact qyf hy s t
theorem qvt{n y i:Nat}(hi:i<n)(hy:1<=y):Bnd y (zkn n i):=by
 intro s t;unfold zkn;rw[(zjz (zet n) hi (by omega)).2];exact qyf hy _ _
theorem qvu{n i j:Nat}{M:List (List Int)}(hj:j<n):Shp n (zjk n M i j):=qec hj
theorem qpp{n i:Nat}(hi:i<n):Shp n (zkn n i):=(zjz (zet n) hi (by omega)).1
theorem zml{n:Nat}{c:Int}{M0 M T:List (List Int)}(h8:n<=8)(hW:WB n c)(hK1:(1:Int)<=8*c^n)(hp:Pos n (c^n) (rowF M0))(ha:∀s,s<n->ent M0 s s<=8*c^n)(hL:LState n (c^n) (8*c^n) M0 M T):
  Bnd (bigK (c^n) (8*c^n)).toNat M/\Bnd qvq T:=by
 obtain⟨b1,b2⟩:=hL.bound h8 hK1 hp ha (qow (n:=n) (rowF M));have hv2:=hW.vec;refine⟨λi j=>?_,λi j=>?_⟩
 ·by_cases h:i<n/\j<n
  ·have:=b1 i j h.1 h.2;omega
  ·rw[hL.shM.out (by omega)];simp
 ·by_cases h:i<n/\j<n
  ·have:=b2 i j h.1 h.2;omega
  ·rw[hL.shT.out (by omega)];simp
theorem qey{n:Nat}{c:Int}{M0:List (List Int)}{a:AV}(hsq:Sq n M0 a)(hW:WB n c)(hpos:Pos n (c^n) (rowF M0))(hac:∀s,s<n->ent M0 s s<=c)(hd:lead (rowF M0) n<=10000):
  ∃k M' T',Ends n M' T' k M0 (idM n)/\lead (rowF M') n=lead (rowF M0) n/\Red n (rowF M')/\LState n (c^n) (8*c^n) M0 M' T'/\Rt 21 [a] [] (.tup [.vec (zbt n M') n (some n),matC T',.int .i64 0]) []:=by
 have h1:=hsq.lo;have h8:=hsq.hi;have hc1:=hW.one;obtain⟨k0,M',T',hE,hst,hend,hred,hdet⟩:=jcx h1 h8 hc1 ⟨hsq.len,λi hi=>hsq.cols i hi⟩ hpos hac hd;refine⟨k0,M',T',hE,hdet,hred,hend,?_⟩
 have hK1:(1:Int)<=8*c^n:=by
  have:=hpos.pos 0 (by omega);have:=hpos.le 0 (by omega);omega
 have ha:∀s,s<n->ent M0 s s<=8*c^n:=λs hs=>by
  have h2:=qoz hc1 h1;have:=hac s hs;omega
 have hF:=hW.fit;have hb0:=(zml h8 hW hK1 hpos ha hst).1;obtain⟨ds,hds,hdf⟩:=zvm hF hb0 n (qA _);have hds':zpz BIG M0=some ds:=by unfold zpz;rw[hsq.len];exact hds
 obtain⟨d0,hd0,hd0f⟩:=zvl (B:=BIG) hF.one (λk hk=>(hF.all (k:=k) hk).2) hst.shM hb0;have hd0e:d0=lead (rowF M0) n:=zlw hst.shM (λt ht=>by have:=hpos.pos t (by omega);omega) hd0
 have hval:valZ M0 ds=0:=by
  have hsy:=(qdz hst.shM).2 hpos.sym
  have hdf2:defB M0 ds=true:=by
   unfold defB;rw[hsy,zP,qbe,zek hds];intro t ht;rw[qbd hds hpos.pos t ht];exact hpos.pos (t+1) (by omega)
  unfold valZ;rw[hsy,hdf2];rfl
 have t1:=zyc zef hsq hds';rw[hval]at t1;have t2:=jfo zef hsq hd0 (xI hd0f hF.lt);have e2:decide (d0<=10000)=true:=decide_eq_true (by rw[hd0e];exact hd);rw[e2]at t2;have t3:=qpk (n:=n) (by omega) (I:=idM n) (zet n).len (zet n).row (λi j hi hj=>zqs hi hj);obtain⟨ps0,L,hLm,tc⟩:=jfb (n:=n) hsq.mat (by omega) (by rw[hsq.len];omega) (λi hi=>hsq.cols i (by rw[hsq.len]at hi;exact hi));have hM2:=zlq (H:=[]) hLm;have hH2:zac (effs (zan [] 0) 0 L) (List.replicate L.length none)=L.map (renB (zan [] 0)):=zhs (H:=[]) (zan [] 0) (λi=>zcj 0 i) L [];simp only[xY,xK]at hM2;have c1:qX [a]=true:=by simp only[qX,hsq.closed,qY]
 have hI:(matC (idM n)).closed=true:=rfl;have hlen:=hsq.len;obtain⟨ar,ac,hae,hal,har⟩:=hsq.mat;subst hae;rw[hlen]at hsq t1 t2 tc c1 ⊢;refine oF o21 ?_;simp only[c21,r21_0,r21_1,SS,reduceCtorEq,reduceIte];refine zaa t1 ?_ c1;simp only[SS,reduceIte,qQ];simp only[r21_2,SS,reduceIte,qQ];refine⟨λhne=>absurd rfl hne,λ_=>?_⟩;simp only[r21_4,SS,reduceCtorEq,reduceIte,qQ];refine zaa t2 ?_ c1;simp only[SS,fC,reduceIte,qQ];simp only[r21_6,SS,reduceCtorEq,reduceIte,qQ];refine zdx tc c1 ?_;simp only[zaf,SS,reduceIte,qQ,AV.ren,zcj,xQ,hH2];generalize L.map (renB (zan [] 0))=H2 at*;generalize (ps0.map λp=>(0+p.1,p.2))=ps at*;simp only[r21_7,SS,reduceCtorEq,reduceIte,qQ];refine zaa t3 ?_;simp only[SS,reduceIte,qQ,qC,qB];obtain⟨vs,hfz,hmv⟩:=jdr (cap:=some n) hM2;rw[hlen]at hfz hmv;have hsq0:Sq n M0 (.vec vs n (some n)):=⟨hmv,hlen,hst.shM.row,h1,h8⟩
 refine W.weak (zhp 0 3 (qA _) (xE _) (λi cs h=>absurd h (by omega))) ?_
 refine zaj (λk E H=>∃M T av,Ends n M' T' k M T/\LState n (c^n) (8*c^n) M0 M T/\Sq n M av/\E 6=av/\E 7=matC T/\H=[]) (n:=k0)
  ⟨M0,idM n,_,hE,hst,hsq0,?_,?_,rfl⟩ ?_
 ·unfold frzE;simp only[UU,qQ,reduceIte];rw[if_neg (by simp[AV.under]),hfz];rfl
 ·unfold frzE;simp only[UU,qQ,reduceIte];rfl
 rintro k E H ⟨M,T,av,hEn,hL,hsM,e6,e7,rfl⟩;refine wM ?_;obtain⟨hbM,hbT⟩:=zml h8 hW hK1 hpos ha hL
 have hA200:(bigK (c^n) (8*c^n)).toNat<=2^800:=by
  have:=hW.big;have e:((2^800:Nat):Int)=(2:Int)^800:=Int.natCast_pow 2 800;omega
 have hTsq:Sq n T (matC T):=znx hL.shT ⟨h1,h8⟩ hbT (by
  exact jA jhq qye)
 have cM:qX [av]=true:=by simp only[qX,hsM.closed,qY]
 have next:∀U,Shp n U->Bnd (znr) U->Rt 76 [av,matC U] [] (matC (cgM n M U)) []/\Rt 77 [matC T,matC U] [] (matC (mulM n T U)) []/\Sq n U (matC U):=by
  intro U hU hbU
  have hUsq:=znx hU ⟨h1,h8⟩ hbU (by
   exact jA jdq qye)
  exact⟨ztl hsM hUsq hbM hbU (jhn hA200 (qA _)),zwk hTsq hUsq ⟨hbT,hbU,jho (qA _) (qA _)⟩,hUsq⟩
 have y1:1<=znr:=qvr;rcases qoy h8 hK1 (yK _) hL hEn with⟨hok,rfl,rfl⟩ | ⟨k',i,j,rfl,hc,hL',hE'⟩ | ⟨k',i,rfl,hc,hL',hE'⟩
 ·have tS:=jdm (ds:=[]) hsM hF hbM (qA _) hL.pos.pos (zyx hok)
  have hIn:∀i j,In64 (ent M i j):=by
   intro i j;by_cases h:i<n/\j<n
   ·have:=hred.entry h.1 h.2;have e:rowF M i j=ent M i j:=rfl;unfold In64;omega
   ·rw[hL.shM.out (by omega)];unfold In64;omega
  have tI:=jdn hsM hIn;simp only[l21_0,r21_8,SS,reduceCtorEq,reduceIte,e6];refine zaa tS ?_ cM;simp only[SS,reduceIte,qQ,qC,qB];simp only[r21_9,SS,fC,reduceIte,qQ];simp only[r21_10,SS,reduceIte,qQ,e6];refine zaa tI ?_ cM;simp only[SS,reduceIte,qQ,qC,qB];simp only[r21_11,SS,reduceIte,qQ,e7];exact dR
 ·have hi:=hc.hi;have hj:=hc.hj
  have hnb:(zhf (stg (rowF M) j i j) (lead (rowF M) (j+1))).natAbs<=znr:=by
   have h2:=jdh (l:=stg (rowF M) j i j) (hL.pos.pos (j+1) (by omega));have h3:=(qpm hF hbM (qA n) hL.pos.pos (i:=i) (j:=j) (by omega)).2;have h4:=hW.bnd;have h5':=jhp;omega
  obtain⟨tC,tP,hUsq⟩:=next (zjk n M i j) (qvu (by omega)) (qvs (by omega) hi y1 hnb)
  have tS:=jdm (ds:=[]) hsM hF hbM (qA _) hL.pos.pos (qcc hc);have hcg:=znx hL'.shM ⟨h1,h8⟩ (zml h8 hW hK1 hpos ha hL').1 (xI (hF.all (k:=0) (xE _)).1 hF.lt);have c2:qX [av,matC (zjk n M i j)]=true:=by simp only[qX,hsM.closed,hUsq.closed,qY]
  have c3:qX [matC T,matC (zjk n M i j)]=true:=rfl;simp only[l21_0,r21_8,SS,reduceCtorEq,reduceIte,e6];refine zaa tS ?_ cM;simp only[SS,reduceIte,qQ,qC,qB];simp only[r21_9,SS,fC,reduceIte,qQ];simp only[r21_12,SS,reduceIte,qQ,e6];refine zaa tC ?_ c2;simp only[SS,reduceIte,qQ,e7];refine zaa tP ?_ c3;simp only[SS,reduceIte,qQ];exact⟨k',_,_,by omega,⟨_,_,_,hE',hL',hcg,by rfl,by rfl,rfl⟩,.refl⟩
 ·have hi:=hc.hi;have h0:=hc.h0;obtain⟨tC,tP,hUsq⟩:=next (zkn n i) (qpp hi) (qvt hi y1)
  have tS:=jdm (ds:=[]) hsM hF hbM (qA _) hL.pos.pos (qho hc);have hcg:=znx hL'.shM ⟨h1,h8⟩ (zml h8 hW hK1 hpos ha hL').1 (xI (hF.all (k:=0) (xE _)).1 hF.lt);have c2:qX [av,matC (zkn n i)]=true:=by simp only[qX,hsM.closed,hUsq.closed,qY]
  have c3:qX [matC T,matC (zkn n i)]=true:=rfl;simp only[l21_0,r21_8,SS,reduceCtorEq,reduceIte,e6];refine zaa tS ?_ cM;simp only[SS,reduceIte,qQ,qC,qB];simp only[r21_9,SS,fC,reduceIte,qQ];simp only[r21_12,SS,reduceIte,qQ,e6];refine zaa tC ?_ c2;simp only[SS,reduceIte,qQ,e7];refine zaa tP ?_ c3;simp only[SS,reduceIte,qQ];exact⟨k',_,_,by omega,⟨_,_,_,hE',hL',hcg,by rfl,by rfl,rfl⟩,.refl⟩
theorem jds{n:Nat}{M0:List (List Int)}{a:AV}(hsq:Sq n M0 a)(h5:n<=5)(hG:SmallG n M0)(hg:zkl n M0):
  ∃k M' T',Ends n M' T' k M0 (idM n)/\lead (rowF M') n=lead (rowF M0) n/\Red n (rowF M')/\LState n (16^n) (8*16^n) M0 M' T'/\Rt 21 [a] [] (.tup [.vec (zbt n M') n (some n),matC T',.int .i64 0]) []:=
 qey hsq (wb16 hsq.lo h5) (qvg hG hg) (λs _=>(hG.bnd s s).2) hg.2
theorem zwl:FitN 8 BIG 16:=⟨by decide,by decide +kernel⟩
theorem zmm{n:Nat}{M:List (List Int)}(h:SmallG n M):Bnd 16 M:=by
 intro i j;have:=h.bnd i j;omega
theorem qcd{n:Nat}{M:List (List Int)}{ds:List Int}(hS:Shp n M)(hsy:∀i j,i<n->j<n->ent M i j=ent M j i)(hds:zeu BIG M n=some ds):valZ M ds=0↔∀k,k<n+1->0<lead (rowF M) k:=by
 have hsb:=(qdz hS).2 (λi j hi hj=>hsy i j hi hj);constructor
 ·intro hv
  have hdf:defB M ds=true:=by
   unfold valZ at hv;rw[hsb]at hv;cases e:defB M ds with
   |true=>rfl
   |false=>rw[e]at hv;simp at hv
  unfold defB at hdf;rw[hsb,zP,qbe,zek hds]at hdf;intro k hk;exact(jbp hds n (qA _) hdf).1 k (by omega)
 ·intro hp
  have hdf:defB M ds=true:=by
   unfold defB;rw[hsb,zP,qbe,zek hds];intro t ht;rw[qbd hds (λk hk=>hp k (by omega)) t ht];exact hp (t+1) (by omega)
  unfold valZ;rw[hsb,hdf];rfl
theorem jjo{n:Nat}{M:List (List Int)}{a:AV}(hG:SmallG n M)(ha:ImV M a)(hn:1<=n/\n<=8):Rt 82 [a] [] (.bool (decide (zkl n M))) []:=by
 have hS:=hG.shp;have hb:=zmm hG;have hsq:=znx hS hn hb (xI (zwl.all (k:=0) (xE _)).1 zwl.lt);have t0:=mOf (n:=n) ha (by omega) (by rw[hS.len];omega) (λi hi=>hS.row i (by rw[hS.len]at hi;exact hi));obtain⟨ds,hds,hdf⟩:=zvm zwl hb n hn.2;have hds':zpz BIG M=some ds:=by unfold zpz;rw[hS.len];exact hds
 obtain⟨d0,hd0,hd0f⟩:=zvl (B:=BIG) zwl.one (λk hk=>(zwl.all (k:=k) (by omega)).2) hS hb;have hd0B:d0.natAbs<BIG:=by have:=(zwl.all hn.2).1;have:=zwl.lt;omega
 have t1:=zyc zef hsq hds';have t2:=mDet zef hsq.mat (by rw[hsq.len];omega) (λi hi=>by rw[hsq.len]at hi ⊢;exact hsq.cols i hi) hd0;obtain⟨v3,hv3,t3⟩:=zhb 10000 (by omega) (by omega);have t4:=zCmp (zbv hd0B) hv3;have hviff:=qcd hS hG.sym hds;have hcl:=hsq.closed;have c1:qX [a]=true:=by simp only[qX,ha.closed,qY]
 have c2:qX [matC M]=true:=by simp only[qX,hcl,qY]
 have c3:qX [intV d0,v3]=true:=by simp only[qX,(zbv hd0B).closed,hv3.closed,qY]
 refine oF o82 ?_;simp only[c82,r82_0,r82_1,SS,reduceCtorEq,reduceIte];refine zaa t0 ?_ c1;simp only[SS,reduceIte,qQ];simp only[r82_2,SS,reduceIte,qQ];refine zaa t1 ?_ c2;simp only[SS,fC,reduceIte,qQ];refine⟨λh1=>?_,λh1=>?_⟩
 ·have hp:=hviff.1 h1;have hd0e:d0=lead (rowF M) n:=zlw hS (λt ht=>by have:=hp t (by omega);omega) hd0;refine zaa t2 ?_ c2 (zbv hd0B).closed;simp only[SS,fC,reduceIte,qQ];refine zaa t3 ?_ rfl hv3.closed;simp only[SS,fC,reduceIte,qQ];refine zaa t4 ?_ c3;simp only[SS,fC,reduceIte,qQ]
  have e:decide ((if d0<10000 then(-1:Int)else if d0=10000 then 0 else 1)<=0)=decide (zkl n M):=by
   rw[decide_eq_decide];unfold zkl;rw[<-hd0e];constructor
   ·intro h;refine⟨hp,?_⟩;split at h
    ·omega
    ·split at h<;>omega
   ·rintro⟨_,h⟩;split
    ·omega
    ·split<;>omega
  rw[e];exact dR
 ·have hng:decide (zkl n M)=false:=decide_eq_false (λhg=>h1 (hviff.2 hg.1));have d1:decide (valZ M ds=0)=false:=decide_eq_false h1;rw[hng];simp only[d1];exact dR
end Go.Proofs.YtgfbaioffpcelaaGreatDoor
namespace Go.Proofs.YtgfbaioffpcelaaGreatDoor
open Go Go.AL Go.Proofs Go.Limb
theorem qyg{σ:Nat->Nat}{K N n:Nat}{rows:List (List Int)}(hσ:∀j,σ j=K+j):(bH N n rows).map (renB σ)=bO K N n rows:=by
 unfold bH bO;rw[List.map_cons,zC];congr 1
 ·show some ((outS N n rows.length).map (AV.ren σ))=_
  congr 1;unfold outS outO;rw[jG];congr 1
  ·unfold zqw zij;rw[zC];refine yY λk _=>?_
   show AV.sl (σ (k+1)) 0 n 1 (some n)= .sl (K+k+1) 0 n 1 (some n)
   rw[hσ];rfl
  ·rw[jZ];rfl
 ·refine yY λr _=>?_
  show some ((i64z r).map (AV.ren σ))=some (i64z r)
  rw[zay _ _ (zrl r)]
structure ChainR(n:Nat)(fork:Bool)(i:Nat)(R:List (List Int)):Prop where
 len:R.length=i
 row:∀s,s<i->(R.getD s []).length=n
 ent:∀s t,s<i->t<n->ent R s t=if s=t then 2 else if t<i/\(zcx n fork s t=true\/zcx n fork t s=true)then -1 else 0
def zrn(n:Nat)(fork:Bool)(i:Nat):Int:=if fork=true/\i+1=n/\3<n then(i:Int)-2 else(i:Int)-1
theorem zdl{n i k:Nat}{fork:Bool}:zcx n fork i k=true↔(k:Int)=zrn n fork i:=by
 unfold zcx zrn;split
 ·rw[beq_iff_eq];omega
 ·rw[beq_iff_eq];omega
theorem zel{n i k:Nat}{fork:Bool}(h:zcx n fork i k=true):k<i:=by
 have:=zdl.1 h;unfold zrn at this;split at this<;>omega
theorem qhp{n:Nat}{fork:Bool}{R:List (List Int)}(h:ChainR n fork n R):R=zcu n fork:=by
 refine zqq (n:=n) ⟨h.len,h.row⟩ (zci _ _) λs t hs ht=>?_
 rw[h.ent s t hs ht];unfold zcu;rw[zbl hs ht];by_cases e:s=t
 ·rw[if_pos e,if_pos e]
 ·rw[if_neg e,if_neg e];by_cases e2:zcx n fork s t=true\/zcx n fork t s=true
  ·rw[if_pos ⟨ht,e2⟩,if_pos e2]
  ·rw[if_neg (λx=>e2 x.2),if_neg e2]
def zax(n i:Nat):List Int:=(List.replicate n 0).set i 2
theorem qez{R:List (List Int)}{i:Nat}(hl:R.length=i)(r:List Int)(s t:Nat):ent (R++[r]) s t=if s=i then r.getD t 0 else ent R s t:=by
 unfold ent;by_cases e:s=i
 ·rw[if_pos e,e,qK (l:=R++[r]),qI (by omega),hl,qN];rfl
 ·rw[if_neg e];rcases xV s i with h | h
  ·rw[qK (l:=R++[r]),xL (by omega),<-qK]
  ·rw[qK (l:=R++[r]),yG (by simp;omega),qK (l:=R),yG (by omega)]
theorem qpq{n i t:Nat}(hi:i<n):(zax n i).getD t 0=if t=i then 2 else 0:=by
 unfold zax;rw[qK,zW];by_cases e:i=t
 ·rw[if_pos e,if_pos (by simpa using hi),if_pos e.symm];rfl
 ·rw[if_neg e,if_neg (λx=>e x.symm),List.getElem?_replicate];split<;>rfl
theorem zif{n i:Nat}{fork:Bool}{R:List (List Int)}(h:ChainR n fork i R)(hi:i<n)(hno:∀t,zcx n fork i t=false):ChainR n fork (i+1) (R++[zax n i]):=by
 refine⟨by simp[h.len],λs hs=>?_,λs t hs ht=>?_⟩
 ·rcases(by omega:s<i\/s=i)with e | e
  ·rw[qK,xL (by rw[h.len];exact e),<-qK];exact h.row s e
  ·rw[e,qK,qI (by rw[h.len];omega),h.len,qN];simp[zax]
 ·rw[qez h.len];by_cases e:s=i
  ·rw[if_pos e,qpq hi];subst e;by_cases e2:t=s
   ·rw[if_pos e2,if_pos e2.symm]
   ·rw[if_neg e2,if_neg (λx=>e2 x.symm),if_neg];rintro⟨h1,h2 | h2⟩
    ·rw[hno]at h2;cases h2
    ·have:=zel h2;omega
  ·rw[if_neg e,h.ent s t (by omega) ht];by_cases e2:s=t
   ·rw[if_pos e2,if_pos e2]
   ·rw[if_neg e2,if_neg e2];by_cases e3:t<i/\(zcx n fork s t=true\/zcx n fork t s=true)
    ·rw[if_pos e3,if_pos ⟨by omega,e3.2⟩]
    ·rw[if_neg e3,if_neg];rintro⟨h1,h2⟩;rcases(by omega:t<i\/t=i)with e4 | e4
     ·exact e3 ⟨e4,h2⟩
     ·rw[e4]at h2;rcases h2 with h2 | h2
      ·have:=zel h2;omega
      ·rw[hno]at h2;cases h2
theorem zkh{n i k:Nat}{fork:Bool}{R:List (List Int)}(h:ChainR n fork i R)(hi:i<n)(hk:zcx n fork i k=true):ChainR n fork (i+1) (setM (setM (R++[zax n i]) i k (-1)) k i (-1)):=by
 have hki:=zel hk
 have hone:∀t,zcx n fork i t=true↔t=k:=by
  intro t;rw[zdl,<-zdl.1 hk];omega
 have hl:(R++[zax n i]).length=i+1:=by simp[h.len]
 have hrow:∀s,s<i+1->((R++[zax n i]).getD s []).length=n:=by
  intro s hs;rcases(by omega:s<i\/s=i)with e | e
  ·rw[qK,xL (by rw[h.len];exact e),<-qK];exact h.row s e
  ·rw[e,qK,qI (by rw[h.len];omega),h.len,qN];simp[zax]
 have hset:∀(X:List (List Int)) (a b:Nat) (z:Int),(∀s,s<i+1->(X.getD s []).length=n)->X.length=i+1->a<i+1->∀s,s<i+1->((setM X a b z).getD s []).length=n:=by
  intro X a b z hX hXl ha s hs;unfold setM;rw[qK,zW];by_cases e:a=s
  ·subst e;rw[if_pos rfl,if_pos (by omega),yI,qM];exact hX a hs
  ·rw[if_neg e,<-qK];exact hX s hs
 have h1l:(setM (R++[zax n i]) i k (-1)).length=i+1:=by rw[zdd];exact hl
 have h1r:=hset _ i k (-1) hrow hl (by omega);refine⟨by rw[zdd];exact h1l,hset _ k i (-1) h1r h1l (by omega),λs t hs ht=>?_⟩;rw[zhv (by omega) (by rw[h1r k (by omega)];exact hi),zhv (by omega) (by rw[hrow i (by omega)];omega),qez h.len];by_cases a1:s=k/\t=i
 ·obtain⟨rfl,rfl⟩:=a1;rw[if_pos ⟨rfl,rfl⟩,if_neg (by omega),if_pos ⟨by omega,.inr hk⟩]
 ·rw[if_neg a1];by_cases a2:s=i/\t=k
  ·obtain⟨rfl,rfl⟩:=a2;rw[if_pos ⟨rfl,rfl⟩,if_neg (by omega),if_pos ⟨by omega,.inl hk⟩]
  ·rw[if_neg a2];by_cases e:s=i
   ·rw[if_pos e,qpq hi];subst e;by_cases e2:t=s
    ·rw[if_pos e2,if_pos e2.symm]
    ·rw[if_neg e2,if_neg (λx=>e2 x.symm),if_neg];rintro⟨h1,h2 | h2⟩
     ·exact a2 ⟨rfl,(hone t).1 h2⟩
     ·have:=zel h2;omega
   ·rw[if_neg e,h.ent s t (by omega) ht];by_cases e2:s=t
    ·rw[if_pos e2,if_pos e2]
    ·rw[if_neg e2,if_neg e2];by_cases e3:t<i/\(zcx n fork s t=true\/zcx n fork t s=true)
     ·rw[if_pos e3,if_pos ⟨by omega,e3.2⟩]
     ·rw[if_neg e3,if_neg];rintro⟨h1,h2⟩;rcases(by omega:t<i\/t=i)with e4 | e4
      ·exact e3 ⟨e4,h2⟩
      ·rw[e4]at h2;rcases h2 with h2 | h2
       ·have:=zel h2;omega
       ·exact a1 ⟨(hone s).1 h2,e4⟩
