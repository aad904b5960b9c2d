/- A part of the proof. -/
import Derived.Test.YtgfbaioffpcelaaGreatDoorPD
set_option linter.all false
set_option maxRecDepth 100000
open Nat renaming reduceEqDiff -> qQ, reduceLeDiff -> qK, reduceAdd -> qV, mul_le_mul_left -> qY, le_refl -> qU, pow_le_pow_right -> qD, mod_lt -> qE, add_zero -> qG, mul_comm -> qM, lt_of_lt_of_le -> qS, lt_or_ge -> qT, mul_assoc -> xQ, mod_eq_of_lt -> xX, zero_add -> xZ, mul_add -> xJ, mul_zero -> xW, mul_le_mul_right -> xV, eq_zero_or_pos -> xY, div_lt_iff_lt_mul -> xU, div_add_mod -> xA, lt_of_le_of_lt -> xC, one_mul -> xD, pow_add -> xL, mul_one -> xM, pow_pos -> xN, div_le_self -> xO, pow_succ -> xP, div_eq_of_lt -> xS, mul_le_mul -> xT, add_mul -> yJ, not_lt_zero -> yY, zero_le -> yB, pow_lt_pow_right -> yD, add_comm -> yE, add_sub_cancel -> yH, add_sub_cancel_left -> yI, le_trans -> yN, le_of_lt -> yO, pow_zero -> yP, div_div_eq_div_mul -> yR, gcd_comm -> yS, two_pow_add_eq_or_of_lt -> zJ, gcd_zero_right -> zW, add_mul_mod_self_left -> zV, lt_of_mul_lt_mul_left -> zY, pow_one -> zB, le_mul_of_pos_right -> zE, mul_div_cancel_left -> zG, sub_self -> zM, min_eq_left -> zN, le_div_iff_mul_le -> zR, eq_of_beq_eq_true -> zS, mod_mul_right_mod -> zT, add_mul_div_left -> jQ, div_mul_le_self -> jZ, add_lt_add_left -> jJ, mul_lt_mul_left -> jK, or_lt_two_pow -> jA, gcd_zero_left -> jB, dvd_mul_left -> jC, div_one -> jG, gcd_rec -> jH, le_add_left -> jI, pow_dvd_pow -> jL, one_ne_zero -> jM, mul_add_div -> jN, mul_add_mod -> jO, gcd_le_left -> jP, mod_le -> jS
open List renaming getD_eq_getElem?_getD -> qX, getElem?_eq_getElem -> qW, length_set -> qA, replicate_zero -> qB, take_of_length_le -> qC, append_assoc -> qH, append_nil -> qI, nil_append -> qL, getElem?_cons_zero -> qN, getElem?_cons_succ -> qO, cons_append -> xK, getElem?_append_left -> xE, getElem?_eq_none -> xG, take_length -> xH, getElem_mem -> xI, drop_zero -> yX, length_append -> yZ, length_cons -> yK, getElem?_replicate -> yW, mapM_cons -> yV, range_succ -> yU, getElem?_map -> yA, getElem?_append_right -> yC, take_zero -> yM, length_singleton -> yT, replicate_succ -> zX, getD_cons_zero -> zZ, replicate_one -> zK, drop_eq_getElem_cons -> zU, getElem?_set -> zC, ext_getElem -> zI, drop_length -> zL, length_map -> zO, map_append -> zP, getD_cons_succ -> jW, mem_cons -> jV, getElem_range -> jY, take_add_one -> jU, all_eq_true -> jD, getElem_map -> jE, length_nil -> jR
open Int renaming toNat_natCast -> qZ, natCast_add -> xB, fdiv_eq_ediv_of_nonneg -> yQ, natCast_mul -> yG, natAbs_ediv_le_natAbs -> zA, toNat_zero -> jX
open Go.AL.AV.closed renaming closedL -> qJ
open Bool renaming and_self -> qP
open Option renaming bind_eq_some_iff -> yL, bind_some -> zQ
open Option.some renaming injEq -> zD
namespace Go.Proofs.YtgfbaioffpcelaaGreatDoor
open Go Go.AL Go.Proofs Go.Limb
theorem qsz{n out:List Nat}{i j cy x V:Nat}(ho:i+j<out.length)(h:val out+4294967296^(i+j)*cy=V+4294967296^i*(x*val (n.take j))):
  val (out.set (i+j) ((cy+(x*n.getD j 0+out.getD (i+j) 0))%4294967296))+4294967296^(i+(j+1))*((cy+(x*n.getD j 0+out.getD (i+j) 0))/4294967296)=V+4294967296^i*(x*val (n.take (j+1))):=by
 have h1:=zgu (v:=(cy+(x*n.getD j 0+out.getD (i+j) 0))%4294967296) ho;rw[zbk,show i+(j+1)=i+j+1 from rfl,xP]
 have e:4294967296^i*(x*(val (n.take j)+4294967296^j*n.getD j 0))=4294967296^i*(x*val (n.take j))+4294967296^(i+j)*(x*n.getD j 0):=by
  rw[xL,xJ,xJ,xQ (4294967296^i),Nat.mul_left_comm x]
 rw[e];generalize 4294967296^(i+j)=p at*;generalize n.getD j 0=y at*;generalize out.getD (i+j) 0=o at*
 have e2:p*((cy+(x*y+o))%4294967296)+p*4294967296*((cy+(x*y+o))/4294967296)=p*cy+(p*(x*y)+p*o):=by
  rw[xQ,<-xJ,<-xJ,<-xJ,Nat.mod_add_div]
 omega
theorem qlm{x y o cy:Nat}(hx:x<4294967296)(hy:y<4294967296)(ho:o<4294967296)(hc:cy<4294967296):x*y<=18446744065119617025/\cy+(x*y+o)<18446744073709551616:=by
 have:=xT (show x<=4294967295 by omega) (show y<=4294967295 by omega);omega
theorem jfe{m n:List Nat}{c d cap:Option Nat}{i x V L:Nat}(hL:L<=2200)(hi:i+n.length<L)(hx:x<4294967296)(dn:Dig n){E:Env}{out:List Nat}{Q:Post}(hol:out.length=L)(hd:Dig out)(hz:∀t,i+n.length<=t->out.getD t 0=0)(hv:val out=V)
  (e1:E 1= .vec (u32s n) n.length d) (e5:E 5= .sl 0 0 L 1 (some L)) (e7:E 7= .int .u32 (x:Int)) (e8:E 8= .sl 0 i (n.length+1) 1 cap) (e9:E 9= .int .u64 0) (e32:E 32= .vec (u32s m) m.length c) (e33:E 33= .int .i64 (m.length:Nat)) (e34:E 34= .int .i64 (i:Nat)) (e49:E 49= .vec (u32s n) n.length d) (e50:E 50= .int .i64 (n.length:Nat)) (e51:E 51= .int .i64 0)
  (hQ:∀E out cy,out.length=L->Dig out->cy<4294967296->(∀t,i+n.length<=t->out.getD t 0=0)->val out+4294967296^(i+n.length)*cy=V+4294967296^i*(x*val n)->E 1= .vec (u32s n) n.length d->E 5= .sl 0 0 L 1 (some L)->E 8= .sl 0 i (n.length+1) 1 cap->E 9= .int .u64 (cy:Nat)->E 32= .vec (u32s m) m.length c->E 33= .int .i64 (m.length:Nat)->E 34= .int .i64 (i:Nat)->Q (.exit 2) E [some (u32s out)]):
  Wg 0 86 (.loop l157_1) E [some (u32s out)] Q:=by
 refine zaj (λk E H=>∃j cy out,j+k=n.length/\out.length=L/\Dig out/\cy<4294967296/\(∀t,i+n.length<=t->out.getD t 0=0)/\val out+4294967296^(i+j)*cy=V+4294967296^i*(x*val (n.take j))/\
   E 1= .vec (u32s n) n.length d/\E 5= .sl 0 0 L 1 (some L)/\E 7= .int .u32 (x:Int)/\E 8= .sl 0 i (n.length+1) 1 cap/\E 9= .int .u64 (cy:Nat)/\E 32= .vec (u32s m) m.length c/\E 33= .int .i64 (m.length:Nat)/\E 34= .int .i64 (i:Nat)/\E 49= .vec (u32s n) n.length d/\E 50= .int .i64 (n.length:Nat)/\E 51= .int .i64 (j:Nat)/\H=[some (u32s out)]) (n:=n.length)
  ⟨0,0,out,by omega,hol,hd,by omega,hz,by rw[hv];simp[Limb.val],e1,e5,e7,e8,e9,e32,e33,e34,e49,e50,e51,rfl⟩ ?_
 clear e1 e5 e7 e8 e9 e32 e33 e34 e49 e50 e51 hol hd hz hv out E;rintro k E H ⟨j,cy,out,hjk,hol,hd,hcy,hz,hv,e1,e5,e7,e8,e9,e32,e33,e34,e49,e50,e51,rfl⟩;refine wM ?_;have bn:=dn.getD j;have bo:=hd.getD (i+j);cases k with
 |zero=>
  obtain rfl:j=n.length:=by omega
  have d1:decide ((n.length:Int)<(n.length:Nat))=false:=dF;rw[xH]at hv;simp only[l157_1,r157_11,SS,fC,reduceIte,e50,e51,d1];refine hQ _ out cy hol hd hcy hz hv ?_ ?_ ?_ ?_ ?_ ?_ ?_
  all_goals simp only[UU,qQ, *]
 |succ k=>
  obtain⟨b1,b2⟩:=qlm hx bn bo hcy;have d1:decide ((j:Int)<(n.length:Nat))=true:=dT;have g2:=zal n j (by omega) AV.junk;have g3:=zal out (i+j) (by omega) AV.junk;have w1:IntKind.u64.wrap ((x:Int)*((n.getD j 0:Nat):Int))=((x*n.getD j 0:Nat):Int):=by rw[<-yG];exact zbg (by omega)
  have w2:IntKind.u64.wrap (((x*n.getD j 0:Nat):Int)+((out.getD (i+j) 0:Nat):Int))=((x*n.getD j 0+out.getD (i+j) 0:Nat):Int):=by rw[<-xB];exact zbg (by omega)
  have w3:IntKind.u64.wrap ((cy:Int)+((x*n.getD j 0+out.getD (i+j) 0:Nat):Int))=((cy+(x*n.getD j 0+out.getD (i+j) 0):Nat):Int):=by rw[<-xB];exact zbg b2
  have w5:=wS1 j (by omega);simp only[l157_1,r157_11,r157_12,SS,fC,reduceIte,qQ,e49,e50,e51,d1,qZ,g2,zae];refine⟨⟨by omega,by omega⟩,by omega,?_⟩;simp only[r157_13,SS,fC,reduceIte,qQ,e7,e8,e9,qZ,g3,zae,zbg (show x<18446744073709551616 by omega),zbg (show n.getD j 0<18446744073709551616 by omega),zbg (show out.getD (i+j) 0<18446744073709551616 by omega),w1,w2,w3];refine⟨⟨by omega,by omega⟩,by omega,?_⟩;simp only[r157_14,r157_15,r157_16,SS,reduceIte,qQ,e8,e51,qZ,wu32,zlm,zae,zbq,w5];refine⟨⟨by omega,by omega⟩,by omega,by omega,k,_,_,by omega,⟨j+1,_,_,by omega,by rw[qA];exact hol,hd.set (qE _ (by decide)),by omega,λt ht=>by rw[zfq (by omega)];exact hz t ht,qsz (by omega) hv,?_,?_,?_,?_,?_,?_,?_,?_,?_,?_,?_,rfl⟩,.refl⟩
  all_goals simp only[UU,qQ,reduceIte, *]
theorem jal(m n:List Nat)(c d:Option Nat)(hm:m.length<=1100)(hn:n.length<=1100)(cm:zbn m)(cn:zbn n):
  ∃c',Rt 157 [.vec (u32s m) m.length c,.vec (u32s n) n.length d] [] (.vec (u32s (zav (val m*val n))) (zav (val m*val n)).length c') []:=by
 by_cases h:m.length<=1/\n.length<=1
 ·have lt:∀l:List Nat,Dig l->l.length<=1->val l<4294967296:=λl hd hl=>by
   have h1:=zfc hd;have h2:4294967296^l.length<=4294967296^1:=qD (by decide) hl;omega
  have vm:=lt m cm.1 h.1;have vn:=lt n cn.1 h.2;have hmul:=(qlm vm vn (show 0<4294967296 by decide) (show 0<4294967296 by decide)).1;obtain⟨l,c',hc,_,hv,t3⟩:=zpw (u:=val m*val n) (by omega);obtain rfl:l=zav (val m*val n):=zdk hc (zak _) (by rw[hv,zaq]);have t1:=qao c cm.1 (by omega);have t2:=qao d cn.1 (by omega);have d1:decide ((m.length:Int)<=1)=true:=dT;have d2:decide ((n.length:Int)<=1)=true:=dT;have w1:IntKind.u64.wrap (((val m:Nat):Int)*((val n:Nat):Int))=((val m*val n:Nat):Int):=by rw[<-yG];exact zbg (by omega)
  refine⟨c',?_⟩;refine oF o157 ?_;simp only[c157,r157_0,r157_1,↓zcq,SS,fC,reduceCtorEq,reduceIte,qQ,d1,d2];simp only[r157_2,SS,reduceCtorEq,reduceIte,qQ];refine zaa t1 ?_;simp only[SS,reduceIte,qQ];refine zaa t2 ?_;simp only[SS,reduceIte,qQ,w1];refine zaa t3 ?_ rfl (zbo _ _ _);simp only[SS,reduceIte,qQ];exact dR
 ·refine⟨some (m.length+n.length),?_⟩
  have rest:∀E:Env,E 0= .vec (u32s m) m.length c->E 1= .vec (u32s n) n.length d->E 5= .sl 0 0 (m.length+n.length) 1 (some (m.length+n.length))->∀Q:Post,(∀E out,out.length=m.length+n.length->Dig out->val out=val m*val n->E 5= .sl 0 0 (m.length+n.length) 1 (some (m.length+n.length))->Q (.exit 0) E [some (u32s out)])->
    E 32= .vec (u32s m) m.length c->E 33= .int .i64 (m.length:Nat)->E 34= .int .i64 0->Wg 0 86 (.loop l157_0) E [some (u32s (List.replicate (m.length+n.length) 0))] Q:=by
   intro E e0 e1 e5 Q hQ e32 e33 e34
   refine zaj (λk E H=>∃i out,i+k=m.length/\out.length=m.length+n.length/\Dig out/\(∀t,i+n.length<=t->out.getD t 0=0)/\val out=val (m.take i)*val n/\
     E 1= .vec (u32s n) n.length d/\E 5= .sl 0 0 (m.length+n.length) 1 (some (m.length+n.length))/\E 32= .vec (u32s m) m.length c/\E 33= .int .i64 (m.length:Nat)/\E 34= .int .i64 (i:Nat)/\H=[some (u32s out)]) (n:=m.length)
    ⟨0,_,by omega,by simp,zux _,λt _=>rep0 _ t,by rw[zuw,yM];simp[Limb.val],e1,e5,e32,e33,e34,rfl⟩ ?_
   clear e0 e1 e5 e32 e33 e34 E;rintro k E H ⟨i,out,hik,hol,hd,hz,hv,e1,e5,e32,e33,e34,rfl⟩;refine wM ?_;have bm:=cm.1.getD i;cases k with
   |zero=>
    obtain rfl:i=m.length:=by omega
    have d1:decide ((m.length:Int)<(m.length:Nat))=false:=dF;rw[xH]at hv;simp only[l157_0,r157_5,SS,fC,reduceIte,e33,e34,d1];refine hQ _ out hol hd hv ?_;exact e5
   |succ k=>
    have d1:decide ((i:Int)<(m.length:Nat))=true:=dT;have g1:=zal m i (by omega) AV.junk;have w5:=wS1 i (by omega);have vs:=zbk m i;simp only[l157_0,r157_5,r157_6,r157_7,SS,fC,reduceIte,qQ,e32,e33,e34,d1,qZ,g1,zae];refine⟨⟨by omega,by omega⟩,by omega,λh0=>?_,λh0=>?_⟩
    ·have h0:m.getD i 0=0:=by omega
     simp only[r157_18,SS,reduceIte,qQ,e34,w5];refine⟨k,_,_,by omega,⟨i+1,out,by omega,hol,hd,λt ht=>hz t (by omega),by rw[vs,h0,xW,qG];exact hv,?_,?_,?_,?_,?_,rfl⟩,.refl⟩
     all_goals simp only[UU,qQ,reduceIte, *]
    ·have wa:IntKind.i64.wrap ((i:Int)+(n.length:Int))=((i+n.length:Nat):Int):=wQ (by omega);have wb:IntKind.i64.wrap (((i+n.length:Nat):Int)+1)=((i+n.length+1:Nat):Int):=wQ (by omega);have hne:i≠i+n.length+1:=by omega
     simp only[r157_8,r157_9,r157_10,SS,reduceIte,qQ,e1,e5,wa,wb,qZ,hne,if_false,show i+n.length+1-i=n.length+1 by omega];refine⟨by omega,by omega,⟨by omega,by omega⟩,?_⟩;refine jfe (m:=m) (n:=n) (c:=c) (d:=d) (cap:=zdn i (some (m.length+n.length))) (i:=i) (x:=m.getD i 0) (V:=val out) (L:=m.length+n.length) (by omega) (by omega) bm cn.1 hol hd hz rfl ?_ ?_ ?_ ?_ ?_ ?_ ?_ ?_ ?_ ?_ ?_ ?_
     ·exact e1
     ·exact e5
     ·rfl
     ·rfl
     ·rfl
     ·exact e32
     ·exact e33
     ·exact e34
     ·rfl
     ·rfl
     ·rfl
     clear e1 e5 e32 e33 e34 E;intro E out2 cy hol2 hd2 hcy hz2 hv2 e1 e5 e8 e9 e32 e33 e34;have hs:=zgu (l:=out2) (i:=i+n.length) (v:=cy) (by omega);rw[hz2 _ (qU _),xW,qG,hv2,hv]at hs;simp only[r157_17,r157_18,SS,reduceIte,qQ,e1,e8,e9,e34,qZ,zmz hcy,zae,zbq,w5];refine⟨⟨by omega,by omega⟩,by omega,k,_,_,by omega,⟨i+1,_,by omega,by rw[qA];exact hol2,hd2.set hcy,λt ht=>by rw[zfq (by omega)];exact hz2 t (by omega),?_,?_,?_,?_,?_,?_,rfl⟩,.refl⟩
     ·rw[hs,vs,yJ,xQ]
     all_goals simp only[UU,qQ,reduceIte, *]
  have wl:IntKind.i64.wrap ((m.length:Int)+(n.length:Int))=((m.length+n.length:Nat):Int):=wQ (by omega)
  have go:∀E:Env,E 0= .vec (u32s m) m.length c->E 1= .vec (u32s n) n.length d->Wg 0 86 (.seq (rN r157_3) (.seq (.seq (rN r157_4) (.block 0 (.loop l157_0))) (.seq (rN r157_19) .ret))) E [] (λx E' H'=>(x= .ret\/x= .normal)/\∃v',resA Tryz.prog [.tmp 4] E' H'=some v'/\AL.Fin 0 v' H' (.vec (u32s (zav (val m*val n))) (zav (val m*val n)).length (some (m.length+n.length))) []):=by
   intro E e0 e1;refine wM ?_;simp only[r157_3,r157_4,SS,reduceCtorEq,reduceIte,qQ,e0,e1,wl,znb,qZ];refine⟨by omega,⟨by omega,by omega,by omega,by omega⟩,?_⟩;refine rest _ (by exact e0) (by exact e1) (by rfl) _ ?_ (by rfl) (by rfl) (by rfl);intro E out hol hd hv e5;have t1:=zpv out (some (m.length+n.length)) (by omega);rw[zdk (zbc hd) (zak (val m*val n)) (by rw[zbp,zaq,hv]),hol]at t1;simp only[r157_19,SS,reduceCtorEq,reduceIte,e5];refine zhd t1 rfl hol.symm (zbo _ _ _) ?_;simp only[zaf,zac,qB,qI,SS,reduceIte,qQ];exact dR
  refine oFW o157 ?_;simp only[c157];refine wW ?_;simp only[r157_0,SS];refine zki (wM ?_);by_cases h1:m.length<=1
  ·have d1:decide ((m.length:Int)<=1)=true:=dT;have d2:decide ((n.length:Int)<=1)=false:=dF;simp only[r157_1,↓zcq,SS,fC,reduceCtorEq,reduceIte,qQ,d1,d2];exact go _ (by rfl) (by rfl)
  ·have d1:decide ((m.length:Int)<=1)=false:=dF;simp only[r157_1,↓zkk,SS,fC,reduceCtorEq,reduceIte,qQ,d1];exact go _ (by rfl) (by rfl)
theorem iMul{x y:Int}{a b:AV}(ha:zap x a)(hb:zap y b)(hf:(x*y).natAbs<BIG):∃v,zap (x*y) v/\Rt 68 [a,b] [] v []:=by
 obtain⟨l,c,hc,hl,hv,rfl⟩:=ha;obtain⟨r,d,hd,hlr,hw,rfl⟩:=hb;have t1:=zfu c hc (by omega);have t2:=zfu d hd (by omega);obtain⟨c3,t3⟩:=jal l r c d hl hlr hc hd;rw[hv,hw,<-Int.natAbs_mul]at t3;obtain⟨v,iv,t4⟩:=zih (decide (x<0) != decide (y<0)) c3 (zak (x*y).natAbs) (canon_len (zak _) (by rw[zaq];exact hf));have e:=qlc x y;rw[zaq,e]at iv;obtain⟨l',c',_,_,_,rfl⟩:=iv;refine⟨_,⟨l',c',by assumption,by assumption,by assumption,rfl⟩,?_⟩;refine oF o68 ?_;simp only[c68,r68_0,r68_1,SS,fC,reduceCtorEq,reduceIte,qV,qQ,qK];refine zaa t1 ?_;simp only[SS,fC,reduceIte,qV,qQ,qK];refine zaa t2 ?_;simp only[SS,reduceIte,qQ];refine zaa t3 ?_ rfl (zbo _ _ _);simp only[SS,reduceIte,qQ];refine zaa t4 ?_;simp only[SS,reduceIte,qV,qQ,qK];refine⟨rfl,?_⟩;exact dR
end Go.Proofs.YtgfbaioffpcelaaGreatDoor
namespace Go.Proofs.YtgfbaioffpcelaaGreatDoor
open Go Go.AL Go.Proofs
noncomputable section
open Tryz
def q4:=V (RS f4=·)
def r4_0:=X q4 0
def r4_1:=X q4 1
def r4_2:=X q4 2
def r4_3:=X q4 3
def r4_4:=X q4 4
def r4_5:=X q4 5
def r4_6:=X q4 6
def r4_7:=X q4 7
def r4_8:=X q4 8
def r4_9:=X q4 9
def r4_10:=X q4 10
def r4_11:=X q4 11
def r4_12:=X q4 12
def r4_13:=X q4 13
def r4_14:=X q4 14
def c4:CC:=sR r4_0<|.seq (.reg r4_1 (some [(0,2),(1,2)]))<|sR r4_2<|sR r4_3<|qR r4_4 43 r4_5<|sR r4_6<|sR r4_7<|qR r4_8 70 r4_9<|qR r4_10 78 r4_11<|sR r4_12<|sR r4_13<|sR r4_14 .ret
theorem o4:FnI 4 112 f4 c4 [.tmp 6]:=oM func4
def q9:=V (RS f9=·)
def r9_0:=X q9 0
def r9_1:=X q9 1
def r9_2:=X q9 2
def r9_3:=X q9 3
def r9_4:=X q9 4
def r9_5:=X q9 5
def r9_6:=X q9 6
def r9_7:=X q9 7
def r9_8:=X q9 8
def r9_9:=X q9 9
def r9_10:=X q9 10
def l9_0:CC:=sR r9_6<|.seq (xR 35 0)<|.seq (.block 1<|sR r9_7<|.seq (.reg r9_8 (some [(1,5),(1,6)]))<|iS 51<|sR r9_9 .ret)<|rN r9_10
def r9_11:=X q9 11
def c9:CC:=sR r9_0<|sR r9_1<|qR r9_2 23 r9_3<|sR r9_4<|.seq (sR r9_5<|.block 0<|.loop l9_0)<|sR r9_11 .ret
theorem o9:FnI 9 53 f9 c9 [.tmp 4]:=oM func9
def q10:=V (RS f10=·)
def r10_0:=X q10 0
def r10_1:=X q10 1
def r10_2:=X q10 2
def r10_3:=X q10 3
def r10_4:=X q10 4
def r10_5:=X q10 5
def r10_6:=X q10 6
def r10_7:=X q10 7
def r10_8:=X q10 8
def r10_9:=X q10 9
def r10_10:=X q10 10
def r10_11:=X q10 11
def r10_12:=X q10 12
def r10_13:=X q10 13
def r10_14:=X q10 14
def r10_15:=X q10 15
def r10_16:=X q10 16
def r10_17:=X q10 17
def r10_18:=X q10 18
def r10_19:=X q10 19
def r10_20:=X q10 20
def r10_21:=X q10 21
def r10_22:=X q10 22
def r10_23:=X q10 23
def r10_24:=X q10 24
def r10_25:=X q10 25
def r10_26:=X q10 26
def r10_27:=X q10 27
def l10_0:CC:=sR r10_16<|.seq (xR 67 0)<|.seq (.block 1<|sR r10_17<|sR r10_18<|qR r10_19 79 r10_20<|sR r10_21<|sR r10_22<|.seq (sR r10_23<|iS 96<|.seq (.reg r10_24 (some [(0,1),(0,2),(1,2),(0,3)]))<|.exit 1)<|sR r10_25<|.reg r10_26 (some [(0,1),(0,3),(1,3),(0,6),(1,6),(0,7)]))<|rN r10_27
def r10_28:=X q10 28
def r10_29:=X q10 29
def r10_30:=X q10 30
def r10_31:=X q10 31
def r10_32:=X q10 32
def c10:CC:=sR r10_0<|qR r10_1 25 r10_2<|qR r10_3 29 r10_4<|qR r10_5 36 r10_6<|sR r10_7<|sR r10_8<|sR r10_9<|sR r10_10<|qR r10_11 53 r10_12<|sR r10_13<|sR r10_14<|.seq (sR r10_15<|.block 0<|.loop l10_0)<|sR r10_28<|sR r10_29<|.seq (sR r10_30<|iS 126<|.seq (.reg r10_31 (some [(0,5),(0,6)])) .ret)<|.seq (.reg r10_32 (some [(0,5),(0,6)])) .ret
theorem o10:FnI 10 143 f10 c10 [.cell 4 34,.tmp 5]:=oM func10
def r13_0:RL:=[oP 2 (.box (.t 0)),oP 4 (.mov (.k (.vec [] 0 (some 0))))]
def r13_1:RL:=[ldO 9 true 4 2,mV 10 1,cL 11 59 [.t 9,.t 10],cL 12 21 [.t 11],mV 8 12,eX 13 8 0,eX 14 8 1,eX 15 8 2,mV 5 13,mV 6 14,mV 7 15]
def r13_2:RL:=[mV 16 5,mV 4 16]
def c13:CC:=sR r13_0<|sR r13_1<|sR r13_2 .ret
theorem o13:FnI 13 17 f13 c13 [.tmp 4]:=oM func13
def r18_0:RL:=[oP 1 (.box (.t 0)),oP 2 (.mov (kI 0))]
def r18_1:RL:=[oP 3 (.fld 0 (.t 1)),ldO 4 true 2 3,cL 5 69 [.t 4],oP 6 (.fld 2 (.t 1)),ldO 7 true 2 6,cL 8 69 [.t 7],bT 9 .mul 5 8,mV 2 9]
def c18:CC:=sR r18_0<|.seq (.reg r18_1 (some [(1,4),(2,4)])) .ret
theorem o18:FnI 18 10 f18 c18 [.tmp 2]:=oM func18
def q32:=V (RS f32=·)
def r32_0:=X q32 0
def r32_1:=X q32 1
def r32_2:=X q32 2
def r32_3:=X q32 3
def r32_4:=X q32 4
def r32_5:=X q32 5
def r32_6:=X q32 6
def c32:CC:=sR r32_0<|.seq (sR r32_1<|iS 11<|rN r32_2)<|.seq (sR r32_3<|iS 18<|rN r32_4)<|sR r32_5<|sR r32_6 .ret
theorem o32:FnI 32 27 f32 c32 [.tmp 6]:=oM func32
def q34:=V (RS f34=·)
def r34_0:=X q34 0
def r34_1:=X q34 1
def r34_2:=X q34 2
def r34_3:=X q34 3
def r34_4:=X q34 4
def r34_5:=X q34 5
def r34_6:=X q34 6
def r34_7:=X q34 7
def r34_8:=X q34 8
def l34_1:CC:= .seq (sR r34_6<|xR 21 2)<|.block 3<|sR r34_7<|rN r34_8
def r34_9:=X q34 9
def l34_0:CC:= .seq (sR r34_4<|xR 13 0)<|.block 1<|sR r34_5<|.seq (.block 2<|.loop l34_1)<|rN r34_9
def r34_10:=X q34 10
def c34:CC:=sR r34_0<|qR r34_1 11 r34_2<|sR r34_3<|.seq (.block 0<|.loop l34_0)<|sR r34_10 .ret
theorem o34:FnI 34 35 f34 c34 [.tmp 2,.tmp 3]:=oM func34
def q39:=V (RS f39=·)
def r39_0:=X q39 0
def r39_1:=X q39 1
def r39_2:=X q39 2
def r39_3:=X q39 3
def r39_4:=X q39 4
def r39_5:=X q39 5
def r39_6:=X q39 6
def r39_7:=X q39 7
def r39_8:=X q39 8
def r39_9:=X q39 9
def r39_10:=X q39 10
def r39_11:=X q39 11
def r39_12:=X q39 12
def l39_0:CC:=sR r39_7<|.seq (xR 39 0)<|.seq (.block 1<|sR r39_8<|sR r39_9<|.seq (.reg r39_10 (some [(2,4),(3,4),(2,11),(3,11),(4,11),(5,11),(2,14),(3,14),(4,14),(5,14),(11,14),(12,14),(13,14)]))<|.reg r39_11 (some [(0,1),(0,2),(1,2),(0,3)]))<|rN r39_12
def r39_13:=X q39 13
def c39:CC:=sR r39_0<|qR r39_1 24 r39_2<|sR r39_3<|sR r39_4<|sR r39_5<|.seq (sR r39_6<|.block 0<|.loop l39_0)<|sR r39_13 .ret
theorem o39:FnI 39 72 f39 c39 [.cell 4 34,.tmp 5]:=oM func39
def q40:=V (RS f40=·)
def r40_0:=X q40 0
def r40_1:=X q40 1
def r40_2:=X q40 2
def r40_3:=X q40 3
def c40:CC:=sR r40_0<|qR r40_1 5 r40_2<|sR r40_3 .ret
theorem o40:FnI 40 9 f40 c40 [.cell 2 34]:=oM func40
def q42:=V (RS f42=·)
def r42_0:=X q42 0
def r42_1:=X q42 1
def r42_2:=X q42 2
def r42_3:=X q42 3
def c42:CC:=sR r42_0<|sR r42_1<|.seq (.reg r42_2 (some [(3,6),(5,6),(6,12),(3,15),(5,15),(6,15),(12,15),(13,15),(14,15)]))<|.seq (.reg r42_3 (some [(0,2),(0,5),(0,6),(2,6),(5,6),(0,7),(0,8),(0,9)])) .ret
theorem o42:FnI 42 46 f42 c42 [.cell 10 34]:=oM func42
def q59:=V (RS f59=·)
def r59_0:=X q59 0
def r59_1:=X q59 1
def r59_2:=X q59 2
def c59:CC:=sR r59_0<|sR r59_1<|.seq (.reg r59_2 (some [(1,3)])) .ret
theorem o59:FnI 59 18 f59 c59 [.tmp 4]:=oM func59
def q99:=V (RS f99=·)
def r99_0:=X q99 0
def r99_1:=X q99 1
def r99_2:=X q99 2
def r99_3:=X q99 3
def r99_4:=X q99 4
def r99_5:=X q99 5
def r99_6:=X q99 6
def c99:CC:=sR r99_0<|sR r99_1<|qR r99_2 14 r99_3<|qR r99_4 18 r99_5<|sR r99_6 .ret
theorem o99:FnI 99 22 f99 c99 [.tmp 2,.tmp 3]:=oM func99
def q108:=V (RS f108=·)
def r108_0:=X q108 0
def r108_1:=X q108 1
def r108_2:=X q108 2
def r108_3:=X q108 3
def r108_4:=X q108 4
def r108_5:=X q108 5
def r108_6:=X q108 6
def r108_7:=X q108 7
def r108_8:=X q108 8
def r108_9:=X q108 9
def c108:CC:=sR r108_0<|qR r108_1 9 r108_2<|.seq (sR r108_3<|.block 0<|sR r108_4<|.cond (.t 12) (sR r108_5<|sR r108_6 .ret)<|sR r108_7<|iS 23<|sR r108_8 .ret)<|sR r108_9 .ret
theorem o108:FnI 108 27 f108 c108 [.tmp 2]:=oM func108
def q109:=V (RS f109=·)
def r109_0:=X q109 0
def r109_1:=X q109 1
def r109_2:=X q109 2
def r109_3:=X q109 3
def r109_4:=X q109 4
def r109_5:=X q109 5
def r109_6:=X q109 6
def r109_7:=X q109 7
def r109_8:=X q109 8
def r109_9:=X q109 9
def r109_10:=X q109 10
def r109_11:=X q109 11
def r109_12:=X q109 12
def r109_13:=X q109 13
def r109_14:=X q109 14
def r109_15:=X q109 15
def r109_16:=X q109 16
def r109_17:=X q109 17
def l109_1:CC:=sR r109_13<|.seq (xR 45 3)<|.seq (.block 4<|sR r109_14<|sR r109_15<|rN r109_16)<|rN r109_17
def r109_18:=X q109 18
def l109_0:CC:= .seq (sR r109_4<|xR 25 0)<|.seq (.block 1<|sR r109_5<|.seq (sR r109_6<|sR r109_7<|.block 2<|sR r109_8<|.cond (.t 36) (.exit 1)<|sR r109_9<|iS 38<|rN r109_10)<|sR r109_11<|sR r109_12<|.block 3<|.loop l109_1)<|rN r109_18
def r109_19:=X q109 19
def r109_20:=X q109 20
def r109_21:=X q109 21
def r109_22:=X q109 22
def r109_23:=X q109 23
def r109_24:=X q109 24
def l109_2:CC:=sR r109_21<|.seq (xR 61 5)<|.seq (.block 6<|sR r109_22<|.reg r109_23 (some [(5,10)]))<|rN r109_24
def r109_25:=X q109 25
def c109:CC:=sR r109_0<|sR r109_1<|sR r109_2<|.seq (sR r109_3<|.block 0<|.loop l109_0)<|sR r109_19<|.seq (sR r109_20<|.block 5<|.loop l109_2)<|sR r109_25 .ret
theorem o109:FnI 109 79 f109 c109 [.tmp 6]:=oM func109
def r110_0:RL:=[oP 2 (.box (.k (.agg [(.bool false),(.vec [] 0 (some 0)),(.bool false),(.vec [] 0 (some 0))])))]
def r110_1:RL:=[mV 3 0,cL 4 62 [.t 3],cL 5 100 [.t 4],sT (.store 4 (.t 2) (.t 5))]
def c110:CC:=sR r110_0<|sR r110_1 .ret
theorem o110:FnI 110 6 f110 c110 [.cell 2 34]:=oM func110
def q113:=V (RS f113=·)
def r113_0:=X q113 0
def r113_1:=X q113 1
def c113:CC:=sR r113_0<|sR r113_1 .ret
theorem o113:FnI 113 9 f113 c113 [.cell 4 34]:=oM func113
def q115:=V (RS f115=·)
def r115_0:=X q115 0
def r115_1:=X q115 1
def r115_2:=X q115 2
def r115_3:=X q115 3
def r115_4:=X q115 4
def r115_5:=X q115 5
def r115_6:=X q115 6
def l115_0:CC:=sR r115_3<|.seq (xR 10 0)<|.seq (.block 1<|sR r115_4<|rN r115_5)<|rN r115_6
def r115_7:=X q115 7
def c115:CC:=sR r115_0<|sR r115_1<|.seq (sR r115_2<|.block 0<|.loop l115_0)<|sR r115_7 .ret
theorem o115:FnI 115 18 f115 c115 [.cell 2 34]:=oM func115
def q116:=V (RS f116=·)
def r116_0:=X q116 0
def r116_1:=X q116 1
def r116_2:=X q116 2
def c116:CC:=sR r116_0<|sR r116_1<|sR r116_2 .ret
theorem o116:FnI 116 13 f116 c116 [.cell 2 34]:=oM func116
def r143_0:=V (RR f143 0=·)
def r143_1:=V (RR f143 1=·)
def r143_2:=V (RR f143 2=·)
def r143_3:=V (RR f143 3=·)
def r143_4:=V (RR f143 4=·)
def r143_5:=V (RR f143 5=·)
def r143_6:=V (RR f143 6=·)
def r143_7:=V (RR f143 7=·)
def l143_0:CC:=sR r143_3<|.seq (xR 18 0)<|.seq (.block 1<|sR r143_4<|sR r143_5<|rN r143_6)<|rN r143_7
def r143_8:=V (RR f143 8=·)
def r143_9:=V (RR f143 9=·)
def r143_10:=V (RR f143 10=·)
def r143_11:=V (RR f143 11=·)
def r143_12:=V (RR f143 12=·)
def r143_13:=V (RR f143 13=·)
def r143_14:=V (RR f143 14=·)
def r143_15:=V (RR f143 15=·)
def r143_16:=V (RR f143 16=·)
def r143_17:=V (RR f143 17=·)
def r143_18:=V (RR f143 18=·)
def r143_19:=V (RR f143 19=·)
def r143_20:=V (RR f143 20=·)
def r143_21:=V (RR f143 21=·)
def r143_22:=V (RR f143 22=·)
def l143_2:CC:=sR r143_14<|.seq (xR 63 4)<|.seq (.block 5<|sR r143_15<|.block 6<|sR r143_16<|.cond (.t 65) (.reg r143_17 (some [(3,8),(3,11)]))<|sR r143_18<|.cond (.t 87) (.reg r143_19 (some [(3,8),(3,13),(8,13),(3,16),(8,16),(3,20),(8,20),(13,20),(16,20),(3,23),(8,23),(13,23),(16,23)]))<|sR r143_20<|iS 121<|.reg r143_21 (some [(3,11),(6,11),(3,14),(6,14)]))<|rN r143_22
def r143_23:=V (RR f143 23=·)
def l143_1:CC:= .seq (.seq (.reg r143_10 (some [(6,10)]))<|xR 48 2)<|.seq (.block 3<|sR r143_11<|sR r143_12<|sR r143_13<|.block 4<|.loop l143_2)<|rN r143_23
def r143_24:=V (RR f143 24=·)
def c143:CC:=sR r143_0<|sR r143_1<|.seq (sR r143_2<|.block 0<|.loop l143_0)<|sR r143_8<|.seq (sR r143_9<|.block 2<|.loop l143_1)<|sR r143_24 .ret
theorem o143:FnI 143 145 f143 c143 [.tmp 4]:=oM func143
def q184:=V (RS f184=·)
def r184_0:=X q184 0
def r184_1:=X q184 1
def r184_2:=X q184 2
def r184_3:=X q184 3
def r184_4:=X q184 4
def r184_5:=X q184 5
def r184_6:=X q184 6
def r184_7:=X q184 7
def r184_8:=X q184 8
def r184_9:=X q184 9
def r184_10:=X q184 10
def r184_11:=X q184 11
def r184_12:=X q184 12
def r184_13:=X q184 13
def r184_14:=X q184 14
def r184_15:=X q184 15
def l184_1:CC:=sR r184_13<|.seq (xR 48 2)<|.seq (.block 3<|rN r184_14)<|rN r184_15
def r184_16:=X q184 16
def l184_0:CC:=sR r184_8<|.seq (xR 33 0)<|.seq (.block 1<|sR r184_9<|.seq (sR r184_10<|iS 39<|rN r184_11)<|sR r184_12<|.block 2<|.loop l184_1)<|rN r184_16
def r184_17:=X q184 17
def c184:CC:=sR r184_0<|qR r184_1 20 r184_2<|sR r184_3<|.seq (sR r184_4<|iS 22<|rN r184_5)<|sR r184_6<|.seq (sR r184_7<|.block 0<|.loop l184_0)<|sR r184_17 .ret
theorem o184:FnI 184 57 f184 c184 [.tmp 2,.tmp 3,.tmp 4]:=oM func184
def q186:=V (RS f186=·)
def r186_0:=X q186 0
def r186_1:=X q186 1
def r186_2:=X q186 2
def c186:CC:=sR r186_0<|sR r186_1<|sR r186_2 .ret
theorem o186:FnI 186 18 f186 c186 [.tmp 2]:=oM func186
def q187:=V (RS f187=·)
def r187_0:=X q187 0
def r187_1:=X q187 1
def r187_2:=X q187 2
def r187_3:=X q187 3
def r187_4:=X q187 4
def r187_5:=X q187 5
def r187_6:=X q187 6
def r187_7:=X q187 7
def l187_0:CC:=sR r187_2<|.seq (xR 9 0)<|.seq (.block 1<|.seq (.reg r187_3 (some []))<|sR r187_4<|sR r187_5<|rN r187_6)<|rN r187_7
def c187:CC:=sR r187_0<|sR r187_1<|.block 0<|.loop l187_0
theorem o187:FnI 187 34 f187 c187 []:=oM func187
def q188:=V (RS f188=·)
def r188_0:=X q188 0
def r188_1:=X q188 1
def r188_2:=X q188 2
def r188_3:=X q188 3
def r188_4:=X q188 4
def r188_5:=X q188 5
def r188_6:=X q188 6
def r188_7:=X q188 7
def l188_0:CC:=sR r188_2<|.seq (xR 9 0)<|.seq (.block 1<|.seq (.reg r188_3 (some []))<|sR r188_4<|sR r188_5<|rN r188_6)<|rN r188_7
def c188:CC:=sR r188_0<|sR r188_1<|.block 0<|.loop l188_0
theorem o188:FnI 188 29 f188 c188 []:=oM func188
def q191:=V (RS f191=·)
def r191_0:=X q191 0
def r191_1:=X q191 1
def r191_2:=X q191 2
def r191_3:=X q191 3
def c191:CC:=sR r191_0<|qR r191_1 6 r191_2<|sR r191_3 .ret
theorem o191:FnI 191 13 f191 c191 [.cell 2 32,.tmp 3]:=oM func191
def q209:=V (RS f209=·)
def r209_0:=X q209 0
def r209_1:=X q209 1
def r209_2:=X q209 2
def r209_3:=X q209 3
def r209_4:=X q209 4
def r209_5:=X q209 5
def r209_6:=X q209 6
def r209_7:=X q209 7
def l209_0:CC:= .seq (sR r209_3<|xR 11 0)<|.seq (.block 1<|sR r209_4<|sR r209_5<|rN r209_6)<|rN r209_7
def r209_8:=X q209 8
def c209:CC:=sR r209_0<|sR r209_1<|.seq (sR r209_2<|.block 0<|.loop l209_0)<|sR r209_8 .ret
theorem o209:FnI 209 36 f209 c209 [.tmp 4]:=oM func209
def q217:=V (RS f217=·)
def r217_0:=X q217 0
def r217_1:=X q217 1
def r217_2:=X q217 2
def r217_3:=X q217 3
def r217_4:=X q217 4
def r217_5:=X q217 5
def r217_6:=X q217 6
def r217_7:=X q217 7
def r217_8:=X q217 8
def r217_9:=X q217 9
def r217_10:=X q217 10
def r217_11:=X q217 11
def r217_12:=X q217 12
def r217_13:=X q217 13
def l217_0:CC:= .block 1<|sR r217_7<|sR r217_8<|sR r217_9<|sR r217_10<|qR r217_11 53 r217_12<|rN r217_13
def c217:CC:=sR r217_0<|qR r217_1 11 r217_2<|sR r217_3<|sR r217_4<|sR r217_5<|sR r217_6<|.block 0<|.loop l217_0
theorem o217:FnI 217 56 f217 c217 [.tmp 2]:=oM func217
def r219_0:RL:=[oP 2 (.mov (kI 0))]
def r219_1:RL:=[mV 3 0,cL 4 228 [.t 3],oP 5 (.bin .sub (kI 32) (.t 4)),mV 2 5]
def c219:CC:=sR r219_0<|sR r219_1 .ret
theorem o219:FnI 219 6 f219 c219 [.tmp 2]:=oM func219
def q220:=V (RS f220=·)
def r220_0:=X q220 0
def r220_1:=X q220 1
def r220_2:=X q220 2
def r220_3:=X q220 3
def r220_4:=X q220 4
def r220_5:=X q220 5
def r220_6:=X q220 6
def r220_7:=X q220 7
def r220_8:=X q220 8
def r220_9:=X q220 9
def l220_0:CC:=sR r220_4<|.seq (xR 16 0)<|.seq (.block 1<|sR r220_5<|sR r220_6<|sR r220_7<|rN r220_8)<|rN r220_9
def r220_10:=X q220 10
def r220_11:=X q220 11
def c220:CC:=sR r220_0<|sR r220_1<|sR r220_2<|.seq (sR r220_3<|.block 0<|.loop l220_0)<|sR r220_10<|sR r220_11 .ret
theorem o220:FnI 220 41 f220 c220 [.tmp 4]:=oM func220
def r221_0:=V (RR f221 0=·)
def r221_1:=V (RR f221 1=·)
def r221_2:=V (RR f221 2=·)
def r221_3:=V (RR f221 3=·)
def r221_4:=V (RR f221 4=·)
def r221_5:=V (RR f221 5=·)
def r221_6:=V (RR f221 6=·)
def r221_7:=V (RR f221 7=·)
def l221_0:CC:= .seq (.seq (.reg r221_4 (some [(9,18)]))<|xR 68 0)<|.block 1<|sR r221_5<|sR r221_6<|sR r221_7<|iS 81<|.exit 0
def r221_8:=V (RR f221 8=·)
def r221_9:=V (RR f221 9=·)
def r221_10:=V (RR f221 10=·)
def r221_11:=V (RR f221 11=·)
def r221_12:=V (RR f221 12=·)
def r221_13:=V (RR f221 13=·)
def r221_14:=V (RR f221 14=·)
def r221_15:=V (RR f221 15=·)
def r221_16:=V (RR f221 16=·)
def r221_17:=V (RR f221 17=·)
def l221_1:CC:=sR r221_10<|.seq (xR 84 2)<|.seq (.block 3<|sR r221_11<|sR r221_12<|sR r221_13<|sR r221_14<|sR r221_15<|rN r221_16)<|rN r221_17
def r221_18:=V (RR f221 18=·)
def r221_19:=V (RR f221 19=·)
def r221_20:=V (RR f221 20=·)
def r221_21:=V (RR f221 21=·)
def r221_22:=V (RR f221 22=·)
def r221_23:=V (RR f221 23=·)
def r221_24:=V (RR f221 24=·)
def r221_25:=V (RR f221 25=·)
def r221_26:=V (RR f221 26=·)
def r221_27:=V (RR f221 27=·)
def r221_28:=V (RR f221 28=·)
def r221_29:=V (RR f221 29=·)
def l221_2:CC:=sR r221_24<|.seq (xR 137 4)<|.seq (.block 5<|sR r221_25<|.seq (.reg r221_26 (some [(4,9)]))<|sR r221_27<|rN r221_28)<|rN r221_29
def r221_30:=V (RR f221 30=·)
def r221_31:=V (RR f221 31=·)
def c221:CC:=sR r221_0<|sR r221_1<|.seq (.reg r221_2 (some [(3,10)]))<|.seq (.reg r221_3 (some [(5,13)]))<|.seq (.block 0<|.loop l221_0)<|sR r221_8<|.seq (sR r221_9<|.block 2<|.loop l221_1)<|sR r221_18<|sR r221_19<|qR r221_20 132 r221_21<|sR r221_22<|.seq (sR r221_23<|.block 4<|.loop l221_2)<|sR r221_30<|sR r221_31 .ret
theorem o221:FnI 221 171 f221 c221 [.tmp 4]:=oM func221
def q222:=V (RS f222=·)
def r222_0:=X q222 0
def r222_1:=X q222 1
def r222_2:=X q222 2
def r222_3:=X q222 3
def r222_4:=X q222 4
def r222_5:=X q222 5
def r222_6:=X q222 6
def r222_7:=X q222 7
def l222_0:CC:=sR r222_1<|.seq (xR 9 0)<|.seq (.block 1<|sR r222_2<|sR r222_3<|.seq (sR r222_4<|iS 20<|rN r222_5)<|rN r222_6)<|rN r222_7
def c222:CC:=sR r222_0<|.block 0<|.loop l222_0
theorem o222:FnI 222 38 f222 c222 []:=oM func222
def q228:=V (RS f228=·)
def r228_0:=X q228 0
def r228_1:=X q228 1
def r228_2:=X q228 2
def r228_3:=X q228 3
def r228_4:=X q228 4
def r228_5:=X q228 5
def r228_6:=X q228 6
def r228_7:=X q228 7
def c228:CC:=sR r228_0<|.seq (sR r228_1<|iS 4<|sR r228_2<|rN r228_3)<|.seq (sR r228_4<|iS 8<|sR r228_5<|rN r228_6)<|sR r228_7 .ret
theorem o228:FnI 228 19 f228 c228 [.tmp 2]:=oM func228
end
end Go.Proofs.YtgfbaioffpcelaaGreatDoor
namespace Go.Knuth
structure Top(v u a b c d e X:Nat):Prop where
 x1:1<=X
 a0:2147483648<=a
 a1:a<4294967296
 b1:b<4294967296
 c1:c<4294967296
 d1:d<4294967296
 e1:e<4294967296
 vlo:(a*4294967296+b)*X<=v
 vhi:v<(a*4294967296+b+1)*X
 ulo:((c*4294967296+d)*4294967296+e)*X<=u
 uhi:u<((c*4294967296+d)*4294967296+e+1)*X
 lt:u<v*4294967296
theorem jam{x y X B e u v:Nat}(h6:x<=y)(h1:(y*B+e)*X<=u)(h2:v<x*X)(h3:u<v*B):False:=by
 have h7:=xV X (yN (xV B h6) (Nat.le_add_right _ e));rw[Nat.mul_right_comm]at h7;have h8:=xV B (yO h2);have h9:=qS h3 h8;omega
section
variable{v u a b c d e X:Nat}(h:Top v u a b c d e X)
include h
theorem Top.vpos:0<v:=by
 have h1:=h.vlo;have h2:=xT (show 1<=a*4294967296+b by have:=h.a0;omega) h.x1;omega
theorem Top.q_lt:u/v<4294967296:=(xU h.vpos).2 (by rw[qM];exact h.lt)
theorem Top.cmul{g:Nat}(hg:g*v<=u):g*(a*4294967296+b)<=(c*4294967296+d)*4294967296+e:=by
 have h1:=qY g h.vlo;have h2:=h.uhi;refine Nat.le_of_lt_succ (Nat.lt_of_mul_lt_mul_right (a:=X) ?_)
 calc g*(a*4294967296+b)*X=g*((a*4294967296+b)*X):=xQ _ _ _
  _<=g*v:=h1
  _<=u:=hg
  _<_:=h2
theorem Top.first:u/v<=(c*4294967296+d)/a:=by
 have h1:=h.cmul (g:=u/v) (jZ u v);have h2:=h.e1
 have h3:u/v*a<=c*4294967296+d:=by
  have h4:u/v*(a*4294967296+b)=u/v*a*4294967296+u/v*b:=by rw[xJ,xQ]
  generalize u/v*a=x at*;generalize u/v*b=y at*;omega
 exact(zR (by have:=h.a0;omega)).2 h3
theorem Top.c_le:c<=a:=by
 refine Classical.byContradiction λhn=>?_
 have h5:=h.b1;exact jam (show a*4294967296+b+1<=c*4294967296+d by omega) h.ulo h.vhi h.lt
theorem Top.bound{g r:Nat}(hg:g*a+r=c*4294967296+d):r<4294967296\/g<4294967296:=by
 rcases qT g 4294967296 with h1 | h1
 ·exact .inr h1
 ·refine .inl ?_;have h2:=h.c_le;have h3:=h.d1;have h4:=xV a h1;have h5:=xV 4294967296 h2;omega
theorem Top.dec{g r:Nat}(hg:g*a+r=c*4294967296+d)(hq:u/v<=g)(hc:4294967296<=g\/r*4294967296+e<g*b):1<=g/\u/v<=g-1/\(g-1)*a+(r+a)=c*4294967296+d:=by
 have g1:1<=g:=by
  rcases xY g with e | e
  ·subst e;rw[Nat.zero_mul]at hc;omega
  ·exact e
 have hne:u/v≠g:=λe0=>by
  rcases hc with hc | hc
  ·have:=h.q_lt;omega
  ·have h1:=h.cmul (g:=g) (by rw[<-e0];exact jZ u v);rw[xJ,<-xQ]at h1;generalize g*a=x at*;generalize g*b=y at*;omega
 refine⟨g1,by omega,?_⟩;obtain⟨g',rfl⟩:∃g',g=g'+1:=⟨g-1,by omega⟩
 rw[yJ,xD]at hg;rw[yH];omega
theorem Top.last{g r:Nat}(hg:g*a+r=c*4294967296+d)(hc:g<4294967296)(hr:4294967296<=r\/g*b<=r*4294967296+e):g<=u/v+1:=by
 have hb:g*b<=r*4294967296+e:=by
  rcases hr with hr | hr
  ·have h1:=xT (yO hc) (yO h.b1);have h2:=xV 4294967296 hr;omega
  ·exact hr
 have h1:g*(a*4294967296+b)<=(c*4294967296+d)*4294967296+e:=by
  rw[xJ,<-xQ];generalize g*a=x at*;generalize g*b=y at*;omega
 rcases xY g with e0 | e0
 ·rw[e0];exact yB _
 obtain⟨k,rfl⟩:∃k,g=k+1:=⟨g-1,by omega⟩
 have h2:k*v<=u:=by
  have h3:=xV X h1;have h4:=h.ulo;have h5:=qY k (yO h.vhi)
  have h6:k*((a*4294967296+b+1)*X)<=(k+1)*(a*4294967296+b)*X:=by
   rw[<-xQ];refine xV X ?_;have h7:k*(a*4294967296+b+1)=k*(a*4294967296+b)+k:=by rw[xJ,xM]
   rw[h7,yJ,xD];have:=h.a0;omega
  omega
 have:=(zR h.vpos).2 h2;omega
end
open Go.Limb
def sv(f:Nat->Nat):Nat->Nat
 |0=>0
 |i+1=>sv f i+4294967296^i*f i
theorem zqf(l:List Nat):∀i,val (l.take i)=sv (λt=>l.getD t 0) i
 |0=>by simp[val,sv]
 |i+1=>by rw[zbk,zqf l i];rfl
theorem zlr(l:List Nat):val l=sv (λt=>l.getD t 0) l.length:=by rw[<-zqf,xH]
theorem zcf{f g:Nat->Nat}:∀{n},(∀i,i<n->f i=g i)->sv f n=sv g n
 |0,_=>rfl
 |n+1,h=>by simp only[sv,zcf (n:=n) λi hi=>h i (by omega),h n (by omega)]
theorem zqg{f:Nat->Nat}:∀{n},(∀i,i<n->f i<4294967296)->sv f n<4294967296^n
 |0,_=>by simp[sv]
 |n+1,h=>by
  have h1:=zqg (n:=n) λi hi=>h i (by omega)
  have h2:=qY (4294967296^n) (show f n+1<=4294967296 from h n (by omega));simp only[sv];rw[xJ,xM]at h2;rw[xP];omega
theorem zfj(f:Nat->Nat)(j:Nat):∀n,sv f (j+n)=sv f j+4294967296^j*sv (λi=>f (j+i)) n
 |0=>by simp[sv]
 |n+1=>by
  show sv f (j+n)+4294967296^(j+n)*f (j+n)=_
  rw[zfj f j n];simp only[sv];rw[xJ,xL,xQ];omega
theorem jan{P U W V x y cy bw w cy' bw' g p:Nat}(h:U+P*(bw+cy)=W+g*V)(h1:cy'*4294967296+p=cy+g*y)(h2:x+4294967296*bw'=w+(p+bw)):U+P*x+P*4294967296*(bw'+cy')=W+P*w+g*(V+P*y):=by
 have e1:P*(cy'*4294967296+p)=P*(cy+g*y):=by rw[h1]
 have e2:P*(x+4294967296*bw')=P*(w+(p+bw)):=by rw[h2]
 grind
theorem qat{cy g y:Nat}(hc:cy<4294967296)(hg:g<4294967296)(hy:y<4294967296):cy+g*y<18446744073709551616/\(cy+g*y)/4294967296<4294967296:=by
 have h:=xT (show g<=4294967295 by omega) (show y<=4294967295 by omega);have:cy+g*y<=18446744069414584320:=by omega
 exact⟨by omega,by omega⟩
theorem jao{u v P U W x cy bw g:Nat}(hu:u=U+P*x)(h:U+P*(bw+cy)=W+g*v)(hW:W<P)(hv0:0<v)(hq:u/v<=g)(hg:g<=u/v+1):
  (bw+cy<=x->g=u/v/\u%v=W+P*(x-(bw+cy)))/\(x<bw+cy->g=u/v+1/\W+v=u%v+P*(bw+cy-x)):=by
 have hdm:=xA u v;have hm:=qE u hv0;have e:v*(u/v)=u/v*v:=qM _ _;refine⟨λhle=>?_,λhlt=>?_⟩
 ·obtain⟨z,rfl⟩:∃z,x=bw+cy+z:=⟨x-(bw+cy),by omega⟩
  have hgv:g*v+(W+P*z)=u:=by rw[hu,xJ];omega
  have hgq:g=u/v:=by
   rcases(by omega:g=u/v\/g=u/v+1)with h1 | h1
   ·exact h1
   ·rw[h1,yJ,xD]at hgv;omega
  refine⟨hgq,?_⟩;rw[<-hgq]at hdm e;rw[yI];omega
 ·obtain⟨z,hz⟩:∃z,bw+cy=x+(z+1):=⟨bw+cy-x-1,by omega⟩
  have hgv:u+P*(z+1)=W+g*v:=by
   rw[hu,<-h,hz,xJ P x];omega
  have hP:P<=P*(z+1):=zE P (by omega)
  have hgq:g=u/v+1:=by
   rcases(by omega:g=u/v\/g=u/v+1)with h1 | h1
   ·rw[h1]at hgv;omega
   ·exact h1
  refine⟨hgq,?_⟩;rw[hgq,yJ,xD]at hgv;rw[hz,yI];omega
theorem jap{W v r P C k:Nat}(h:W+v=r+P*k)(hk:1<=k)(hW:W<P)(hv:v<P)(hr:r<v)(hC:W+v=C+P*1\/W+v=C+P*0)(hCP:C<P):k=1/\C=r/\W+v=C+P:=by
 have k1:k=1:=by
  rcases(by omega:k=1\/2<=k)with e | e
  ·exact e
  ·have:=qY P e;omega
 subst k1;rcases hC with h1 | h1
 ·omega
 ·omega
theorem jff{f g:Nat->Nat}{n:Nat}(hn:2<=n)(hf:∀i,i<=n->f i<4294967296)(hg:∀i,i<n->g i<4294967296)(htop:2147483648<=g (n-1))(hlt:sv f (n+1)<sv g n*4294967296):
  Top (sv g n) (sv f (n+1)) (g (n-1)) (g (n-2)) (f n) (f (n-1)) (f (n-2)) (4294967296^(n-2)):=by
 obtain⟨k,rfl⟩:∃k,n=k+2:=⟨n-2,by omega⟩
 have l1:=zqg (f:=g) (n:=k) λi hi=>hg i (by omega)
 have l2:=zqg (f:=f) (n:=k) λi hi=>hf i (by omega)
 have e1:sv g (k+2)=sv g k+(g (k+1)*4294967296+g k)*4294967296^k:=by
  simp only[sv,xP];grind
 have e2:sv f (k+2+1)=sv f k+((f (k+2)*4294967296+f (k+1))*4294967296+f k)*4294967296^k:=by
  simp only[sv,xP];grind
 refine⟨xN (by decide),htop,hg _ (by omega),hg _ (by omega),hf _ (by omega),hf _ (by omega),hf _ (by omega),?_,?_,?_,?_,hlt⟩
 ·rw[e1];exact jI _ _
 ·rw[e1,yJ _ 1,xD]
  show sv g k+(g (k+2-1)*4294967296+g (k+2-2))*4294967296^k<(g (k+2-1)*4294967296+g (k+2-2))*4294967296^(k+2-2)+4294967296^(k+2-2)
  rw[yH];exact yE _ _ ▸ jJ l1 _
 ·rw[e2];exact jI _ _
 ·rw[e2,yJ _ 1,xD]
  show sv f k+((f (k+2)*4294967296+f (k+2-1))*4294967296+f (k+2-2))*4294967296^k<((f (k+2)*4294967296+f (k+2-1))*4294967296+f (k+2-2))*4294967296^(k+2-2)+4294967296^(k+2-2)
  rw[yH];exact yE _ _ ▸ jJ l2 _
theorem zxx{c x T:Nat}(hT:T<=2147483648)(hc:c<T)(hx:x<4294967296):c+x*T<18446744073709551616/\(c+x*T)/4294967296<T:=by
 have h:=xV T (show x<=4294967295 by omega);refine⟨by omega,?_⟩;rw[xU (by decide)];omega
def shrF(T:Nat)(f:Nat->Nat)(i:Nat):Nat:=(f i+4294967296*f (i+1))/T%4294967296
theorem qln{x y d c' T:Nat}(hT:0<T)(hT2:T∣4294967296)(hx:x<4294967296)(hd:d<T)(hy:y=T*c'+d):(x+4294967296*y)/T=4294967296*c'+(x+4294967296*d)/T/\(x+4294967296*d)/T<4294967296:=by
 constructor
 ·rw[hy,show x+4294967296*(T*c'+d)=x+4294967296*d+T*(4294967296*c') by grind,jQ _ _ hT];omega
 ·rw[xU hT];have:=qY 4294967296 (show d+1<=T by omega);omega
theorem qxb{T:Nat}(hT:0<T)(hT2:T∣4294967296)(f:Nat->Nat):∀n,(∀i,i<n->f i<4294967296)->(∀i,n<=i->f i=0)->∀k,k<=n->sv (λi=>shrF T f (n-k+i)) k=sv (λi=>f (n-k+i)) k/T
 |n,hf,hz,0,_=>by simp[sv]
 |n,hf,hz,k+1,hk=>by
  have ih:=qxb hT hT2 f n hf hz k (by omega)
  have sh:∀g:Nat->Nat,sv (λi=>g (n-(k+1)+i)) (k+1)=g (n-(k+1))+4294967296*sv (λi=>g (n-k+i)) k:=λg=>by
   have:=zfj (λi=>g (n-(k+1)+i)) 1 k;rw[yE 1 k]at this;rw[this];simp only[sv,yP,xD,xZ,zB,qG];congr 2;exact zcf λi _=>by rw[show n-(k+1)+(1+i)=n-k+i by omega]
  rw[sh,sh,ih];have hx:=hf (n-(k+1)) (by omega)
  have hrem:f (n-k)%T=sv (λi=>f (n-k+i)) k%T:=by
   cases k with
   |zero=>rw[hz (n-0) (by omega)];simp[sv]
   |succ k=>
    have:=zfj (λi=>f (n-(k+1)+i)) 1 k;rw[yE 1 k]at this;rw[this];simp only[sv,yP,xD,xZ,zB,qG];obtain⟨w,hw⟩:=hT2;rw[hw,xQ,zV]
  unfold shrF;rw[show n-(k+1)+1=n-k by omega];have e1:=xA (f (n-k)) T;have e2:=xA (sv (λi=>f (n-k+i)) k) T;rw[hrem]at e1;have hd:=qE (sv (λi=>f (n-k+i)) k) hT;obtain⟨a1,a2⟩:=qln (x:=f (n-(k+1))) hT hT2 hx hd e1.symm;obtain⟨b1,b2⟩:=qln (x:=f (n-(k+1))) hT hT2 hx hd e2.symm;rw[a1,b1,Nat.mul_add_mod_self_left,xX a2];omega
theorem jaq{T:Nat}(hT:0<T)(hT2:T∣4294967296){f:Nat->Nat}{n:Nat}(hf:∀i,i<n->f i<4294967296)(hz:∀i,n<=i->f i=0):sv (shrF T f) n=sv f n/T:=by
 have:=qxb hT hT2 f n hf hz n (qU n);simpa using this
theorem jfg{a b T Q r:Nat}(hT:0<T)(hb:0<b)(h:a*T=Q*(b*T)+r)(hr:r<b*T):Q=a/b/\r/T=a%b:=by
 have hdvd:T∣r:=by
  have h1:T∣a*T:=jC T a;have h2:T∣Q*(b*T):=by rw[<-xQ];exact jC T _
  rw[h]at h1;exact(Nat.dvd_add_right h2).1 h1
 obtain⟨z,rfl⟩:=hdvd;rw[qM b T]at hr;have hz:=zY hr
 have e:a=Q*b+z:=by
  refine Nat.eq_of_mul_eq_mul_right hT ?_;rw[h];grind
 have h3:=Nat.div_mod_unique (a:=a) (b:=b) (c:=z) (d:=Q) hb |>.2 ⟨by rw[e,qM b Q];omega,hz⟩
 rw[zG _ hT];exact⟨h3.1.symm,h3.2.symm⟩
end Go.Knuth
namespace Go.Proofs.YtgfbaioffpcelaaGreatDoor
open Go Go.AL Go.Proofs Go.Limb Go.Knuth
theorem zcw{l:List Nat}{i v:Nat}(h:i<l.length):(l.set i v).getD i 0=v:=by rw[qX,zC];simp[h]
theorem zbj{l:List Nat}{i t v:Nat}(h:i≠t):(l.set i v).getD t 0=l.getD t 0:=by rw[qX,zC,if_neg h,<-qX]
theorem jar{x s:Nat}(hs:s<32)(hx:x<4294967296):IntKind.u64.wrap ((x:Int)*2^min s IntKind.u64.bits)=((x*2^s:Nat):Int):=by
 have e:min s IntKind.u64.bits=s:=zN (by show s<=64;omega);have h1:2^s<=2^31:=qD (by decide) (by omega);have h2:=xT (yO hx) h1;rw[e,show(2:Int)^s=((2^s:Nat):Int) by simp,<-yG];exact zbg (by omega)
theorem jfh{a b s:Nat}(hs:s<32)(ha:a<2^s)(hb:b<4294967296):IntKind.u64.wrap ((BitVec.ofInt IntKind.u64.bits (a:Int) ||| BitVec.ofInt IntKind.u64.bits ((b*2^s:Nat):Int)).toNat:Int)=((a+b*2^s:Nat):Int):=by
 have h1:2^s<=2^31:=qD (by decide) (by omega);have h2:=xT (show b<=4294967295 by omega) h1
 have e:((BitVec.ofInt IntKind.u64.bits (a:Int) ||| BitVec.ofInt IntKind.u64.bits ((b*2^s:Nat):Int)).toNat)=a ||| b*2^s:=by
  show((BitVec.ofInt 64 (a:Int) ||| BitVec.ofInt 64 ((b*2^s:Nat):Int)).toNat)=_
  rw[BitVec.toNat_or,BitVec.ofInt_natCast,BitVec.ofInt_natCast,BitVec.toNat_ofNat,BitVec.toNat_ofNat,xX (by omega),xX (by omega)]
 rw[e,Nat.or_comm,qM b,<-zJ ha,yE (2^s*b)];exact zbg (by rw[qM];omega)
theorem qlo{x s:Nat}(hs:s<64):Int.fdiv (x:Int) (2^min s IntKind.u64.bits)=((x/2^s:Nat):Int):=by
 have e:min s IntKind.u64.bits=s:=zN (by show s<=64;omega);rw[e,yQ _ (by exact Int.le_of_lt (Int.pow_pos (by decide)))];simp
theorem zdp{a b:List Nat}(hl:a.length=b.length)(h:∀t,t<a.length->a.getD t 0=b.getD t 0):a=b:=by
 refine zI hl λi h1 h2=>?_
 have:=h i h1
 rwa[qX,qW h1,qX,qW h2]at this
theorem zqh{l:List Nat}{i:Nat}(h:i<l.length):l.drop i=l.getD i 0::l.drop (i+1):=by
 rw[zU h,qX,qW h];rfl
theorem zqi{l r:List Nat}{i x:Nat}(h:l.drop i=x::r):i<l.length/\l.getD i 0=x/\l.drop (i+1)=r:=by
 have hi:i<l.length:=by
  rcases qT i l.length with h1 | h1
  ·exact h1
  ·rw[List.drop_eq_nil_of_le h1]at h;simp at h
 rw[zqh hi]at h;simp only[List.cons.injEq]at h;exact⟨hi,h⟩
def shlR(T:Nat):List Nat->Nat->List Nat
 | [],c=>[c]
 |x::r,c=>(c+x*T)%4294967296::shlR T r ((c+x*T)/4294967296)
theorem zog(T:Nat):∀(l:List Nat) (c:Nat),(shlR T l c).length=l.length+1
 | [],_=>rfl
 |x::r,c=>by simp only[shlR,yK,zog T r]
theorem zuz(T:Nat):∀(l:List Nat) (c:Nat),val (shlR T l c)=c+T*val l
 | [],c=>by simp[shlR,Limb.val]
 |x::r,c=>by
  simp only[shlR,Limb.val,zuz T r];have:=xA (c+x*T) 4294967296;grind
theorem zva{T:Nat}(hT:T<=2147483648):∀(l:List Nat) (c:Nat),Dig l->c<T->Dig (shlR T l c)
 | [],c,_,hc=>Dig.cons (by omega) Dig.nil
 |x::r,c,hl,hc=>Dig.cons (qE _ (by decide)) (zva hT r _ hl.tail (zxx hT hc hl.head).2)
theorem zsp{m:List Nat}(c:Option Nat)(hm:m.length<=1100)(dm:Dig m){s:Nat}(hs:s<32):
  Rt 220 [.vec (u32s m) m.length c,.int .i64 (s:Int)] [] (.sl 0 0 (m.length+1) 1 (some (m.length+1))) [some (u32s (shlR (2^s) m 0))]:=by
 have hT:2^s<=2147483648:=qD (n:=2) (by decide) (show s<=31 by omega);have hT0:0<2^s:=xN (by decide);have hFl:=zog (2^s) m 0;have hF0:shlR (2^s) (m.drop 0) 0=(shlR (2^s) m 0).drop 0:=rfl;generalize shlR (2^s) m 0=F at*;have w0:=wS1 m.length (by omega);refine oF o220 ?_;simp only[c220,r220_0,r220_1,r220_2,r220_3,SS,reduceCtorEq,reduceIte,qQ,w0,znb,qZ];refine⟨by omega,⟨by omega,by omega,by omega,by omega⟩,?_⟩
 refine zaj (λk E H=>∃i cy W,i+k=m.length/\W.length=m.length+1/\(∀t,t<i->W.getD t 0=F.getD t 0)/\shlR (2^s) (m.drop i) cy=F.drop i/\cy<2^s/\
   E 0= .vec (u32s m) m.length c/\E 1= .int .i64 (s:Int)/\E 5= .sl 0 0 (m.length+1) 1 (some (m.length+1))/\E 6= .int .u64 (cy:Nat)/\E 13= .vec (u32s m) m.length c/\E 14= .int .i64 (m.length:Nat)/\E 15= .int .i64 (i:Nat)/\H=[some (u32s W)]) (n:=m.length)
  ⟨0,0,List.replicate (m.length+1) 0,by omega,by simp,λt h=>absurd h (by omega),hF0,hT0,?_,?_,?_,?_,?_,?_,?_,rfl⟩ ?_
 ·rfl
 ·rfl
 ·rfl
 ·rfl
 ·rfl
 ·rfl
 ·rfl
 rintro k E H ⟨i,cy,W,hik,hWl,hWt,hF,hcy,h0,h1,h5,h6,h13,h14,h15,rfl⟩;refine wM ?_;cases k with
 |succ k=>
  have hi:i<m.length:=by omega
  have bi:=dm.getD i;rw[zqh hi]at hF;obtain⟨q1,q2,q3⟩:=zqi hF.symm;have g1:=zal m i hi AV.junk;have d1:decide ((i:Int)<(m.length:Nat))=true:=dT;have w5:=wS1 i (by omega);have sc:=zxx hT hcy bi;have e1:=jar hs bi;have e2:=jfh hs hcy bi;simp only[l220_0,r220_4,r220_5,SS,fC,reduceCtorEq,reduceIte,qQ,h13,h14,h15,d1,qZ,g1,zae];refine⟨⟨by omega,by omega⟩,by omega,?_⟩;simp only[r220_6,r220_7,r220_8,r220_9,SS,reduceIte,qQ,h1,h5,h6,h15,qZ,zae,zbg (show m.getD i 0<18446744073709551616 by omega),e1,e2,wu32,zbq,zlm,w5];refine⟨by omega,⟨by omega,by omega⟩,by omega,by omega,k,_,_,by omega,⟨i+1,_,_,by omega,by rw[qA];exact hWl,λt ht=>?_,q3.symm,sc.2,?_,?_,?_,?_,?_,?_,?_,rfl⟩,.refl⟩
  ·rcases(by omega:t<i\/t=i)with h | rfl
   ·rw[zbj (by omega)];exact hWt t h
   ·rw[zcw (by omega)];exact q2.symm
  all_goals simp only[UU,qQ,reduceIte, *]
 |zero=>
  obtain rfl:i=m.length:=by omega
  have d1:decide ((m.length:Int)<(m.length:Nat))=false:=dF;rw[zL]at hF;obtain⟨q1,q2,q3⟩:=zqi hF.symm
  have hW:W.set m.length cy=F:=zdp (by rw[qA,hWl,hFl]) λt ht=>by
   rw[qA]at ht;rcases(by omega:t<m.length\/t=m.length)with h | rfl
   ·rw[zbj (by omega)];exact hWt t h
   ·rw[zcw (by omega)];exact q2.symm
  simp only[l220_0,r220_4,SS,fC,reduceCtorEq,reduceIte,h14,h15,d1];simp only[r220_10,r220_11,SS,reduceCtorEq,reduceIte,qQ,h0,h5,h6,qZ,zae,zmz (show cy<4294967296 by omega),zbq,hW];refine⟨⟨by omega,by omega⟩,by omega,?_⟩;exact kR
theorem qlp{x:Nat}(h:x<4294967296):IntKind.u64.wrap ((x:Int)*2^min (Int.toNat 32) IntKind.u64.bits)=((x*4294967296:Nat):Int):=by
 show IntKind.u64.wrap ((x:Int)*4294967296)=_
 rw[show(x:Int)*4294967296=((x*4294967296:Nat):Int) by omega];exact zbg (by omega)
theorem jas{a b:Nat}(ha:a<4294967296)(hb:b<4294967296):IntKind.u64.wrap ((BitVec.ofInt IntKind.u64.bits ((b*4294967296:Nat):Int) ||| BitVec.ofInt IntKind.u64.bits (a:Int)).toNat:Int)=((a+4294967296*b:Nat):Int):=by
 rw[BitVec.or_comm];exact or64 ha hb
def dlR(b:Nat):List Nat->List Nat×Nat
 | []=>([],0)
 |x::r=>((x+4294967296*(dlR b r).2)/b::(dlR b r).1,(x+4294967296*(dlR b r).2)%b)
theorem qau(b:Nat):∀l,(dlR b l).1.length=l.length
 | []=>rfl
 |x::r=>by simp only[dlR,yK,qau b r]
theorem qdk{b:Nat}(hb:0<b):∀l,(dlR b l).2<b
 | []=>hb
 |x::r=>qE _ hb
theorem qlq{b:Nat}:∀l,val (dlR b l).1*b+(dlR b l).2=val l
 | []=>by simp[dlR,Limb.val]
 |x::r=>by
  have ih:=qlq (b:=b) r;simp only[dlR,Limb.val];have:=xA (x+4294967296*(dlR b r).2) b;grind
theorem qlr{b:Nat}(hb:0<b):∀l,Dig l->Dig (dlR b l).1
 | [],_=>Dig.nil
 |x::r,hl=>by
  refine Dig.cons ?_ (qlr hb r hl.tail);have h1:=qdk hb r;have h2:=hl.head;rw[xU hb];have:=qY 4294967296 (show(dlR b r).2+1<=b by omega);omega
theorem qdl(b:Nat):∀(l:List Nat) (j:Nat),(dlR b l).1.drop j=(dlR b (l.drop j)).1
 |_,0=>rfl
 | [],j+1=>rfl
 |x::r,j+1=>by simp only[dlR,List.drop_succ_cons];exact qdl b r j
theorem qta{m:List Nat}{b:Nat}(c:Option Nat)(hm:m.length<=1100)(dm:Dig m)(hb:0<b)(hb2:b<4294967296):
  Rt 209 [.sl 0 0 m.length 1 c,.int .u32 (b:Int)] [some (u32s m)] (.int .u32 ((dlR b m).2:Nat)) [some (u32s (dlR b m).1)]:=by
 have hFl:=qau b m;have hFd:=λj=>qdl b m j
 have hr0:(dlR b (m.drop 0)).2=(dlR b m).2:=rfl;have hlast:=qdk hb m;generalize (dlR b m).1=F at*;have w0:IntKind.i64.wrap ((m.length:Int)-1)=(m.length:Int)-1:=wQ (by omega);refine oF o209 ?_;simp only[c209,r209_0,r209_1,r209_2,SS,reduceCtorEq,reduceIte,qQ,w0]
 refine zaj (λk E H=>∃W:List Nat,k<=m.length/\W.length=m.length/\(∀t,t<k->W.getD t 0=m.getD t 0)/\(∀t,k<=t->W.getD t 0=F.getD t 0)/\
   E 0= .sl 0 0 m.length 1 c/\E 1= .int .u32 (b:Int)/\E 5= .int .u64 ((dlR b (m.drop k)).2:Nat)/\E 6= .int .i64 ((k:Int)-1)/\H=[some (u32s W)]) (n:=m.length)
  ⟨m,qU _,rfl,λ_ _=>rfl,λt ht=>by rw[zgv ht,zgv (by omega)],?_,?_,?_,?_,rfl⟩ ?_
 ·rfl
 ·rfl
 ·simp only[UU,qQ,reduceIte,zL];rfl
 ·rfl
 rintro k E H ⟨W,hk,hWl,hW1,hW2,h0,h1,h5,h6,rfl⟩;refine wM ?_;cases k with
 |succ k=>
  have bi:=dm.getD k;have hr:=qdk hb (m.drop (k+1));have ed:=zqh (l:=m) (i:=k) (by omega);have eF:=hFd k;rw[ed]at eF;obtain⟨q1,q2,q3⟩:=zqi (by rw[eF];rfl);have e2:(dlR b (m.drop k)).2=(m.getD k 0+4294967296*(dlR b (m.drop (k+1))).2)%b:=by rw[ed];rfl
  have g1:=zal W k (by omega) AV.junk;rw[hW1 k (by omega)]at g1;generalize (dlR b (m.drop (k+1))).2=r at*;have d1:decide ((0:Int)<=((k+1:Nat):Int)-1)=true:=dT;have w5:IntKind.i64.wrap (((k+1:Nat):Int)-1-1)=(k:Int)-1:=wQ (by omega);have tn:(((k+1:Nat):Int)-1).toNat=k:=by omega
  have e3:=qlp (x:=r) (by omega);have e4:=jas (a:=m.getD k 0) (b:=r) bi (by omega)
  have hq:(m.getD k 0+4294967296*r)/b<4294967296:=by
   rw[xU hb];have:=qY 4294967296 (show r+1<=b by omega);omega
  have e5:IntKind.u64.wrap (Int.tdiv ((m.getD k 0+4294967296*r:Nat):Int) (b:Int))=(((m.getD k 0+4294967296*r)/b:Nat):Int):=by
   show IntKind.u64.wrap (((m.getD k 0+4294967296*r)/b:Nat):Int)=_
   exact zbg (by omega)
  have e6:Int.tmod ((m.getD k 0+4294967296*r:Nat):Int) (b:Int)=(((m.getD k 0+4294967296*r)%b:Nat):Int):=rfl;simp only[l209_0,r209_3,SS,fC,reduceCtorEq,reduceIte,qQ,h6,d1];simp only[r209_4,SS,fC,reduceCtorEq,reduceIte,qQ,h0,h5,h6,tn,g1,zae,zbg (show m.getD k 0<18446744073709551616 by omega),e3,e4];refine⟨by decide,⟨by omega,by omega⟩,by omega,?_⟩;simp only[r209_5,SS,reduceCtorEq,reduceIte,qQ,h0,h1,h6,tn,zae,zbg (show b<18446744073709551616 by omega),e5,zmz hq,zbq];refine⟨by omega,⟨by omega,by omega⟩,by omega,?_⟩;simp only[r209_6,r209_7,SS,reduceIte,qQ,h1,h6,zbg (show b<18446744073709551616 by omega),e6,w5];refine⟨by omega,k,_,_,by omega,⟨_,by omega,by rw[qA];exact hWl,λt ht=>?_,λt ht=>?_,?_,?_,?_,?_,rfl⟩,.refl⟩
  ·rw[zbj (by omega)];exact hW1 t (by omega)
  ·rcases(by omega:t=k\/k+1<=t)with rfl | h
   ·rw[zcw (by omega)];exact q2.symm
   ·rw[zbj (by omega)];exact hW2 t h
  ·simp only[UU,qQ,h0]
  ·simp only[UU,qQ,h1]
  ·simp only[UU,qQ,reduceIte,e2]
  ·rfl
 |zero=>
  have d1:decide ((0:Int)<=((0:Nat):Int)-1)=false:=rfl;have hW:W=F:=zdp (by omega) λt _=>hW2 t (yB t)
  rw[hr0]at h5;simp only[l209_0,r209_3,SS,fC,reduceCtorEq,reduceIte,qQ,h6,d1];simp only[r209_8,SS,reduceIte,qQ,h5,zmz (show(dlR b m).2<4294967296 by omega),hW];exact kR
def shrL(T:Nat)(m:List Nat):List Nat:=(List.range m.length).map (shrF T λt=>m.getD t 0)
theorem zoh(T:Nat)(m:List Nat):(shrL T m).length=m.length:=by simp[shrL]
theorem zqj{T:Nat}{m:List Nat}{t:Nat}(h:t<m.length):(shrL T m).getD t 0=shrF T (λt=>m.getD t 0) t:=by
 rw[qX];simp[shrL,h]
theorem qtb(T:Nat)(m:List Nat):Dig (shrL T m):=λd hd=>by
 obtain⟨i,_,rfl⟩:=List.mem_map.1 hd;exact qE _ (by decide)
theorem qtc{s:Nat}(hs:s<32){m:List Nat}(dm:Dig m):val (shrL (2^s) m)=val m/2^s:=by
 have h:=jaq (T:=2^s) (xN (by decide)) (by rw[show(4294967296:Nat)=2^32 from rfl];exact jL 2 (by omega)) (f:=λt=>m.getD t 0) (n:=m.length) (λi _=>dm.getD i) (λi hi=>zgv hi);rw[zlr,zoh,zlr m,<-h];exact zcf λi hi=>zqj hi
theorem qav{m:List Nat}(c:Option Nat)(hm:m.length<=1102)(dm:Dig m){s:Nat}(hs:s<32):
  Rt 222 [.sl 0 0 m.length 1 c,.int .i64 (s:Int)] [some (u32s m)] (.tup []) [some (u32s (shrL (2^s) m))]:=by
 refine oF o222 ?_;simp only[c222,r222_0,SS,reduceIte]
 refine zaj (λk E H=>∃i W,i+k=m.length/\W.length=m.length/\(∀t,t<i->W.getD t 0=shrF (2^s) (λt=>m.getD t 0) t)/\(∀t,i<=t->W.getD t 0=m.getD t 0)/\
   E 0= .sl 0 0 m.length 1 c/\E 1= .int .i64 (s:Int)/\E 7= .int .i64 (m.length:Nat)/\E 8= .int .i64 (i:Nat)/\H=[some (u32s W)]) (n:=m.length)
  ⟨0,m,by omega,rfl,λt h=>absurd h (by omega),λ_ _=>rfl,?_,?_,?_,?_,rfl⟩ ?_
 ·rfl
 ·rfl
 ·rfl
 ·rfl
 rintro k E H ⟨i,W,hik,hWl,hW1,hW2,h0,h1,h7,h8,rfl⟩;refine wM ?_;cases k with
 |succ k=>
  have hi:i<m.length:=by omega
  have bi:=dm.getD i;have bj:=dm.getD (i+1);have g1:=zal W i (by omega) AV.junk;rw[hW2 i (qU i)]at g1;have d1:decide ((i:Int)<(m.length:Nat))=true:=dT;have w5:=wS1 i (by omega);have e7:=qlo (x:=m.getD i 0+4294967296*m.getD (i+1) 0) (s:=s) (by omega)
  have nx:∀W':List Nat,W'.length=m.length->(∀t,t≠i->W'.getD t 0=W.getD t 0)->W'.getD i 0=shrF (2^s) (λt=>m.getD t 0) i->(∀t,t<i+1->W'.getD t 0=shrF (2^s) (λt=>m.getD t 0) t)/\∀t,i+1<=t->W'.getD t 0=m.getD t 0:=λW' _ h2 h3=>
   ⟨λt ht=>by
    rcases(by omega:t<i\/t=i)with h | rfl
    ·rw[h2 t (by omega)];exact hW1 t h
    ·exact h3,λt ht=>by rw[h2 t (by omega)];exact hW2 t (by omega)⟩
  have nx2:=nx (W.set i ((m.getD i 0+4294967296*m.getD (i+1) 0)/2^s%4294967296)) (by rw[qA];exact hWl) (λt ht=>zbj (λe=>ht e.symm)) (zcw (by omega));simp only[l222_0,r222_1,r222_2,r222_3,SS,fC,reduceCtorEq,reduceIte,qQ,h0,h7,h8,d1,qZ,g1,zae,zbg (show m.getD i 0<18446744073709551616 by omega)];refine⟨⟨by omega,by omega⟩,by omega,?_⟩;by_cases hin:i+1<m.length
  ·have d2:decide (((i+1:Nat):Int)<(m.length:Nat))=true:=dT;have g2:=zal W (i+1) (by omega) AV.junk;rw[hW2 (i+1) (by omega)]at g2;have e3:=qlp bj;have e4:=or64 bi bj;simp only[r222_4,SS,fC,reduceCtorEq,reduceIte,qQ,h0,w5,d2];simp only[r222_5,SS,fC,reduceCtorEq,reduceIte,qQ,h0,w5,qZ,g2,zae,zbg (show m.getD (i+1) 0<18446744073709551616 by omega),e3,e4];refine⟨⟨by omega,by omega⟩,by omega,by decide,?_⟩;simp only[r222_6,r222_7,SS,reduceCtorEq,reduceIte,qQ,h0,h1,h8,qZ,zae,e7,wu32,zbq,w5];refine⟨by omega,⟨by omega,by omega⟩,by omega,k,_,_,by omega,⟨i+1,_,by omega,by rw[qA];exact hWl,nx2.1,nx2.2,?_,?_,?_,?_,rfl⟩,.refl⟩
   all_goals simp only[UU,qQ,reduceIte, *]
  ·have d2:decide (((i+1:Nat):Int)<(m.length:Nat))=false:=dF;have e0:m.getD (i+1) 0=0:=zgv (by omega);rw[e0,xW,qG]at e7 nx2;simp only[r222_4,SS,fC,reduceCtorEq,reduceIte,qQ,h0,w5,d2];simp only[r222_6,r222_7,SS,reduceCtorEq,reduceIte,qQ,h0,h1,h8,qZ,zae,e7,wu32,zbq,w5];refine⟨by omega,⟨by omega,by omega⟩,by omega,k,_,_,by omega,⟨i+1,_,by omega,by rw[qA];exact hWl,nx2.1,nx2.2,?_,?_,?_,?_,rfl⟩,.refl⟩
   all_goals simp only[UU,qQ,reduceIte, *]
 |zero=>
  obtain rfl:i=m.length:=by omega
  have d1:decide ((m.length:Int)<(m.length:Nat))=false:=dF;have hW:W=shrL (2^s) m:=zdp (by rw[hWl,zoh]) λt ht=>by rw[hW1 t (by omega),zqj (by omega)]
  simp only[l222_0,r222_1,SS,fC,reduceCtorEq,reduceIte,h7,h8,d1,hW];exact⟨.inr trivial,_,rfl,.keep _ _⟩
theorem shrU{x s:Nat}(hs:s<32):Int.fdiv (x:Int) (2^min s IntKind.u32.bits)=((x/2^s:Nat):Int):=by
 have e:min s IntKind.u32.bits=s:=zN (by show s<=32;omega);rw[e,yQ _ (by exact Int.le_of_lt (Int.pow_pos (by decide)))];simp
def tabS:ByteArray:=match r228_7 with
 |_::_::_::⟨_,_,.idxs (.k (.str s)) _⟩::_=>s
 |_=>⟨#[]⟩
theorem qtd:r228_7=[mV 13 2,mV 14 0,oP 15 (.conv .u8 (.t 14)),oP 16 (.idxs (.k (.str tabS)) (.t 15)),oP 17 (.conv .i64 (.t 16)),bT 18 .add 13 17,mV 2 18]:=by kernel_rfl
def lenB(y:Nat):Nat:=if y<1 then 0 else if y<2 then 1 else if y<4 then 2 else if y<8 then 3 else if y<16 then 4 else if y<32 then 5 else if y<64 then 6 else if y<128 then 7 else 8
theorem jfi:(Nat.beq tabS.size 256 && (List.range 256).all λy=>Nat.beq (tabS.data.getD y 0).toNat (lenB y))=true:=by kernel_rfl
theorem zvb{y:Nat}(h:y<256):zzx (.str tabS) (.int .u8 (y:Int))=some (.int .u8 (lenB y:Nat)):=by
 have h0:=jfi;rw[Bool.and_eq_true]at h0;have h1:=zS h0.1;have h2:=zS (List.all_eq_true.1 h0.2 y (List.mem_range.2 h));simp only[zzx,h1,qZ,h2];rw[need,if_pos ⟨by omega,by omega⟩]
theorem zht(y:Nat):lenB y<=8:=by unfold lenB;(repeat' split)<;>omega
theorem zvc{y:Nat}(h:y<256)(h0:0<y):1<=lenB y/\2^(lenB y-1)<=y/\y<2^lenB y:=by
 unfold lenB;split
 ·omega
 split
 ·exact⟨by omega,by show 2^0<=y;omega,by show y<2^1;omega⟩
 split
 ·exact⟨by omega,by show 2^1<=y;omega,by show y<2^2;omega⟩
 split
 ·exact⟨by omega,by show 2^2<=y;omega,by show y<2^3;omega⟩
 split
 ·exact⟨by omega,by show 2^3<=y;omega,by show y<2^4;omega⟩
 split
 ·exact⟨by omega,by show 2^4<=y;omega,by show y<2^5;omega⟩
 split
 ·exact⟨by omega,by show 2^5<=y;omega,by show y<2^6;omega⟩
 split
 ·exact⟨by omega,by show 2^6<=y;omega,by show y<2^7;omega⟩
 exact⟨by omega,by show 2^7<=y;omega,by show y<2^8;omega⟩
theorem qls{x y n k:Nat}(hk:y=x/2^k)(h1:1<=n)(h2:2^(n-1)<=y)(h3:y<2^n):2^(n+k-1)<=x/\x<2^(n+k):=by
 have hp:0<2^k:=xN (by decide);have e:=xA x (2^k);have hm:=qE x hp;rw[<-hk]at e;rw[show n+k-1=k+(n-1) by omega,show n+k=k+n by omega,xL,xL];have a1:=qY (2^k) h2;have a2:=qY (2^k) (show y+1<=2^n by omega);rw[xJ,xM]at a2;exact⟨by omega,by omega⟩
def lenN(x:Nat):Nat:=if 65536<=x then(if 256<=x/65536 then lenB (x/65536/256)+24 else lenB (x/65536)+16)else if 256<=x then lenB (x/256)+8 else lenB x
theorem jat{x:Nat}(hx:0<x)(hx2:x<4294967296):1<=lenN x/\lenN x<=32/\2^(lenN x-1)<=x/\x<2^lenN x:=by
 unfold lenN;split
 ·split
  ·have h:=zvc (y:=x/65536/256) (by omega) (by omega);have:=zht (x/65536/256);have u:=qls (x:=x) (k:=24) (by show _=x/16777216;omega) h.1 h.2.1 h.2.2;exact⟨by omega,by omega,u⟩
  ·have h:=zvc (y:=x/65536) (by omega) (by omega);have:=zht (x/65536);have u:=qls (x:=x) (k:=16) (by show _=x/65536;rfl) h.1 h.2.1 h.2.2;exact⟨by omega,by omega,u⟩
 ·split
  ·have h:=zvc (y:=x/256) (by omega) (by omega);have:=zht (x/256);have u:=qls (x:=x) (k:=8) (by show _=x/256;rfl) h.1 h.2.1 h.2.2;exact⟨by omega,by omega,u⟩
  ·have h:=zvc (y:=x) (by omega) hx;have:=zht x;exact⟨h.1,by omega,h.2⟩
theorem jfj{x:Nat}(hx2:x<4294967296):Rt 228 [.int .u32 (x:Int)] [] (.int .i64 (lenN x:Nat)) []:=by
 have e16:Int.fdiv (x:Int) (2^min (Int.toNat 16) IntKind.u32.bits)=((x/65536:Nat):Int):=shrU (x:=x) (s:=16) (by decide);have tail:∀y:Nat,y<256->IntKind.u8.wrap (y:Int)=(y:Int):=λy hy=>by simp[IntKind.wrap,IntKind.bits,IntKind.signed];omega
 have w9:∀y:Nat,IntKind.i64.wrap ((lenB y:Nat):Int)=((lenB y:Nat):Int):=λy=>w64 (by omega) (by have:=zht y;omega)
 unfold lenN;refine oF o228 ?_;by_cases h16:65536<=x
 ·have d1:decide ((65536:Int)<=(x:Int))=true:=dT;simp only[c228,r228_0,r228_1,SS,fC,reduceCtorEq,reduceIte,qQ,d1];simp only[r228_2,r228_3,SS,reduceCtorEq,reduceIte,qQ,e16];refine⟨by omega,?_⟩;by_cases h8:256<=x/65536
  ·have d2:decide ((256:Int)<=((x/65536:Nat):Int))=true:=dT;have e8:Int.fdiv ((x/65536:Nat):Int) (2^min (Int.toNat 8) IntKind.u32.bits)=((x/65536/256:Nat):Int):=shrU (x:=x/65536) (s:=8) (by decide);have wz:IntKind.i64.wrap (16+8)=24:=by decide
   have wf:IntKind.i64.wrap (24+((lenB (x/65536/256):Nat):Int))=((lenB (x/65536/256)+24:Nat):Int):=wQ (by have:=zht (x/65536/256);omega);rw[if_pos h16,if_pos h8];simp only[r228_4,SS,fC,reduceCtorEq,reduceIte,qQ,d2];simp only[r228_5,r228_6,SS,reduceCtorEq,reduceIte,qQ,e8,wz];refine⟨by omega,?_⟩;rw[qtd];simp only[SS,reduceCtorEq,reduceIte,qQ,tail (x/65536/256) (by omega),zvb (show x/65536/256<256 by omega),w9,wf];exact kR
  ·have d2:decide ((256:Int)<=((x/65536:Nat):Int))=false:=dF;have wf:IntKind.i64.wrap (16+((lenB (x/65536):Nat):Int))=((lenB (x/65536)+16:Nat):Int):=wQ (by have:=zht (x/65536);omega);rw[if_pos h16,if_neg h8];simp only[r228_4,SS,fC,reduceCtorEq,reduceIte,qQ,d2];rw[qtd];simp only[SS,reduceCtorEq,reduceIte,qQ,tail (x/65536) (by omega),zvb (show x/65536<256 by omega),w9,wf];exact kR
 ·have d1:decide ((65536:Int)<=(x:Int))=false:=dF;simp only[c228,r228_0,r228_1,SS,fC,reduceCtorEq,reduceIte,qQ,d1];by_cases h8:256<=x
  ·have d2:decide ((256:Int)<=(x:Int))=true:=dT;have e8:Int.fdiv (x:Int) (2^min (Int.toNat 8) IntKind.u32.bits)=((x/256:Nat):Int):=shrU (x:=x) (s:=8) (by decide);have wz:IntKind.i64.wrap (0+8)=8:=by decide
   have wf:IntKind.i64.wrap (8+((lenB (x/256):Nat):Int))=((lenB (x/256)+8:Nat):Int):=wQ (by have:=zht (x/256);omega);rw[if_neg h16,if_pos h8];simp only[r228_4,SS,fC,reduceCtorEq,reduceIte,qQ,d2];simp only[r228_5,r228_6,SS,reduceCtorEq,reduceIte,qQ,e8,wz];refine⟨by omega,?_⟩;rw[qtd];simp only[SS,reduceCtorEq,reduceIte,qQ,tail (x/256) (by omega),zvb (show x/256<256 by omega),w9,wf];exact kR
  ·have d2:decide ((256:Int)<=(x:Int))=false:=dF;have wf:IntKind.i64.wrap (0+((lenB x:Nat):Int))=((lenB x:Nat):Int):=wQ (by have:=zht x;omega);rw[if_neg h16,if_neg h8];simp only[r228_4,SS,fC,reduceCtorEq,reduceIte,qQ,d2];rw[qtd];simp only[SS,reduceCtorEq,reduceIte,qQ,tail x (by omega),zvb (show x<256 by omega),w9,wf];exact kR
theorem jfk{x:Nat}(hx:0<x)(hx2:x<4294967296):∃s:Nat,s<32/\2147483648<=2^s*x/\2^s*x<4294967296/\Rt 219 [.int .u32 (x:Int)] [] (.int .i64 (s:Int)) []:=by
 obtain⟨h1,h2,h3,h4⟩:=jat hx hx2;have t:=jfj hx2;generalize lenN x=n at*;have w:IntKind.i64.wrap (32-(n:Int))=((32-n:Nat):Int):=wQ (by omega);have a1:=qY (2^(32-n)) h3;have a2:=qY (2^(32-n)) (show x+1<=2^n by omega);rw[<-xL,show 32-n+(n-1)=31 by omega]at a1;rw[<-xL,show 32-n+n=32 by omega,xJ,xM]at a2;have hp:0<2^(32-n):=xN (by decide);refine⟨32-n,by omega,a1,by omega,?_⟩;refine oF o219 ?_;simp only[c219,r219_0,SS,reduceCtorEq];simp only[r219_1,SS,reduceCtorEq,reduceIte,qQ];refine zaa t ?_;simp only[SS,reduceIte,qQ,w];exact kR
structure DvE(j n:Nat)(cr cd:Option Nat)(E:Env):Prop where
 e0:E 0= .sl 0 j (n+1) 1 cr
 e1:E 1= .sl 1 0 n 1 cd
 e5:E 5= .int .i64 (n:Nat)
section
variable{R V:List Nat}{j n:Nat}{cr cd:Option Nat}{Q:Post}
theorem jau(hn:2<=n)(hn2:n<=1100)(hRl:j+n+1<=R.length)(hRL:R.length<=2200)(hVl:n<=V.length)(dR:Dig R)(dV:Dig V)
  (T:Knuth.Top (sv (λi=>V.getD i 0) n) (sv (λi=>R.getD (j+i) 0) (n+1)) (V.getD (n-1) 0) (V.getD (n-2) 0) (R.getD (j+n) 0) (R.getD (j+(n-1)) 0) (R.getD (j+(n-2)) 0) (4294967296^(n-2)))
  {E:Env} {g r:Nat} (hE:DvE j n cr cd E) (e7:E 7= .int .u64 (g:Nat)) (e8:E 8= .int .u64 (r:Nat)) (hg:g*V.getD (n-1) 0+r=R.getD (j+n) 0*4294967296+R.getD (j+(n-1)) 0)
  (hq:sv (λi=>R.getD (j+i) 0) (n+1)/sv (λi=>V.getD i 0) n<=g) (hr:r<4294967296) (hg2:g<8589934592)
  (hQ:∀(E':Env) (g':Nat),DvE j n cr cd E'->E' 7= .int .u64 (g':Nat)->g'<4294967296->sv (λi=>R.getD (j+i) 0) (n+1)/sv (λi=>V.getD i 0) n<=g'->g'<=sv (λi=>R.getD (j+i) 0) (n+1)/sv (λi=>V.getD i 0) n+1->Q (.exit 0) E' [some (u32s R),some (u32s V)]):
  Wg 2 171 (.loop l221_0) E [some (u32s R),some (u32s V)] Q:=by
 refine zaj (λk E H=>∃g r,k=g/\H=[some (u32s R),some (u32s V)]/\DvE j n cr cd E/\E 7= .int .u64 (g:Nat)/\E 8= .int .u64 (r:Nat)/\g*V.getD (n-1) 0+r=R.getD (j+n) 0*4294967296+R.getD (j+(n-1)) 0/\
   sv (λi=>R.getD (j+i) 0) (n+1)/sv (λi=>V.getD i 0) n<=g/\r<4294967296/\g<8589934592) (n:=g) ⟨g,r,rfl,rfl,hE,e7,e8,hg,hq,hr,hg2⟩ ?_
 clear hE e7 e8 hg hq hr hg2 g r E;rintro g E H ⟨_,r,rfl,rfl,⟨e0,e1,e5⟩,e7,e8,hg,hq,hr,hg2⟩;refine wM ?_;have w1:IntKind.i64.wrap ((n:Int)-1)=((n-1:Nat):Int):=wQ (by omega);have w2:IntKind.i64.wrap ((n:Int)-2)=((n-2:Nat):Int):=wQ (by omega);have a1:=T.a1;have b1:=T.b1;have c3:=T.e1;have gV1:=zal V (n-1) (by omega) AV.junk;have gV2:=zal V (n-2) (by omega) AV.junk;have gR2:=zal R (j+(n-2)) (by omega) AV.junk;have s1:Int.fdiv (g:Int) (2^min (Int.toNat 32) IntKind.u64.bits)=((g/4294967296:Nat):Int):=zlm g
 have q0:g*V.getD (n-2) 0<18446744073709551616\/4294967296<=g:=by
  rcases qT g 4294967296 with h | h
  ·have:=xT (show g<=4294967295 by omega) (show V.getD (n-2) 0<=4294967295 by omega);exact .inl (by omega)
  ·exact .inr h
 have fin:(hc:4294967296<=g\/r*4294967296+R.getD (j+(n-2)) 0<g*V.getD (n-2) 0)->1<=g/\sv (λi=>R.getD (j+i) 0) (n+1)/sv (λi=>V.getD i 0) n<=g-1/\(g-1)*V.getD (n-1) 0+(r+V.getD (n-1) 0)=R.getD (j+n) 0*4294967296+R.getD (j+(n-1)) 0:=λhc=>T.dec hg hq hc
 have lst:=λ(hc:g<4294967296) (hb:g*V.getD (n-2) 0<=r*4294967296+R.getD (j+(n-2)) 0)=>T.last hg hc (.inr hb)
 have bnd:=λh1=>T.bound (fin h1).2.2
 have lst2:=λh1 h2=>T.last (fin h1).2.2 h2
 have wg1:1<=g->IntKind.u64.wrap ((g:Int)-1)=((g-1:Nat):Int):=λh=>by
  rw[show(g:Int)-1=((g-1:Nat):Int) by omega];exact zbg (by omega)
 have wr1:IntKind.u64.wrap ((r:Int)+(V.getD (n-1) 0:Nat))=((r+V.getD (n-1) 0:Nat):Int):=by
  rw[<-xB];exact zbg (by omega)
 have s2:Int.fdiv ((r+V.getD (n-1) 0:Nat):Int) (2^min (Int.toNat 32) IntKind.u64.bits)=(((r+V.getD (n-1) 0)/4294967296:Nat):Int):=zlm _;by_cases hb:4294967296<=g
 ·have d1:decide (((g/4294967296:Nat):Int)≠0)=true:=dT;obtain⟨f1,f2,f3⟩:=fin (.inl hb);have k1:=wg1 f1;simp only[l221_0,r221_4,↓zkk,SS,fC,reduceCtorEq,reduceIte,qQ,e7,s1,d1];refine⟨by decide,rfl,?_⟩;simp only[r221_5,r221_6,SS,fC,reduceIte,qQ,e1,e5,e7,e8,w1,k1,qZ,gV1,zae,zbg (show V.getD (n-1) 0<18446744073709551616 by omega),wr1];refine⟨⟨by omega,by omega⟩,by omega,?_⟩;by_cases hr2:r+V.getD (n-1) 0<4294967296
  ·have d2:decide ((((r+V.getD (n-1) 0)/4294967296:Nat):Int)≠0)=false:=dF;simp only[r221_7,SS,fC,reduceIte,qQ,s2,d2];refine⟨by decide,g-1,_,_,by omega,⟨g-1,r+V.getD (n-1) 0,rfl,rfl,⟨?_,?_,?_⟩,?_,?_,f3,f2,hr2,by omega⟩,.refl⟩<;>simp only[UU,qQ,reduceIte, *]
  ·have d2:decide ((((r+V.getD (n-1) 0)/4294967296:Nat):Int)≠0)=true:=dT
   have g4:g-1<4294967296:=by
    rcases bnd (.inl hb)with h | h
    ·omega
    ·exact h
   simp only[r221_7,SS,fC,reduceIte,qQ,s2,d2];refine⟨by decide,hQ _ (g-1) ⟨?_,?_,?_⟩ ?_ g4 f2 (lst2 (.inl hb) g4 (.inl (by omega)))⟩<;>simp only[UU,qQ,reduceIte, *]
 ·have hb':g<4294967296:=by omega
  have d1:decide (((g/4294967296:Nat):Int)≠0)=false:=dF
  have p1:IntKind.u64.wrap ((g:Int)*(V.getD (n-2) 0:Nat))=((g*V.getD (n-2) 0:Nat):Int):=by
   rw[<-yG];exact zbg (by omega)
  have p2:=qlp hr;have p3:=jas (a:=R.getD (j+(n-2)) 0) c3 hr;by_cases hc:r*4294967296+R.getD (j+(n-2)) 0<g*V.getD (n-2) 0
  ·have d3:decide (((R.getD (j+(n-2)) 0+4294967296*r:Nat):Int)<((g*V.getD (n-2) 0:Nat):Int))=true:=dT;obtain⟨f1,f2,f3⟩:=fin (.inr hc);have k1:=wg1 f1;simp only[l221_0,r221_4,↓zcq,SS,fC,reduceCtorEq,reduceIte,qQ,e0,e1,e5,e7,e8,s1,d1,w2,qZ,gV2,gR2,zae,zbg (show V.getD (n-2) 0<18446744073709551616 by omega),zbg (show R.getD (j+(n-2)) 0<18446744073709551616 by omega),p1,p2,p3,d3];refine⟨by decide,⟨by omega,by omega⟩,by omega,by decide,⟨by omega,by omega⟩,by omega,rfl,?_⟩;simp only[r221_5,r221_6,SS,fC,reduceIte,qQ,e1,e5,e7,e8,w1,k1,qZ,gV1,zae,zbg (show V.getD (n-1) 0<18446744073709551616 by omega),wr1];refine⟨⟨by omega,by omega⟩,by omega,?_⟩;by_cases hr2:r+V.getD (n-1) 0<4294967296
   ·have d2:decide ((((r+V.getD (n-1) 0)/4294967296:Nat):Int)≠0)=false:=dF;simp only[r221_7,SS,fC,reduceIte,qQ,s2,d2];refine⟨by decide,g-1,_,_,by omega,⟨g-1,r+V.getD (n-1) 0,rfl,rfl,⟨?_,?_,?_⟩,?_,?_,f3,f2,hr2,by omega⟩,.refl⟩<;>simp only[UU,qQ,reduceIte, *]
   ·have d2:decide ((((r+V.getD (n-1) 0)/4294967296:Nat):Int)≠0)=true:=dT;simp only[r221_7,SS,fC,reduceIte,qQ,s2,d2];refine⟨by decide,hQ _ (g-1) ⟨?_,?_,?_⟩ ?_ (by omega) f2 (lst2 (.inr hc) (by omega) (.inl (by omega)))⟩<;>simp only[UU,qQ,reduceIte, *]
  ·have d3:decide (((R.getD (j+(n-2)) 0+4294967296*r:Nat):Int)<((g*V.getD (n-2) 0:Nat):Int))=false:=dF;simp only[l221_0,r221_4,↓zcq,SS,fC,reduceCtorEq,reduceIte,qQ,e0,e1,e5,e7,e8,s1,d1,w2,qZ,gV2,gR2,zae,zbg (show V.getD (n-2) 0<18446744073709551616 by omega),zbg (show R.getD (j+(n-2)) 0<18446744073709551616 by omega),p1,p2,p3,d3];refine⟨by decide,⟨by omega,by omega⟩,by omega,by decide,⟨by omega,by omega⟩,by omega,rfl,?_⟩;refine hQ _ g ⟨?_,?_,?_⟩ ?_ hb' hq (lst hb' (by omega))<;>simp only[UU,qQ, *]
end
end Go.Proofs.YtgfbaioffpcelaaGreatDoor
namespace Go.Knuth
open Go.Limb
theorem zls(r:Nat):∀n,sv (λi=>r/4294967296^i%4294967296) n=r%4294967296^n
 |0=>by simp[sv,Nat.mod_one]
 |n+1=>by simp only[sv];rw[zls r n,Nat.mod_pow_succ]
theorem qlt{f:Nat->Nat}:∀{n},(∀i,i<n->f i=0)->sv f n=0
 |0,_=>rfl
 |n+1,h=>by simp only[sv,qlt (n:=n) λi hi=>h i (by omega),h n (by omega),xW]
theorem qlu{l:List Nat}(hc:zbn l)(h0:l≠[]):0<l.getD (l.length-1) 0:=by
 have hl:0<l.length:=List.length_pos_iff.2 h0;have h1:=zft hc.2 h0;have h2:=zbk l (l.length-1);rw[show l.length-1+1=l.length by omega,xH]at h2;have h3:=zqf l (l.length-1);have h4:=zqg (f:=λt=>l.getD t 0) (n:=l.length-1) λi _=>hc.1.getD i
 rcases xY (l.getD (l.length-1) 0)with e | e
 ·rw[e,xW,qG]at h2;omega
 ·exact e
theorem qte{l:List Nat}(hc:zbn l)(h0:l≠[]){T:Nat}(hT:T∣4294967296)(hT0:0<T)(h1:2147483648<=T*l.getD (l.length-1) 0)(h2:T*l.getD (l.length-1) 0<4294967296){V:List Nat}(hV:V.length=l.length+1)(dV:Dig V)(hv:val V=T*val l):
  sv (λi=>V.getD i 0) l.length=T*val l/\2147483648<=V.getD (l.length-1) 0/\T*4294967296^(l.length-1)<=T*val l:=by
 have hl:0<l.length:=List.length_pos_iff.2 h0;have e1:=zbk l (l.length-1);rw[show l.length-1+1=l.length by omega,xH,zqf]at e1;have l1:=zqg (f:=λt=>l.getD t 0) (n:=l.length-1) λi _=>hc.1.getD i
 generalize l.length=L at*;obtain⟨n,rfl⟩:∃n,L=n+1:=⟨L-1,by omega⟩
 rw[yH]at e1 l1 h1 h2 ⊢;have e2:=zlr V;rw[hV]at e2;simp only[sv]at e2;have l2:=zqg (f:=λt=>V.getD t 0) (n:=n) λi _=>dV.getD i
 have l3:=dV.getD n;have l4:=dV.getD (n+1);have hp:0<4294967296^n:=xN (by decide);rw[xP]at e2;simp only[sv];generalize 4294967296^n=P at*;generalize sv (λt=>V.getD t 0) n=X at*;generalize sv (λt=>l.getD t 0) n=Y at*;generalize V.getD n 0=a at*;generalize V.getD (n+1) 0=b at*;generalize l.getD n 0=c at*;rw[hv,e1]at e2;obtain⟨w,hw⟩:=hT
 have hcw:c+1<=w:=by
  rcases qT c w with h | h
  ·exact h
  ·have:=qY T h;omega
 have h3:T*c+T<=4294967296:=by
  have:=qY T hcw;rw[xJ,xM]at this;omega
 have u1:T*(Y+P*c)=T*Y+P*(T*c):=by grind
 have u2:T*Y<T*P:=(jK hT0).2 l1;have u3:P*(T*c)+P*T<=P*4294967296:=by rw[<-xJ];exact qY P h3
 have u4:P*T=T*P:=qM _ _
 have hb:b=0:=by
  rcases xY b with h | h
  ·exact h
  ·have:=qY (P*4294967296) h;omega
 subst hb;rw[xW,qG]at e2;refine⟨by rw[e1];exact e2.symm,?_,?_⟩
 ·rcases qT a 2147483648 with h | h
  ·exfalso;have q1:=qY P h;have q2:=qY P h1;rw[Nat.mul_succ]at q1;omega
  ·exact h
 ·rw[e1];refine qY T ?_
  have:1<=c:=by
   rcases xY c with h | h
   ·subst h;omega
   ·exact h
  have:=qY P this;omega
def zdf(R:List Nat)(j n r:Nat):List Nat:=(List.range R.length).map λt=>if j<=t/\t<=j+n then r/4294967296^(t-j)%4294967296 else R.getD t 0
theorem zfe(R:List Nat)(j n r:Nat):(zdf R j n r).length=R.length:=by simp[zdf]
theorem zdq{R:List Nat}{j n r t:Nat}(h:t<R.length):(zdf R j n r).getD t 0=if j<=t/\t<=j+n then r/4294967296^(t-j)%4294967296 else R.getD t 0:=by
 rw[qX];simp[zdf,h]
theorem zjv{R:List Nat}(dR:Dig R)(j n r:Nat):Dig (zdf R j n r):=λd hd=>by
 obtain⟨t,_,rfl⟩:=List.mem_map.1 hd;show(if j<=t/\t<=j+n then r/4294967296^(t-j)%4294967296 else R.getD t 0)<4294967296
 split
 ·exact qE _ (by decide)
 ·exact dR.getD t
theorem qgv{R:List Nat}{j n r:Nat}(hl:j+n+1<=R.length)(hr:r<4294967296^(n+1)):val (zdf R j n r)+4294967296^j*sv (λi=>R.getD (j+i) 0) (n+1)=val R+4294967296^j*r:=by
 obtain⟨w,hw⟩:∃w,R.length=j+((n+1)+w):=⟨R.length-j-n-1,by omega⟩
 have key:∀f:Nat->Nat,sv f R.length=sv f j+4294967296^j*(sv (λi=>f (j+i)) (n+1)+4294967296^(n+1)*sv (λi=>f (j+(n+1+i))) w):=λf=>by
  rw[hw,zfj f j,zfj (λi=>f (j+i)) (n+1) w]
 have k1:=key λt=>R.getD t 0
 have k2:=key λt=>(zdf R j n r).getD t 0
 rw[zlr,zfe,k2,zlr R,k1]
 have c1:sv (λt=>(zdf R j n r).getD t 0) j=sv (λt=>R.getD t 0) j:=zcf λi hi=>by
  rw[zdq (by omega),if_neg (by omega)]
 have c2:sv (λi=>(zdf R j n r).getD (j+i) 0) (n+1)=r:=by
  rw[zcf (g:=λi=>r/4294967296^i%4294967296) λi hi=>by
   rw[zdq (by omega),if_pos (by omega),show j+i-j=i by omega]]
  rw[zls,xX hr]
 have c3:sv (λi=>(zdf R j n r).getD (j+(n+1+i)) 0) w=sv (λi=>R.getD (j+(n+1+i)) 0) w:=zcf λi hi=>by
  rw[zdq (by omega),if_neg (by omega)]
 simp only[c1,c2,c3,xJ];omega
structure LD(A V n m k:Nat)(R Q:List Nat):Prop where
 rl:R.length=m+n+1
 ql:Q.length=m+1
 rd:Dig R
 qd:Dig Q
 qz:∀t,t<k->Q.getD t 0=0
 lt:sv (λi=>R.getD (k+i) 0) n<V
 hi:∀t,k+n<=t->R.getD t 0=0
 eq:val R+V*val Q=A
theorem LD.init{l:List Nat}(dl:Dig l){T b n m:Nat}(hn:0<n)(hm:l.length=m+n)(hT0:0<T){R:List Nat}(hR:R.length=l.length+1)(dR:Dig R)(hv:val R=T*val l)(hb:T*4294967296^(n-1)<=T*b):LD (T*val l) (T*b) n m (m+1) R (List.replicate (m+1) 0) where
 rl:=by omega
 ql:=by simp
 rd:=dR
 qd:=λd h=>by rw[(List.mem_replicate.1 h).2];decide
 qz:=λt _=>by rw[qX,yW];split<;>rfl
 hi:=λt ht=>by rw[qX,xG (by omega)];rfl
 eq:=by
  have:∀k,val (List.replicate k 0)=0:=λk=>by
   induction k with
   |zero=>rfl
   |succ k ih=>simp only[zX,val,ih]
  rw[this,xW,qG,hv]
 lt:=by
  have h1:=zlr R;rw[hR,hm,show m+n+1=m+1+n by omega,zfj,hv]at h1;have h2:=(jK hT0).2 (zfc dl);rw[hm,show m+n=(n-1)+(m+1) by omega,xL]at h2;have hp:0<4294967296^(m+1):=xN (by decide);refine qS (zY (a:=4294967296^(m+1)) (b:=sv (λi=>R.getD (m+1+i) 0) n) (c:=T*4294967296^(n-1)) ?_) hb;have e:4294967296^(m+1)*(T*4294967296^(n-1))=T*(4294967296^(n-1)*4294967296^(m+1)):=by grind
  omega
theorem LD.head{A V n m k:Nat}{R Q:List Nat}(h:LD A V n m (k+1) R Q):sv (λi=>R.getD (k+i) 0) (n+1)<V*4294967296:=by
 have h1:=zfj (λi=>R.getD (k+i) 0) 1 n;rw[yE 1 n]at h1;simp only[sv,yP,xD,xZ,zB,qG]at h1;have h2:=h.lt;rw[zcf (f:=λi=>R.getD (k+1+i) 0) (g:=λi=>R.getD (k+(1+i)) 0) λi _=>by rw[Nat.add_assoc]]at h2;have h3:=h.rd.getD k;have h4:=qY 4294967296 h2;rw[Nat.mul_succ,qM 4294967296 V]at h4;simp only[sv];omega
theorem LD.step{A V n m k:Nat}{R Q:List Nat}(h:LD A V n m (k+1) R Q)(hV:V<4294967296^n)(hV0:0<V)(hk:k<=m):
  LD A V n m k (zdf R k n (sv (λi=>R.getD (k+i) 0) (n+1)%V)) (Q.set k (sv (λi=>R.getD (k+i) 0) (n+1)/V)):=by
 have hl:=h.rl;have hq:=h.ql;have hu:=h.head;generalize hgu:sv (λi=>R.getD (k+i) 0) (n+1)=u at*;have hm:=qE u hV0;have hdm:=xA u V;have hqB:u/V<4294967296:=by rw[xU hV0,qM];exact hu
 have hr:u%V<4294967296^(n+1):=by
  have:=qD (n:=4294967296) (by decide) (Nat.le_succ n);omega
 have hval:=qgv (R:=R) (j:=k) (n:=n) (r:=u%V) (by omega) hr;have hqs:=zgu (l:=Q) (i:=k) (v:=u/V) (by omega);rw[h.qz k (by omega),xW,qG]at hqs;rw[hgu]at hval;refine⟨by rw[zfe];exact hl,by rw[qA];exact hq,zjv h.rd _ _ _,h.qd.set hqB,λt ht=>?_,?_,λt ht=>?_,?_⟩
 ·rw[qX,List.getElem?_set_ne (by omega),<-qX];exact h.qz t (by omega)
 ·rw[zcf (g:=λi=>u%V/4294967296^i%4294967296) λi hi=>by
   rw[zdq (by omega),if_pos (by omega),show k+i-k=i by omega],zls]
  rw[xX (by omega)];exact hm
 ·rcases qT t R.length with h1 | h1
  ·rw[zdq h1];split
   ·rename_i h2;obtain rfl:t=k+n:=by omega
    rw[show k+n-k=n by omega,xS (by omega)]
   ·exact h.hi t (by omega)
  ·rw[qX,xG (by rw[zfe];exact h1)];rfl
 ·rw[hqs,<-h.eq,xJ]
  have e:V*(4294967296^k*(u/V))+4294967296^k*(u%V)=4294967296^k*u:=by
   conv=>rhs;rw[<-hdm]
   rw[xJ];congr 1;rw[<-xQ,qM V,xQ]
  omega
theorem LD.done{a b T n m:Nat}{R Q:List Nat}(h:LD (T*a) (T*b) n m 0 R Q)(hT:0<T)(hb:0<b):val Q=a/b/\val R/T=a%b:=by
 have h1:=zlr R;rw[h.rl,show m+n+1=n+(m+1) by omega,zfj]at h1;rw[qlt (n:=m+1) λi _=>h.hi (n+i) (by omega),xW,qG]at h1;have h2:=h.lt;rw[zcf (g:=λt=>R.getD t 0) λi _=>by rw[xZ],<-h1]at h2;have h3:=h.eq;refine jfg hT hb (Q:=val Q) (r:=val R) ?_ (by rw[qM];exact h2);rw[qM a,<-h3,qM b];grind
end Go.Knuth
namespace Go.Proofs.YtgfbaioffpcelaaGreatDoor
open Go Go.AL Go.Proofs Go.Limb Go.Knuth
theorem jfl{a b:Nat}(ha:a<4294967296)(hb:b<4294967296):IntKind.u64.wrap ((a:Int)-(b:Int))=(subT a b:Nat):=by
 unfold subT;simp[IntKind.wrap,IntKind.bits,IntKind.signed];omega
theorem jfm{a b c:Nat}(ha:a<4294967296)(hb:b<4294967296)(hc:c<=1):IntKind.u64.wrap ((subT a b:Nat)-(c:Int))=(subT a (b+c):Nat):=by
 unfold subT;simp[IntKind.wrap,IntKind.bits,IntKind.signed];omega
theorem zoi{f:Nat->Nat}{n i:Nat}(hf:∀t,t<n->f t<4294967296)(hi:i<n):sv f n/4294967296^i%4294967296=f i:=by
 obtain⟨k,rfl⟩:∃k,n=i+(k+1):=⟨n-i-1,by omega⟩
 have h1:=zqg (f:=f) (n:=i) λt ht=>hf t (by omega)
 have hP:0<4294967296^i:=xN (by decide);rw[zfj,jQ _ _ hP,xS h1,xZ];have:=zfj (λt=>f (i+t)) 1 k;rw[yE 1 k]at this;rw[this];simp only[sv,yP,xD,xZ,zB,qG];rw[zV,xX (hf i (by omega))]
theorem zlt{R W:List Nat}{j n r:Nat}(hl:W.length=R.length)(dW:Dig W)(ho:∀t,t<j\/j+n<t->W.getD t 0=R.getD t 0)(hv:sv (λi=>W.getD (j+i) 0) (n+1)=r):W=zdf R j n r:=
 zdp (by rw[hl,zfe]) λt ht=>by
  rw[zdq (by omega)];split
  ·rename_i h;have:=zoi (f:=λi=>W.getD (j+i) 0) (n:=n+1) (i:=t-j) (λi _=>dW.getD _) (by omega);rw[hv,show j+(t-j)=t by omega]at this;exact this.symm
  ·exact ho t (by omega)
section
variable{R V:List Nat}{j n:Nat}{cr cd:Option Nat}{Q:Post}
theorem jip(hn2:n<=1100)(hRl:j+n+1<=R.length)(hRL:R.length<=2200)(hVl:n<=V.length)(dR:Dig R)(dV:Dig V){g:Nat}(hg:g<4294967296){E:Env}(hE:DvE j n cr cd E)(e7:E 7= .int .u64 (g:Nat))(e9:E 9= .int .u64 0)(e10:E 10= .int .u64 0)(e82:E 82= .int .i64 (n:Nat))(e83:E 83= .int .i64 0)
  (hQ:∀(E':Env) (W:List Nat) (bw cy:Nat),DvE j n cr cd E'->E' 7= .int .u64 (g:Nat)->E' 9= .int .u64 (cy:Nat)->E' 10= .int .u64 (bw:Nat)->W.length=R.length->Dig W->(∀t,t<j\/j+n<=t->W.getD t 0=R.getD t 0)->bw<=1->cy<4294967296->
   sv (λi=>R.getD (j+i) 0) n+4294967296^n*(bw+cy)=sv (λi=>W.getD (j+i) 0) n+g*sv (λi=>V.getD i 0) n->Q (.exit 2) E' [some (u32s W),some (u32s V)]):
  Wg 2 171 (.loop l221_1) E [some (u32s R),some (u32s V)] Q:=by
 refine zaj (λk E H=>∃i W bw cy,i+k=n/\H=[some (u32s W),some (u32s V)]/\DvE j n cr cd E/\E 7= .int .u64 (g:Nat)/\E 9= .int .u64 ((cy:Nat):Int)/\E 10= .int .u64 ((bw:Nat):Int)/\E 82= .int .i64 (n:Nat)/\E 83= .int .i64 (i:Nat)/\W.length=R.length/\Dig W/\(∀t,t<j\/j+i<=t->W.getD t 0=R.getD t 0)/\bw<=1/\cy<4294967296/\
   sv (λi=>R.getD (j+i) 0) i+4294967296^i*(bw+cy)=sv (λi=>W.getD (j+i) 0) i+g*sv (λi=>V.getD i 0) i) (n:=n)
  ⟨0,R,0,0,by omega,rfl,hE,e7,e9,e10,e82,e83,rfl,dR,λ_ _=>rfl,by omega,by omega,by simp[sv]⟩ ?_
 clear hE e7 e9 e10 e82 e83 E;rintro k E H ⟨i,W,bw,cy,hik,rfl,⟨e0,e1,e5⟩,e7,e9,e10,e82,e83,hWl,dW,hW,hbw,hcy,hv⟩;refine wM ?_;cases k with
 |succ k=>
  have hi:i<n:=by omega
  have gV:=zal V i (by omega) AV.junk;have gW:=zal W (j+i) (by omega) AV.junk;rw[hW (j+i) (.inr (qU _))]at gW;have bV:=dV.getD i;have bR:=dR.getD (j+i);obtain⟨c1,c2⟩:=qat hcy hg bV;have d1:decide ((i:Int)<(n:Nat))=true:=dT;have w5:=wS1 i (by omega);have m1:IntKind.u64.wrap ((g:Int)*(V.getD i 0:Nat))=((g*V.getD i 0:Nat):Int):=by rw[<-yG];exact zbg (by omega)
  have m2:IntKind.u64.wrap ((cy:Int)+((g*V.getD i 0:Nat):Int))=((cy+g*V.getD i 0:Nat):Int):=by rw[<-xB];exact zbg c1
  have hdm:=xA (cy+g*V.getD i 0) 4294967296;have hp:=qE (cy+g*V.getD i 0) (show 0<4294967296 by decide)
  have nv:=jan (bw':=brw (R.getD (j+i) 0) ((cy+g*V.getD i 0)%4294967296+bw)) (cy':=(cy+g*V.getD i 0)/4294967296) (p:=(cy+g*V.getD i 0)%4294967296) (w:=subT (R.getD (j+i) 0) ((cy+g*V.getD i 0)%4294967296+bw)%4294967296) (x:=R.getD (j+i) 0) (y:=V.getD i 0) hv (by omega) (by
   rw[zuy (by omega)];exact zuk bR (by omega))
  have s1:=jfl (a:=R.getD (j+i) 0) (b:=(cy+g*V.getD i 0)%4294967296) bR hp;have s2:=jfm (a:=R.getD (j+i) 0) (b:=(cy+g*V.getD i 0)%4294967296) (c:=bw) bR hp hbw;have s3:=qas (b:=(cy+g*V.getD i 0)%4294967296+bw) bR (by omega);have hb1:=qcy (R.getD (j+i) 0) ((cy+g*V.getD i 0)%4294967296+bw);generalize hC:cy+g*V.getD i 0=C at*;simp only[l221_1,r221_10,r221_11,r221_12,SS,fC,reduceIte,qQ,e1,e7,e9,e82,e83,d1,qZ,gV,zae,zbg (show V.getD i 0<18446744073709551616 by omega),m1,m2];refine⟨⟨by omega,by omega⟩,by omega,?_⟩;simp only[r221_13,r221_14,r221_15,r221_16,r221_17,SS,fC,reduceCtorEq,reduceIte,qQ,e0,e10,e83,qZ,gW,zae,zbg (show R.getD (j+i) 0<18446744073709551616 by omega),wu32,zbg (show C%4294967296<18446744073709551616 by omega),s1,s2,zbq,zlm,qlk,s3,w5];refine⟨⟨by omega,by omega⟩,by omega,⟨by omega,by omega⟩,by omega,by decide,by decide,k,_,_,by omega,⟨i+1,_,_,_,by omega,rfl,⟨?_,?_,?_⟩,?_,?_,?_,?_,?_,by rw[qA];exact hWl,dW.set (qE _ (by decide)),λt ht=>?_,hb1,c2,?_⟩,.refl⟩
  case refine_9=>rw[zbj (by omega)];exact hW t (by omega)
  case refine_10=>
   rw[xP];simp only[sv,zcw (show j+i<W.length by omega)];rw[zcf (f:=λt=>(W.set (j+i) (subT (R.getD (j+i) 0) (C%4294967296+bw)%4294967296)).getD (j+t) 0) (g:=λt=>W.getD (j+t) 0) λt ht=>zbj (by omega)];exact nv
  all_goals simp only[UU,qQ,reduceIte, *]
 |zero=>
  obtain rfl:i=n:=by omega
  have d1:decide ((i:Int)<(i:Nat))=false:=dF;simp only[l221_1,r221_10,SS,fC,reduceIte,e82,e83,d1];refine hQ _ W bw cy ⟨?_,?_,?_⟩ ?_ ?_ ?_ hWl dW hW hbw hcy hv<;>simp only[UU,qQ, *]
theorem jiq{W0:List Nat}(hn2:n<=1100)(hRl:j+n+1<=W0.length)(hRL:W0.length<=2200)(hVl:n<=V.length)(dR:Dig W0)(dV:Dig V){g:Nat}{E:Env}(hE:DvE j n cr cd E)(e7:E 7= .int .u64 (g:Nat))(e9:E 9= .int .u64 0)(e135:E 135= .int .i64 (n:Nat))(e136:E 136= .int .i64 0)
  (hQ:∀(E':Env) (W:List Nat) (cy:Nat),DvE j n cr cd E'->E' 7= .int .u64 (g:Nat)->E' 9= .int .u64 (cy:Nat)->W.length=W0.length->Dig W->(∀t,t<j\/j+n<=t->W.getD t 0=W0.getD t 0)->cy<=1->
   sv (λi=>W0.getD (j+i) 0) n+sv (λi=>V.getD i 0) n=sv (λi=>W.getD (j+i) 0) n+4294967296^n*cy->Q (.exit 4) E' [some (u32s W),some (u32s V)]):
  Wg 2 171 (.loop l221_2) E [some (u32s W0),some (u32s V)] Q:=by
 refine zaj (λk E H=>∃i W cy,i+k=n/\H=[some (u32s W),some (u32s V)]/\DvE j n cr cd E/\E 7= .int .u64 (g:Nat)/\E 9= .int .u64 ((cy:Nat):Int)/\E 135= .int .i64 (n:Nat)/\E 136= .int .i64 (i:Nat)/\W.length=W0.length/\Dig W/\(∀t,t<j\/j+i<=t->W.getD t 0=W0.getD t 0)/\cy<=1/\
   sv (λi=>W0.getD (j+i) 0) i+sv (λi=>V.getD i 0) i=sv (λi=>W.getD (j+i) 0) i+4294967296^i*cy) (n:=n)
  ⟨0,W0,0,by omega,rfl,hE,e7,e9,e135,e136,rfl,dR,λ_ _=>rfl,by omega,by simp[sv]⟩ ?_
 clear hE e7 e9 e135 e136 E;rintro k E H ⟨i,W,cy,hik,rfl,⟨e0,e1,e5⟩,e7,e9,e135,e136,hWl,dW,hW,hcy,hv⟩;refine wM ?_;cases k with
 |succ k=>
  have hi:i<n:=by omega
  have gV:=zal V i (by omega) AV.junk;have gW:=zal W (j+i) (by omega) AV.junk;rw[hW (j+i) (.inr (qU _))]at gW;have bV:=dV.getD i;have bR:=dR.getD (j+i);have d1:decide ((i:Int)<(n:Nat))=true:=dT;have w5:=wS1 i (by omega);have m1:IntKind.u64.wrap (((W0.getD (j+i) 0:Nat):Int)+(V.getD i 0:Nat))=((W0.getD (j+i) 0+V.getD i 0:Nat):Int):=by rw[<-xB];exact zbg (by omega)
  have m2:IntKind.u64.wrap ((cy:Int)+((W0.getD (j+i) 0+V.getD i 0:Nat):Int))=((cy+(W0.getD (j+i) 0+V.getD i 0):Nat):Int):=by rw[<-xB];exact zbg (by omega)
  have hdm:=xA (cy+(W0.getD (j+i) 0+V.getD i 0)) 4294967296;have hcy2:(cy+(W0.getD (j+i) 0+V.getD i 0))/4294967296<=1:=by omega
  have nv:sv (λi=>W0.getD (j+i) 0) i+4294967296^i*W0.getD (j+i) 0+(sv (λi=>V.getD i 0) i+4294967296^i*V.getD i 0)=sv (λi=>W.getD (j+i) 0) i+4294967296^i*((cy+(W0.getD (j+i) 0+V.getD i 0))%4294967296)+4294967296^i*4294967296*((cy+(W0.getD (j+i) 0+V.getD i 0))/4294967296):=by
   generalize (cy+(W0.getD (j+i) 0+V.getD i 0))/4294967296=q at*;generalize (cy+(W0.getD (j+i) 0+V.getD i 0))%4294967296=p at*;have e:4294967296^i*(4294967296*q+p)=4294967296^i*(cy+(W0.getD (j+i) 0+V.getD i 0)):=by rw[hdm]
   grind
  generalize hC:cy+(W0.getD (j+i) 0+V.getD i 0)=C at*;simp only[l221_2,r221_24,r221_25,r221_26,SS,fC,reduceCtorEq,reduceIte,qQ,e0,e1,e9,e135,e136,d1,qZ,gV,gW,zae,zbg (show V.getD i 0<18446744073709551616 by omega),zbg (show W0.getD (j+i) 0<18446744073709551616 by omega),m1,m2];refine⟨⟨by omega,by omega⟩,by omega,⟨by omega,by omega⟩,by omega,rfl,?_⟩;simp only[r221_27,r221_28,r221_29,SS,reduceCtorEq,reduceIte,qQ,e0,e136,qZ,zae,wu32,zbq,zlm,w5];refine⟨⟨by omega,by omega⟩,by omega,by decide,k,_,_,by omega,⟨i+1,_,_,by omega,rfl,⟨?_,?_,?_⟩,?_,?_,?_,?_,by rw[qA];exact hWl,dW.set (qE _ (by decide)),λt ht=>?_,hcy2,?_⟩,.refl⟩
  case refine_8=>rw[zbj (by omega)];exact hW t (by omega)
  case refine_9=>
   rw[xP];simp only[sv,zcw (show j+i<W.length by omega)];rw[zcf (f:=λt=>(W.set (j+i) (C%4294967296)).getD (j+t) 0) (g:=λt=>W.getD (j+t) 0) λt ht=>zbj (by omega)];exact nv
  all_goals simp only[UU,qQ,reduceIte, *]
 |zero=>
  obtain rfl:i=n:=by omega
  have d1:decide ((i:Int)<(i:Nat))=false:=dF;simp only[l221_2,r221_24,SS,fC,reduceIte,e135,e136,d1];refine hQ _ W cy ⟨?_,?_,?_⟩ ?_ ?_ hWl dW hW hcy hv<;>simp only[UU,qQ, *]
end
theorem qtf{R V:List Nat}{j n:Nat}(cr cd:Option Nat)(hn:2<=n)(hn2:n<=1100)(hRl:j+n+1<=R.length)(hRL:R.length<=2200)(hVl:n<=V.length)(dR:Dig R)(dV:Dig V)(htop:2147483648<=V.getD (n-1) 0)
  (hlt:sv (λi=>R.getD (j+i) 0) (n+1)<sv (λi=>V.getD i 0) n*4294967296):
  Rt 221 [.sl 0 j (n+1) 1 cr,.sl 1 0 n 1 cd] [some (u32s R),some (u32s V)] (.int .u32 ((sv (λi=>R.getD (j+i) 0) (n+1)/sv (λi=>V.getD i 0) n:Nat):Int))
   [some (u32s (zdf R j n (sv (λi=>R.getD (j+i) 0) (n+1)%sv (λi=>V.getD i 0) n))),some (u32s V)]:=by
 have T:=jff (f:=λi=>R.getD (j+i) 0) (g:=λi=>V.getD i 0) hn (λi _=>dR.getD _) (λi _=>dV.getD _) htop hlt;have hv0:=T.vpos;have hq1:=T.q_lt;have hfst:=T.first;have w1:IntKind.i64.wrap ((n:Int)-1)=((n-1:Nat):Int):=wQ (by omega);have gR0:=zal R (j+n) (by omega) AV.junk;have gR1:=zal R (j+(n-1)) (by omega) AV.junk;have gV1:=zal V (n-1) (by omega) AV.junk;have bR0:=dR.getD (j+n);have bR1:=dR.getD (j+(n-1));have bV1:=dV.getD (n-1);have p1:=qlp bR0;have p2:=jas bR1 bR0
 have ediv:IntKind.u64.wrap (Int.tdiv ((R.getD (j+(n-1)) 0+4294967296*R.getD (j+n) 0:Nat):Int) ((V.getD (n-1) 0:Nat):Int))=(((R.getD (j+n) 0*4294967296+R.getD (j+(n-1)) 0)/V.getD (n-1) 0:Nat):Int):=by
  rw[show R.getD (j+n) 0*4294967296+R.getD (j+(n-1)) 0=R.getD (j+(n-1)) 0+4294967296*R.getD (j+n) 0 by omega]
  show IntKind.u64.wrap (((R.getD (j+(n-1)) 0+4294967296*R.getD (j+n) 0)/V.getD (n-1) 0:Nat):Int)=_
  exact zbg (xC (xO _ _) (by omega))
 have emod:Int.tmod ((R.getD (j+(n-1)) 0+4294967296*R.getD (j+n) 0:Nat):Int) ((V.getD (n-1) 0:Nat):Int)=(((R.getD (j+n) 0*4294967296+R.getD (j+(n-1)) 0)%V.getD (n-1) 0:Nat):Int):=by
  rw[show R.getD (j+n) 0*4294967296+R.getD (j+(n-1)) 0=R.getD (j+(n-1)) 0+4294967296*R.getD (j+n) 0 by omega];rfl
 have hdm:=xA (R.getD (j+n) 0*4294967296+R.getD (j+(n-1)) 0) (V.getD (n-1) 0);have hm:=qE (R.getD (j+n) 0*4294967296+R.getD (j+(n-1)) 0) (show 0<V.getD (n-1) 0 by omega)
 have hg2:(R.getD (j+n) 0*4294967296+R.getD (j+(n-1)) 0)/V.getD (n-1) 0<8589934592:=by
  rw[xU (by omega)];omega
 have hneg:∀x c b:Nat,x<4294967296->b+c-x=1->(x+8589934592-(c+b))%4294967296=4294967295:=λx c b h1 h2=>by omega
 refine oF o221 ?_;simp only[c221,r221_0,r221_1,r221_2,SS,fC,reduceCtorEq,reduceIte,qV,qQ,w1,qZ,gR0,gR1,zae,zbg (show R.getD (j+n) 0<18446744073709551616 by omega),zbg (show R.getD (j+(n-1)) 0<18446744073709551616 by omega),p1,p2];refine⟨⟨by omega,by omega⟩,by omega,by decide,⟨by omega,by omega⟩,by omega,rfl,?_⟩;simp only[r221_3,SS,fC,reduceIte,qQ,w1,qZ,gV1,zae,zbg (show V.getD (n-1) 0<18446744073709551616 by omega),ediv,emod];refine⟨⟨by omega,by omega⟩,by omega,by omega,⟨by omega,by omega⟩,by omega,by omega,rfl,?_⟩;refine jau (cr:=cr) (cd:=cd) hn hn2 hRl hRL hVl dR dV T (g:=(R.getD (j+n) 0*4294967296+R.getD (j+(n-1)) 0)/V.getD (n-1) 0) (r:=(R.getD (j+n) 0*4294967296+R.getD (j+(n-1)) 0)%V.getD (n-1) 0) ⟨?_,?_,?_⟩ ?_ ?_ (by rw[qM];exact hdm) hfst (by omega) hg2 (λE1 g hE1 f7 hgB hq hg=>?rest)
 case rest=>
  obtain⟨f0,f1,f5⟩:=hE1;simp only[r221_8,r221_9,SS,reduceCtorEq,reduceIte,qQ,f5];refine jip (cr:=cr) (cd:=cd) hn2 hRl hRL hVl dR dV hgB ⟨?_,?_,?_⟩ ?_ ?_ ?_ ?_ ?_ (λE2 W bw cy hE2 k7 k9 k10 hWl dW hW hbw hcy hv=>?rest2)
  case rest2=>
   obtain⟨k0,k1,k5⟩:=hE2;have gW:=zal W (j+n) (by omega) AV.junk;rw[hW (j+n) (.inr (qU _))]at gW;have s1:=jfl (a:=R.getD (j+n) 0) (b:=cy) bR0 hcy;have s2:=jfm (a:=R.getD (j+n) 0) (b:=cy) (c:=bw) bR0 hcy hbw;have s3:=qas (b:=cy+bw) bR0 (by omega);have slo:=zuy (a:=R.getD (j+n) 0) (b:=cy+bw) (by omega);have hu:sv (λi=>R.getD (j+i) 0) (n+1)=sv (λi=>R.getD (j+i) 0) n+4294967296^n*R.getD (j+n) 0:=rfl;have hWlt:=zqg (f:=λi=>W.getD (j+i) 0) (n:=n) λi _=>dW.getD _
   have hVlt:=zqg (f:=λi=>V.getD i 0) (n:=n) λi _=>dV.getD _
   obtain⟨en1,en2⟩:=jao hu hv hWlt hv0 hq hg;have hrlt:=qE (sv (λi=>R.getD (j+i) 0) (n+1)) hv0;simp only[r221_18,r221_19,SS,fC,reduceCtorEq,reduceIte,qQ,k0,k5,k9,k10,qZ,gW,zae,zbg (show R.getD (j+n) 0<18446744073709551616 by omega),s1,s2,wu32,slo,zbq];refine⟨⟨by omega,by omega⟩,by omega,⟨by omega,by omega⟩,by omega,?_⟩;by_cases hle:bw+cy<=R.getD (j+n) 0
   ·obtain⟨rfl,hr⟩:=en1 hle;have hb0:brw (R.getD (j+n) 0) (cy+bw)=0:=by unfold brw;rw[if_neg (by omega)]
    rw[hb0]at s3;have d1:decide ((((0:Nat):Nat):Int)=0)=true:=rfl
    have hx0:R.getD (j+n) 0-(bw+cy)=0:=by
     rcases xY (R.getD (j+n) 0-(bw+cy))with h | h
     ·exact h
     ·have:=zE (4294967296^n) h;omega
    have hseg:W.set (j+n) ((R.getD (j+n) 0+8589934592-(cy+bw))%4294967296)=zdf R j n (sv (λi=>R.getD (j+i) 0) (n+1)%sv (λi=>V.getD i 0) n):=by
     refine zlt (by rw[qA];exact hWl) (dW.set (qE _ (by decide))) (λt ht=>by rw[zbj (by omega)];exact hW t (by omega)) ?_;simp only[sv,zcw (show j+n<W.length by omega)];rw[zcf (f:=λi=>(W.set (j+n) ((R.getD (j+n) 0+8589934592-(cy+bw))%4294967296)).getD (j+i) 0) (g:=λi=>W.getD (j+i) 0) λt ht=>zbj (by omega)];rw[show(R.getD (j+n) 0+8589934592-(cy+bw))%4294967296=0 by omega,xW,qG];rw[hx0,xW,qG]at hr;exact hr.symm
    simp only[r221_20,SS,fC,reduceIte,qQ,qlk,s3,d1];simp only[r221_21,SS,reduceIte,qQ,k7,zmz hgB,hseg];refine⟨by decide,?_⟩;exact kR
   ·obtain⟨rfl,hr⟩:=en2 (by omega);have hb0:brw (R.getD (j+n) 0) (cy+bw)=1:=by unfold brw;rw[if_pos (by omega)]
    rw[hb0]at s3;have d1:decide ((((1:Nat):Nat):Int)=0)=false:=rfl;simp only[r221_20,SS,fC,reduceIte,qQ,qlk,s3,d1];refine⟨by decide,?_⟩;simp only[r221_22,r221_23,SS,reduceIte,qQ,k5];refine jiq (j:=j) (n:=n) (cr:=cr) (cd:=cd) (g:=sv (λi=>R.getD (j+i) 0) (n+1)/sv (λi=>V.getD i 0) n+1) (W0:=W.set (j+n) ((R.getD (j+n) 0+8589934592-(cy+bw))%4294967296)) hn2 (by rw[qA];omega) (by rw[qA];omega) hVl (dW.set (qE _ (by decide))) dV ⟨?_,?_,?_⟩ ?_ ?_ ?_ ?_ (λE3 W2 c2 hE3 m7 m9 hW2l dW2 hW2 hc2 hv2=>?rest3)
    case rest3=>
     obtain⟨m0,m1,m5⟩:=hE3;rw[qA]at hW2l;rw[zcf (f:=λi=>(W.set (j+n) ((R.getD (j+n) 0+8589934592-(cy+bw))%4294967296)).getD (j+i) 0) (g:=λi=>W.getD (j+i) 0) λt ht=>zbj (by omega)]at hv2;have hW2lt:=zqg (f:=λi=>W2.getD (j+i) 0) (n:=n) λi _=>dW2.getD _
     obtain⟨z1,z2,z3⟩:=jap (C:=sv (λi=>W2.getD (j+i) 0) n) hr (by omega) hWlt hVlt hrlt (by
      rcases(by omega:c2=0\/c2=1)with rfl | rfl
      ·exact .inr hv2
      ·exact .inl hv2) hW2lt
     have hc1:c2=1:=by
      rcases(by omega:c2=0\/c2=1)with rfl | rfl
      ·rw[xW,qG]at hv2;have:=xN (n:=n) (show 0<4294967296 by decide);omega
      ·rfl
     subst hc1;have gW2:=zal W2 (j+n) (by omega) AV.junk;rw[hW2 (j+n) (.inr (qU _)),zcw (by omega),hneg (R.getD (j+n) 0) cy bw bR0 z1]at gW2;have w32:IntKind.u32.wrap (((4294967295:Nat):Int)+IntKind.u32.wrap ((1:Nat):Int))=((0:Nat):Int):=by decide
     have wg:IntKind.u64.wrap (((sv (λi=>R.getD (j+i) 0) (n+1)/sv (λi=>V.getD i 0) n+1:Nat):Int)-1)=((sv (λi=>R.getD (j+i) 0) (n+1)/sv (λi=>V.getD i 0) n:Nat):Int):=by
      rw[xB,show((sv (λi=>R.getD (j+i) 0) (n+1)/sv (λi=>V.getD i 0) n:Nat):Int)+((1:Nat):Int)-1=((sv (λi=>R.getD (j+i) 0) (n+1)/sv (λi=>V.getD i 0) n:Nat):Int) by omega];exact zbg (by omega)
     have hseg:W2.set (j+n) 0=zdf R j n (sv (λi=>R.getD (j+i) 0) (n+1)%sv (λi=>V.getD i 0) n):=by
      refine zlt (by rw[qA,hW2l];exact hWl) (dW2.set (by decide)) (λt ht=>by
       rw[zbj (by omega),hW2 t (by omega),zbj (by omega)];exact hW t (by omega)) ?_
      simp only[sv,zcw (show j+n<W2.length by omega)];rw[zcf (f:=λi=>(W2.set (j+n) 0).getD (j+i) 0) (g:=λi=>W2.getD (j+i) 0) λt ht=>zbj (by omega),xW,qG];exact z2
     simp only[r221_30,r221_31,SS,fC,reduceCtorEq,reduceIte,qQ,m0,m5,m7,m9,qZ,gW2,zae,w32,wg,zmz (show sv (λi=>R.getD (j+i) 0) (n+1)/sv (λi=>V.getD i 0) n<4294967296 by exact hq1),zbq,hseg];refine⟨⟨by omega,by omega⟩,by omega,⟨by omega,by omega⟩,by omega,?_⟩;exact kR
    all_goals simp only[UU,qQ,reduceIte, *]
  all_goals simp only[UU,qQ,reduceIte, *]
 all_goals simp only[UU,qQ,reduceIte]
end Go.Proofs.YtgfbaioffpcelaaGreatDoor
namespace Go.Proofs.YtgfbaioffpcelaaGreatDoor
open Go Go.AL Go.Proofs Go.Limb
def zgo:List Int->List AV
 | []=>[]
 |z::r=> .bool (decide (z<0)):: .vec (u32s (zav z.natAbs)) (zav z.natAbs).length none::zgo r
def rowV(r:List Int):AV:= .vec (zgo r) r.length none
def matC(M:List (List Int)):AV:= .vec (M.map rowV) M.length none
theorem qlv:∀{r:List Int} {cs:List AV},RowC r cs->AV.wk.wkL cs=zgo r:=by
 intro r
 induction r with
 |nil=>
  intro cs h;cases cs with
  |nil=>rfl
  |cons _ _=>exact h.elim
 |cons z r ih=>
  intro cs h
  match cs,h with
  |u::v::cs,h=>
   have hw:=h.1.wk;simp only[AV.wk,AV.wk.wkL,intV,AV.agg.injEq,List.cons.injEq,and_true]at hw
   show u.wk::v.wk::AV.wk.wkL cs=_
   rw[ih h.2,hw.1,hw.2];rfl
theorem qlw{r:List Int}{a:AV}(h:zgn r a):a.wk=rowV r:=by
 obtain⟨cs,c,rfl,hc⟩:=h;simp only[AV.wk,qlv hc,rowV]
def qlx(r:List Int):Prop:= ∀z∈r,z.natAbs<BIG
theorem ziz:∀{r:List Int},qlx r->RowC r (zgo r)
 | [],_=>trivial
 |z::r,h=>⟨zbv (h z (by simp)),ziz (λy hy=>h y (by simp[hy]))⟩
theorem jav{r:List Int}(h:qlx r):zgn r (rowV r):=⟨_,_,rfl,ziz h⟩
theorem qly:∀{r:List Int} {cs:List AV},RowC r cs->qlx r:=by
 intro r
 induction r with
 |nil=>intro cs _ z hz;simp at hz
 |cons z r ih=>
  intro cs h y hy
  match cs,h with
  |u::v::cs,h=>
   rcases List.mem_cons.1 hy with e | e
   ·rw[e];exact h.1.fits
   ·exact ih h.2 y e
def qgw(M:List (List Int)):Prop:= ∀r∈M,qlx r
theorem zxy{M:List (List Int)}{a:AV}(h:MatV M a):qgw M:=by
 obtain⟨rows,c,_,_,hr⟩:=h;intro r hr';obtain⟨i,hi,rfl⟩:=List.mem_iff_getElem.1 hr';obtain⟨cs,c,_,h2⟩:=hr i hi;rw[qX,qW hi]at h2;exact qly h2
theorem zqk{M:List (List Int)}(h:qgw M):MatV M (matC M):=by
 refine⟨M.map rowV,none,rfl,by simp,λi hi=>?_⟩;rw[qX,qX,yA,qW hi];exact jav (h _ (xI _))
theorem qaw{M:List (List Int)}{a:AV}(h:MatV M a):a.wk=matC M:=by
 obtain⟨rows,c,rfl,hl,hr⟩:=h;simp only[AV.wk,matC,zmx];congr 1;refine List.ext_getElem? (λi=>?_);rw[yA,yA];rcases qT i M.length with hi | hi
 ·have:=qlw (hr i hi);rw[qX,qX,qW hi,qW (by omega)]at this;rw[qW hi,qW (by omega)];simpa using this
 ·rw[xG hi,xG (by omega)];rfl
def Grow(H:Heap)(sz n:Nat)(cs:List AV)(a:AV)(bad:List Nat):Prop:=
 (n=0/\cs=[]/\a= .vec [] 0 (some 0))\/(0<n/\cs.length=n*sz/\∃id,a= .sl id 0 n sz none/\getB H id=some cs/\id∉bad)
theorem Grow.mono{H H':Heap}{sz n:Nat}{cs:List AV}{a:AV}{bad bad':List Nat}(h:Grow H sz n cs a bad)(hH:∀id,getB H id=some cs->a= .sl id 0 n sz none->getB H' id=some cs)(hb:∀id,a= .sl id 0 n sz none->id∉bad->id∉bad'):Grow H' sz n cs a bad':=by
 rcases h with h | ⟨h1,h2,id,h3,h4,h5⟩
 ·exact .inl h
 ·exact .inr ⟨h1,h2,id,h3,hH id h4 h3,hb id h3 h5⟩
theorem zhu{H:Heap}{sz n:Nat}{cs xs:List AV}{a:AV}{bad:List Nat}{bytes:Nat}(h:Grow H sz n cs a bad)(hx:xs.length=sz)(hs:AV.scalL xs=true)(hb:bytes<=64)(hn:n<1100)(hfr:H.length+1∉bad):
  ∃e rd,(∀n0,zby n0 (H.length+1) (H++[some xs]) sz bytes a (.sl H.length 0 1 sz (some 1))=some (.sl (H.length+1) 0 (n+1) sz none,e,rd))/\Grow (zac e (H++[some xs]++[none])) sz (n+1) (cs++xs) (.sl (H.length+1) 0 (n+1) sz none) bad/\
   (zac e (H++[some xs]++[none])).length=H.length+2/\(∀i,i<H.length->(∀m c,a≠ .sl i 0 m sz c)->getB (zac e (H++[some xs]++[none])) i=getB H i)/\(∀i∈keys e,i=H.length+1\/∃m,a= .sl i 0 m sz none)/\(∀i∈rd,i=H.length\/∃m,a= .sl i 0 m sz none):=by
 have hg:getB (H++[some xs]) H.length=some xs:=zba
 have b1:4*(n+1)*bytes<=2^48:=by
  have:4*(n+1)*bytes<=4*1100*64:=xT (by omega) hb;have:(2:Nat)^48=281474976710656:=rfl;omega
 have b2:n+1<2^62:=by
  have:(2:Nat)^62=4611686018427387904:=rfl;omega
 have hel:zea (H++[some xs]) sz 1 (.sl H.length 0 1 sz (some 1))=some (xs,[H.length]):=by
  simp only[zea,hg,need,qU,xZ,xD,hx,and_self,if_true];rw[yX,qC (by omega)]
 rcases h with⟨rfl,rfl,rfl⟩ | ⟨h0,hl,id,rfl,hc,hnb⟩
 ·refine⟨[(H.length+1,some xs)],[H.length],λn0=>?_,.inr ⟨by omega,by simp;omega,H.length+1,rfl,?_,hfr⟩,by simp[zac],?_,?_,?_⟩
  ·simp only[zby,lenA,zQ,hel];have b1':4*(0+1)*bytes<=2^48:=b1;simp only[need,jM,if_false,Nat.zero_mul,yB,b1',b2,and_self,if_true,yM,qL]
  ·simp only[zac];rw[zaw (by simp)];rfl
  ·intro i hi _;simp only[zac];rw[zai (by omega),qH,zbm hi]
  ·intro i hi;simp[keys]at hi;exact .inl hi
  ·intro i hi;simp at hi;exact .inl hi
 ·have hid:=zam hc;have hc2:getB (H++[some xs]) id=some cs:=by rw[zbm hid];exact hc
  refine⟨[(id,none),(H.length+1,some (cs++xs))],[id,H.length],λn0=>?_,.inr ⟨by omega,by rw[yZ,hl,hx,yJ,xD],H.length+1,rfl,?_,hfr⟩,by simp[zac],?_,?_,?_⟩
  ·simp only[zby,lenA,zQ,hel,hc2];have e1:¬((none:Option Nat)=some n):=by simp
   have e2:id≠H.length+1:=by omega
   simp only[need,jM,if_false,hl,qU,b1,b2,and_self,if_true,e1,yB,hs,e2,ne_eq,not_false_eq_true];rw[qC (by omega)]
  ·simp only[zac];rw[zaw (by simp)]
  ·intro i hi ha;simp only[zac];rw[zai (by omega),zai (λe=>ha n none (by rw[e])),qH,zbm hi]
  ·intro i hi;simp[keys]at hi;rcases hi with e | e
   ·exact .inr ⟨n,by rw[e]⟩
   ·exact .inl e
  ·intro i hi;simp at hi;rcases hi with e | e
   ·exact .inr ⟨n,by rw[e]⟩
   ·exact .inl e
def i64n(l:List Nat):List AV:=l.map λ(n:Nat)=>AV.int .i64 (n:Int)
theorem zgp(l:List Nat):(i64n l).length=l.length:=by simp[i64n]
theorem zxz(l:List Nat)(i:Nat)(h:i<l.length)(d:AV):(i64n l).getD i d= .int .i64 ((l.getD i 0:Nat):Int):=by simp[i64n,h]
theorem zvd(l:List Nat)(m d:Nat)(H:Heap):(i64n l).mapM (frzI m H (d+1))=some (i64n l):=by
 refine zoe (λa ha=>?_);simp only[i64n,List.mem_map]at ha;obtain⟨n,_,rfl⟩:=ha;rfl
theorem qtg{H:Heap}{id n:Nat}{c:Option Nat}{l:List Nat}(hb:getB H id=some (i64n l))(hn:n=l.length):AL.Fin 0 (.sl id 0 n 1 c) H (.vec (i64n l) n c) []:=by
 refine .freeze 2 _ _ _ ?_ (by intro i cs h;omega);have e:=zvd l 0 0 H;rw[frzI];simp only[yY,if_false,hb,need,xZ,xM,hn,zgp,qU,if_true,yX];rw[qC (by rw[zgp];omega),e];rfl
theorem jfn(k more:Nat)(hk:k<=16):Rt 175 [.int .i64 (k:Nat),.int .i64 (more:Nat)] [] (.vec (i64n (List.range k++[more])) (k+1) none) []:=by
 refine oF o175 ?_;simp only[c175,r175_0,r175_1,r175_2,SS,reduceCtorEq];refine zaj (λm E H=>∃i a,i+m=k/\E 0= .int .i64 (k:Nat)/\E 1= .int .i64 (more:Nat)/\E 5=a/\E 6= .int .i64 (i:Nat)/\Grow H 1 i (i64n (List.range i)) a []) (n:=k) ⟨0,_,by omega,by rfl,by rfl,rfl,by rfl,.inl ⟨rfl,rfl,by rfl⟩⟩ ?_;rintro m E H ⟨i,a,him,e0,e1,e5,e6,hG⟩;refine wM ?_;simp only[l175_0,r175_3,SS,reduceCtorEq,reduceIte,qQ,e0,e6];refine⟨λhlt=>?_,λhge=>?_⟩
 ·obtain⟨m,rfl⟩:∃m',m=m'+1:=⟨m-1,by omega⟩
  have w5:=wS1 i (by omega);obtain⟨e,rd,hap,hG2,hl2,hk2,_,_⟩:=zhu (bytes:=8) (xs:=[.int .i64 (i:Nat)]) hG rfl rfl (by omega) (by omega) (by simp);simp only[r175_4,r175_5,SS,reduceIte,qQ,qK,e5,e6,zcy,hap,w5];refine⟨m,_,_,by omega,⟨i+1,_,by omega,?_,?_,rfl,?_,?_⟩,.refl⟩
  ·exact e0
  ·exact e1
  ·rfl
  ·have:i64n (List.range i)++[.int .i64 ((i:Nat):Int)]=i64n (List.range (i+1)):=by simp[i64n,yU]
   rw[this]at hG2;simp only[UU,qQ,reduceIte];exact hG2
 ·have hm:i=k:=by omega
  subst hm;obtain⟨e,rd,hap,hG2,hl2,hk2,_,_⟩:=zhu (bytes:=8) (xs:=[.int .i64 (more:Nat)]) hG rfl rfl (by omega) (by omega) (by simp);simp only[r175_6,SS,reduceIte,qQ,qK,e5,e1,zcy,hap];refine⟨.inl trivial,_,rfl,?_⟩;rcases hG2 with⟨h,_⟩ | ⟨_,_,id,h1,h2,_⟩
  ·omega
  ·have:i64n (List.range i)++[.int .i64 ((more:Nat):Int)]=i64n (List.range i++[more]):=by simp[i64n]
   rw[this]at h2;injection h1 with h1
   rw[h1];exact qtg h2 (by simp)
def zya(H:Heap)(n:Nat)(ps:List (Nat×Option Nat))(M:List (List Int)):Prop:=ps.length=M.length/\∀i,i<M.length->(M.getD i []).length=n/\∃cs,getB H (pid ps i)=some cs/\RowC (M.getD i []) cs
theorem jaw{H:Heap}{r:List Int}{cs:List AV}{a:AV}{bad:List Nat}(h:Grow H 2 r.length cs a bad)(hr:RowC r cs)(h0:r≠[]):∃id,a= .sl id 0 r.length 2 none/\getB H id=some cs/\id∉bad:=by
 rcases h with⟨h,_⟩ | ⟨_,_,id,h1,h2,h3⟩
 ·exact absurd (List.length_eq_zero_iff.1 h) h0
 ·exact⟨id,h1,h2,h3⟩
theorem zyb{m:Nat}{H:Heap}{n:Nat}{ps:List (Nat×Option Nat)}{M:List (List Int)}(h:zya H n ps M)(hm:∀q∈ps,m<=q.1):∃vs,(ps.map (zcv n)).mapM (frzI m H 2)=some vs/\vs.length=M.length/\∀i,i<M.length->zgn (M.getD i []) (vs.getD i .junk):=by
 obtain⟨hl,hr⟩:=h
 have key:∀(qs:List (Nat×Option Nat)) (N:List (List Int)),qs.length=N.length->(∀q∈qs,m<=q.1)->(∀i,i<N.length->(N.getD i []).length=n/\∃cs,getB H (pid qs i)=some cs/\RowC (N.getD i []) cs)->
   ∃vs,(qs.map (zcv n)).mapM (frzI m H 2)=some vs/\vs.length=N.length/\∀i,i<N.length->zgn (N.getD i []) (vs.getD i .junk):=by
  intro qs
  induction qs with
  |nil=>
   intro N hN _ _;exact⟨[],rfl,hN,λi hi=>absurd hi (by rw[<-hN];simp)⟩
  |cons q qs ih=>
   intro N hN hm hr
   match N,hN with
   |r::N,hN=>
    obtain⟨vs,h1,h2,h3⟩:=ih N (by simpa using hN) (λq hq=>hm q (by simp[hq])) (λi hi=>by
     have:=hr (i+1) (by simpa using hi);simpa[pid]using this)
    obtain⟨hn,cs,hb,hc⟩:=hr 0 (by simp);have hb:getB H q.1=some cs:=hb;have hn:r.length=n:=hn;have hc:RowC r cs:=hc;have hcl:=zcz hc
    have e1:frzI m H 2 (zcv n q)=some (.vec cs n q.2):=by
     have e:=qdd hc m 0 H;unfold zcv;rw[frzI];simp only[Nat.not_lt.2 (hm q (by simp)),if_false,hb,need,xZ,hcl,hn,qU,if_true,yX];rw[qC (by omega),e];rfl
    refine⟨.vec cs n q.2::vs,?_,by simp[h2],?_⟩
    ·rw[List.map_cons,yV,e1,h1];rfl
    ·intro i hi;cases i with
     |zero=>exact⟨cs,q.2,by rw[<-hn];rfl,hc⟩
     |succ i=>simpa using h3 i (by simpa using hi)
 exact key ps M hl hm hr
theorem zve{H:Heap}{n:Nat}{ps:List (Nat×Option Nat)}{M:List (List Int)}(h:zya H n ps M):∃vs,(ps.map (zcv n)).mapM (frzI 0 H 2)=some vs/\vs.length=M.length/\∀i,i<M.length->zgn (M.getD i []) (vs.getD i .junk):=
 zyb h λ_ _=>yB _
theorem qth{H:Heap}{n:Nat}{ps:List (Nat×Option Nat)}{M:List (List Int)}{o:Nat}(ho:getB H o=some (ps.map (zcv n)))(h:zya H n ps M):∃v,AL.Fin 0 (.sl o 0 M.length 1 none) H v []/\v.wk=matC M:=by
 obtain⟨vs,h1,h2,h3⟩:=zve h;have hl:=h.1;refine⟨.vec vs M.length none,.freeze 3 _ _ _ ?_ (by intro i cs h;omega),qaw ⟨vs,none,rfl,h2,h3⟩⟩;rw[frzI];simp only[yY,if_false,ho,need,xZ,xM,zO,hl,qU,if_true,yX];rw[qC (by simp[hl]),h1];rfl
theorem zkz{H:Heap}{sz n:Nat}{cs:List AV}{a:AV}{bad:List Nat}(h:Grow H sz n cs a bad){x:Nat}(hx:x∈bad):∀m c,a≠ .sl x 0 m sz c:=by
 intro m c e;rcases h with⟨_,_,h⟩ | ⟨_,_,id,h1,_,h3⟩
 ·rw[h]at e;simp at e
 ·rw[h1]at e;injection e with e1
  exact h3 (e1 ▸ hx)
theorem jax{M:List (List Int)}{n:Nat}{rows:List AV}{c c2:Option Nat}{ks:List Nat}(hl:rows.length=M.length)(hr:∀i,i<M.length->zgn (M.getD i []) (rows.getD i .junk))(hc:∀i,i<M.length->(M.getD i []).length=n){i:Nat}(hi:i<M.length)(hks:∀k∈ks,k<n)(hkl:ks.length<=16)(hn:n<=16)(hN:M.length<=16)
  {v7 v13 v14 v15:AV} {bad:List Nat} {H0:Heap} (hbad:∀x∈bad,x<H0.length) {E:Env} {Q:Post} (e0:E 0= .vec rows M.length c) (e2:E 2= .vec (i64n ks) ks.length c2) (e7:E 7=v7) (e9:E 9= .int .i64 (i:Nat)) (e10:E 10= .vec [] 0 (some 0)) (e13:E 13=v13) (e14:E 14=v14) (e15:E 15=v15)
  (e19:E 19= .vec (i64n ks) ks.length c2) (e20:E 20= .int .i64 (ks.length:Nat)) (e21:E 21= .int .i64 0)
  (hQ:∀E' H' cs,E' 0= .vec rows M.length c->E' 2= .vec (i64n ks) ks.length c2->E' 7=v7->E' 13=v13->E' 14=v14->E' 15=v15->RowC (selR M i ks) cs->Grow H' 2 ks.length cs (E' 10) bad->(∀x∈bad,getB H' x=getB H0 x)->H0.length<=H'.length->Q (.exit 2) E' H'):
  Wg 0 42 (.loop l174_1) E H0 Q:=by
 refine zaj (λm E H=>∃j cs,j+m=ks.length/\E 0= .vec rows M.length c/\E 2= .vec (i64n ks) ks.length c2/\E 7=v7/\E 9= .int .i64 (i:Nat)/\E 13=v13/\E 14=v14/\E 15=v15/\E 19= .vec (i64n ks) ks.length c2/\E 20= .int .i64 (ks.length:Nat)/\E 21= .int .i64 (j:Nat)/\
  RowC (selR M i (ks.take j)) cs/\Grow H 2 j cs (E 10) bad/\(∀x∈bad,getB H x=getB H0 x)/\H0.length<=H.length) (n:=ks.length) ⟨0,[],by omega,e0,e2,e7,e9,e13,e14,e15,e19,e20,e21,trivial,.inl ⟨rfl,rfl,e10⟩,λ_ _=>rfl,qU _⟩ ?_
 clear e0 e2 e7 e9 e10 e13 e14 e15 e19 e20 e21 E;rintro m E H ⟨j,cs,hjm,e0,e2,e7,e9,e13,e14,e15,e19,e20,e21,hrc,hG,hkeep,hlen⟩;refine wM ?_;simp only[l174_1,r174_7,SS,reduceIte,e20,e21];refine⟨λhlt=>?_,λhge=>?_⟩
 ·obtain⟨m,rfl⟩:∃m',m=m'+1:=⟨m-1,by omega⟩
  have hj:j<ks.length:=by omega
  have gk:=zxz ks j hj AV.junk
  have hkj:ks.getD j 0<n:=by
   rw[qX,qW hj];exact hks _ (xI _)
  obtain⟨csi,ci,hei,hci⟩:=hr i hi;have hcl:=zcz hci;obtain⟨u,v,hu,hz⟩:=zfi hci (ks.getD j 0) (by rw[hc i hi];exact hkj);have w5:=wS1 j (by omega);have hs:=zix (r:=[(M.getD i []).getD (ks.getD j 0) 0]) (cs:=[u,v]) ⟨hz,trivial⟩;obtain⟨e,rd,hap,hG2,hl2,hk2,_,_⟩:=zhu (bytes:=32) (xs:=[u,v]) hG rfl hs (by omega) (by omega) (by intro hm;have:=hbad _ hm;omega);obtain⟨lz,cz,hz1,hz2⟩:=zau hz;subst hz1 hz2;simp only[r174_8,r174_9,r174_10,SS,fC,reduceCtorEq,reduceIte,qV,qQ,qK,e0,e9,e19,e21,qZ,gk,zgp,hl,hei,hcl,hc i hi,hu,zcy,hap,w5];refine⟨⟨by omega,by omega⟩,by omega,⟨by omega,by omega⟩,by omega,⟨by omega,by omega⟩,by omega,?_⟩
  have htk:ks.take (j+1)=ks.take j++[ks.getD j 0]:=by
   rw[jU,qX,qW hj];rfl
  refine⟨m,_,_,by omega,⟨j+1,cs++[AV.bool (decide ((M.getD i []).getD (ks.getD j 0) 0<0)),AV.vec (u32s lz) lz.length cz],by omega,?_,?_,?_,?_,?_,?_,?_,?_,?_,?_,?_,?_,?_,?_⟩,.refl⟩
  ·exact e0
  ·exact e2
  ·exact e7
  ·exact e9
  ·exact e13
  ·exact e14
  ·exact e15
  ·exact e19
  ·exact e20
  ·rfl
  ·rw[htk];unfold selR;rw[zP];exact zlo hrc _ _ _ hz
  ·simp only[UU,qQ,reduceIte];exact hG2
  ·intro x hx;have hxl:=hbad x hx;rw[hk2 x (by omega) (zkz hG hx)];exact hkeep x hx
  ·omega
 ·have hm:j=ks.length:=by omega
  subst hm;rw[xH]at hrc;exact hQ _ _ cs (by exact e0) (by exact e2) (by exact e7) (by exact e13) (by exact e14) (by exact e15) hrc (by simp only[UU,qQ];exact hG) hkeep hlen
theorem qlz{M:List (List Int)}{a:AV}{n:Nat}{rs ks:List Nat}{c1 c2:Option Nat}(h:MatV M a)(hN:M.length<=16)(hn:n<=16)(hc:∀i,i<M.length->(M.getD i []).length=n)(hrs:∀i∈rs,i<M.length)(hrl:1<=rs.length/\rs.length<=16)(hks:∀k∈ks,k<n)(hkl:1<=ks.length/\ks.length<=16):
  Rt 174 [a,.vec (i64n rs) rs.length c1,.vec (i64n ks) ks.length c2] [] (matC (selM M rs ks)) []:=by
 obtain⟨rows,c,rfl,hl,hr⟩:=h;refine oFw o174 ?_;simp only[c174,r174_0,r174_1,r174_2,SS,reduceCtorEq,reduceIte,qQ]
 refine zaj (λm E H=>∃i ps,i+m=rs.length/\E 0= .vec rows M.length c/\E 2= .vec (i64n ks) ks.length c2/\E 13= .vec (i64n rs) rs.length c1/\E 14= .int .i64 (rs.length:Nat)/\E 15= .int .i64 (i:Nat)/\
  Grow H 1 i (ps.map (zcv ks.length)) (E 7) (ps.map (·.1))/\zya H ks.length ps (selM M (rs.take i) ks)/\∀x∈ps.map (·.1),x<H.length) (n:=rs.length) ⟨0,[],by omega,?_,?_,?_,?_,?_,.inl ⟨rfl,rfl,?_⟩,⟨rfl,λi hi=>absurd hi (by simp[selM])⟩,by simp⟩ ?_
 ·rfl
 ·rfl
 ·rfl
 ·rfl
 ·rfl
 ·rfl
 rintro m E H ⟨i,ps,him,e0,e2,e13,e14,e15,hG,hR,hlt⟩;refine wM ?_;simp only[l174_0,r174_3,SS,reduceCtorEq,reduceIte,e14,e15];refine⟨λhlt2=>?_,λhge=>?_⟩
 ·obtain⟨m,rfl⟩:∃m',m=m'+1:=⟨m-1,by omega⟩
  have hi:i<rs.length:=by omega
  have gr:=zxz rs i hi AV.junk
  have hri:rs.getD i 0<M.length:=by
   rw[qX,qW hi];exact hrs _ (xI _)
  have w5:=wS1 i (by omega);simp only[r174_4,r174_5,r174_6,SS,fC,reduceIte,qQ,e2,e13,e15,qZ,gr,zgp];refine⟨⟨by omega,by omega⟩,by omega,?_⟩
  have hbad:∃bad:List Nat,(∀x∈bad,x<H.length)/\(∀x∈ps.map (·.1),x∈bad)/\(∀id,E 7= .sl id 0 i 1 none->id∈bad):=by
   rcases hG with⟨_,_,h7⟩ | ⟨_,_,id,h7,hb,_⟩
   ·exact⟨ps.map (·.1),hlt,λx hx=>hx,λid hid=>by rw[h7]at hid;simp at hid⟩
   ·refine⟨id::ps.map (·.1),?_,λx hx=>by simp only[jV];exact .inr hx,λid' hid=>?_⟩
    ·intro x hx;rcases List.mem_cons.1 hx with e | e
     ·rw[e];exact zam hb
     ·exact hlt x e
    ·rw[h7]at hid;injection hid with hid
     rw[<-hid];simp
  obtain⟨bad,hb1,hb2,hb3⟩:=hbad;refine jax (c:=c) (c2:=c2) (bad:=bad) (v7:=E 7) (v13:= .vec (i64n rs) rs.length c1) (v14:= .int .i64 (rs.length:Nat)) (v15:= .int .i64 (i:Nat)) hl hr hc hri hks hkl.2 hn hN hb1 ?_ ?_ ?_ ?_ ?_ ?_ ?_ ?_ ?_ ?_ ?_ (λE1 H1 cs f0 f2 f7 f13 f14 f15 hrc hG1 hkeep hlen=>?rest)
  case rest=>
   have hsl:(selR M (rs.getD i 0) ks).length=ks.length:=by simp[selR]
   rw[<-hsl]at hG1;obtain⟨id,hid,hgb,hnb⟩:=jaw hG1 hrc (by intro e;rw[e]at hsl;simp at hsl;omega);rw[hsl]at hid;have hidlt:=zam hgb
   have hG7:Grow H1 1 i (ps.map (zcv ks.length)) (E1 7) (id::ps.map (·.1)):=by
    rw[f7];refine hG.mono (λid' h1 h2=>by rw[hkeep id' (hb3 id' h2)];exact h1) (λid' h2 h3=>?_);intro hm;rcases List.mem_cons.1 hm with e | e
    ·exact hnb (e ▸ hb3 id' h2)
    ·exact h3 e
   obtain⟨e,rd,hap,hG2,hl2,hk2,_,_⟩:=zhu (bytes:=24) (xs:=[.sl id 0 ks.length 2 none]) hG7 rfl rfl (by omega) (by omega) (by
    intro hm;rcases List.mem_cons.1 hm with e | e
    ·omega
    ·have:=hlt _ e;omega)
   simp only[r174_11,r174_12,SS,reduceCtorEq,reduceIte,qQ,qK,hid,f15,zcy,hap,w5];refine⟨m,_,_,by omega,⟨i+1,ps++[(id,none)],by omega,?_,?_,?_,?_,?_,?_,?_,?_⟩,.refl⟩
   ·exact f0
   ·exact f2
   ·exact f13
   ·exact f14
   ·rfl
   ·simp only[UU,qQ,reduceIte];have e3:(ps++[(id,none)]).map (zcv ks.length)=ps.map (zcv ks.length)++[.sl id 0 ks.length 2 none]:=by simp[zcv]
    rw[e3];refine hG2.mono (λ_ h _=>h) (λid' _ h3 hm=>h3 ?_);rw[zP]at hm;rcases List.mem_append.1 hm with e | e
    ·simp only[jV];exact .inr e
    ·simp at e;simp[e]
   ·have hps:=hR.1
    have htk:rs.take (i+1)=rs.take i++[rs.getD i 0]:=by
     rw[jU,qX,qW hi];rfl
    have hml:(selM M (rs.take i) ks).length=i:=by simp[selM];omega
    refine⟨by rw[htk];simp[selM]at hps ⊢;omega,λi' hi'=>?_⟩;rw[htk]at hi' ⊢;have hsm:selM M (rs.take i++[rs.getD i 0]) ks=selM M (rs.take i) ks++[selR M (rs.getD i 0) ks]:=by simp[selM]
    rw[hsm]at hi' ⊢;rw[yZ,yT,hml]at hi';rcases qT i' i with hii | hii
    ·have e4:(selM M (rs.take i) ks++[selR M (rs.getD i 0) ks]).getD i' []=(selM M (rs.take i) ks).getD i' []:=by
      rw[qX,xE (by omega),<-qX]
     have e5:pid (ps++[(id,none)]) i'=pid ps i':=by
      unfold pid;rw[qX,xE (by omega),<-qX]
     rw[e4,e5];obtain⟨g1,cs',g2,g3⟩:=hR.2 i' (by omega);have hpm:=zgd (ps:=ps) (i:=i') (by omega);refine⟨g1,cs',?_,g3⟩;rw[hk2 _ (by have:=hlt _ hpm;omega) (zkz hG7 (by simp only[jV];exact .inr hpm)),hkeep _ (hb2 _ hpm)];exact g2
    ·have e4:(selM M (rs.take i) ks++[selR M (rs.getD i 0) ks]).getD i' []=selR M (rs.getD i 0) ks:=by
      rw[qX,yC (by omega),show i'-(selM M (rs.take i) ks).length=0 by omega];rfl
     have e5:pid (ps++[(id,none)]) i'=id:=by
      unfold pid;rw[qX,yC (by omega),show i'-ps.length=0 by omega];rfl
     rw[e4,e5];refine⟨hsl,cs,?_,hrc⟩;rw[hk2 _ hidlt (zkz hG7 (by simp))];exact hgb
   ·intro x hx;rw[zP]at hx;rcases List.mem_append.1 hx with e | e
    ·have:=hlt x e;omega
    ·simp at e;omega
  all_goals simp only[UU,qQ,reduceIte, *]
 ·have hm:i=rs.length:=by omega
  subst hm;rw[xH]at hR;simp only[r174_13,SS,reduceIte,qQ];rcases hG with⟨h0,_⟩ | ⟨_,_,id,h7,hb,_⟩
  ·omega
  ·obtain⟨v,hv1,hv2⟩:=qth hb hR;have hml:(selM M rs ks).length=rs.length:=by simp[selM]
   rw[hml]at hv1;exact⟨.inl trivial,_,v,rfl,by rw[h7];exact hv1,hv2⟩
structure Sq(n:Nat)(M:List (List Int))(a:AV):Prop where
 mat:MatV M a
 len:M.length=n
 cols:∀i,i<n->(M.getD i []).length=n
 lo:1<=n
 hi:n<=8
theorem Sq.shape{n:Nat}{M:List (List Int)}{a:AV}(h:Sq n M a):qlg M:=by
 refine⟨by rw[h.len];exact h.lo,by rw[h.len];have:=h.hi;omega,λi hi=>?_⟩;rw[h.len]at hi;rw[h.cols i hi,h.cols 0 h.lo];have:=h.lo;have:=h.hi;omega
theorem Sq.closed{n:Nat}{M:List (List Int)}{a:AV}(h:Sq n M a):a.closed=true:=by
 obtain⟨rows,c,rfl,_⟩:=h.mat;rfl
theorem qma{n:Nat}{M:List (List Int)}{a:AV}(h:Sq n M a):Rt 85 [a] [] (.tup [.int .i64 (n:Nat),.bool true]) []:=by
 have t:=qde h.mat h.shape;rw[h.len,h.cols 0 h.lo]at t;have c1:qJ [a]=true:=by simp only[qJ,h.closed,qP]
 refine oF o85 ?_;simp only[c85,r85_0,r85_1,SS,reduceCtorEq,reduceIte];refine zaa t ?_ c1;simp only[SS,reduceIte,qQ,qN,qO];have d1:decide (((n:Nat):Int)≠(n:Nat))=false:=by simp
 simp only[r85_2,SS,fC,reduceIte,qQ,d1];simp only[r85_4,SS,reduceIte,qQ];exact dR
theorem jay{n:Nat}{M:List (List Int)}{a:AV}(h:Sq n M a){k:Nat}(hk:k<n):Sq (k+1) (minK M k) (matC (minK M k))/\(minK M k).length=k+1:=by
 have hl:(minK M k).length=k+1:=by simp[minK,selM]
 have hf:=zxy h.mat
 have hent:∀i j,i<n->j<n->(ent M i j).natAbs<BIG:=by
  intro i j hi hj;have hc:=h.cols i hi;unfold ent;rw[qX (l:=M.getD i []),qW (by omega)];have hm:M.getD i []∈M:=by rw[qX,qW (by rw[h.len];exact hi)];exact xI _
  exact hf _ hm _ (xI _)
 refine⟨⟨zqk ?_,hl,?_,by omega,by have:=h.hi;omega⟩,hl⟩
 ·intro r hr z hz;obtain⟨i,hi,rfl⟩:=List.mem_map.1 hr;obtain⟨j,hj,rfl⟩:=List.mem_map.1 hz
  have hb:∀x∈List.range k++[k],x<n:=by
   intro x hx;rcases List.mem_append.1 hx with e | e
   ·have:=List.mem_range.1 e;omega
   ·simp at e;omega
  exact hent i j (hb i hi) (hb j hj)
 ·intro i hi;unfold minK selM;rw[qX,yA,qW (by simp;omega)];simp[selR]
theorem znd(z:Int):(intV z).cells=[.bool (decide (z<0)),.vec (u32s (zav z.natAbs)) (zav z.natAbs).length none]:=rfl
theorem qti{H:Heap}{id n:Nat}{r:List Int}{cs:List AV}{b:Bool}(hb:getB H id=some cs)(hr:RowC r cs)(hn:n=r.length):AL.Fin 0 (.tup [.sl id 0 n 2 none,.bool b]) H (.tup [.vec cs n none,.bool b]) []:=by
 refine .freeze 3 _ _ _ ?_ (by intro i cs h;omega);have e:=qdd hr 0 0 H;have hl:=zcz hr
 have e1:frzI 0 H 2 (.sl id 0 n 2 none)=some (.vec cs n none):=by
  rw[frzI];simp only[yY,if_false,hb,need,xZ,hn,hl,qU,if_true,yX];rw[qC (by omega),e];rfl
 rw[frzI];simp only[yV,List.mapM_nil,e1];rfl
theorem qdm{B n:Nat}{M:List (List Int)}{a:AV}{ds:List Int}(hB:DivB B)(h:Sq n M a)(hd:zpz B M=some ds):Rt 90 [a] [] (.tup [rowV ds,.bool true]) []:=by
 have hl:ds.length=n:=by rw[<-h.len];exact zek hd
 have ts:=qma h;have c1:qJ [a]=true:=by simp only[qJ,h.closed,qP]
 have hn8:=h.hi;have hn1:=h.lo;refine oFw o90 ?_;simp only[c90,r90_0,r90_1,SS,reduceCtorEq,reduceIte];refine zaa ts ?_ c1;simp only[SS,reduceIte,qQ,qN,qO];simp only[r90_2,SS,fC,reduceIte,qQ];simp only[r90_4,r90_5,SS];refine zaj (λm E H=>∃k cs,k+m=n/\E 0=a/\E 4= .int .i64 (n:Nat)/\E 7= .int .i64 (k:Nat)/\RowC (ds.take k) cs/\Grow H 2 k cs (E 6) []) (n:=n) ⟨0,[],by omega,?_,?_,?_,trivial,.inl ⟨rfl,rfl,?_⟩⟩ ?_
 ·rfl
 ·rfl
 ·rfl
 ·rfl
 rintro m E H ⟨k,cs,hkm,e0,e4,e7,hrc,hG⟩;refine wM ?_;simp only[l90_0,r90_6,SS,reduceCtorEq,reduceIte,qQ,e4,e7];refine⟨λhlt=>?_,λhge=>?_⟩
 ·obtain⟨m,rfl⟩:∃m',m=m'+1:=⟨m-1,by omega⟩
  have hk:k<n:=by omega
  have hpre:zeu B M (k+1)=some (ds.take (k+1)):=by
   have:zeu B M ((k+1)+m)=some ds:=by rw[show(k+1)+m=M.length by rw[h.len];omega];exact hd
   exact zqa this
  have hpre0:zeu B M k=some (ds.take k):=by
   have:zeu B M (k+(m+1))=some ds:=by rw[show k+(m+1)=M.length by rw[h.len];omega];exact hd
   exact zqa this
  simp only[zeu,hpre0,zQ,yL,zD]at hpre;obtain⟨d,hdet,d',hck,htake⟩:=hpre;obtain⟨rfl,hfit⟩:=zdc hck;obtain⟨hsq,hml⟩:=jay h hk;have hrl:(List.range k++[k]).length=k+1:=by simp
  have tf:=jfn k k (by omega);rw[<-hrl]at tf
  have hb:∀x∈List.range k++[k],x<n:=by
   intro x hx;rcases List.mem_append.1 hx with e | e
   ·have:=List.mem_range.1 e;omega
   ·simp at e;omega
  have tsel:=qlz (n:=n) (rs:=List.range k++[k]) (ks:=List.range k++[k]) (c1:=none) (c2:=none) h.mat (by rw[h.len];omega) (by omega) (λi hi=>h.cols i (by rw[<-h.len];exact hi)) (λx hx=>by rw[h.len];exact hb x hx) (by omega) hb (by omega);have tdet:=mDet hB hsq.mat (by rw[hml];omega) (λi hi=>by rw[hml]at hi ⊢;exact hsq.cols i hi) hdet;have c2:qJ [a,.vec (i64n (List.range k++[k])) (List.range k++[k]).length none,.vec (i64n (List.range k++[k])) (List.range k++[k]).length none]=true:=by simp only[qJ,h.closed,AV.closed,qP]
  have hz:zap d' (intV d'):=zbv (qS hfit hB.1);have w5:=wS1 k (by omega);obtain⟨e,rd,hap,hG2,hl2,hk2,_,_⟩:=zhu (bytes:=32) (xs:=[.bool (decide (d'<0)),.vec (u32s (zav d'.natAbs)) (zav d'.natAbs).length none]) hG rfl rfl (by omega) (by omega) (by simp);simp only[r90_7,SS,reduceCtorEq,reduceIte,qQ,e0,e7];refine zaa tf ?_;simp only[SS,reduceIte,qQ,e7];refine zaa tf ?_;simp only[SS,reduceIte,qQ];refine zaa tsel ?_ c2;simp only[SS,reduceIte,qQ];refine zaa tdet ?_;simp only[SS,reduceIte,qV,qQ,qK,znd,show(intV d').firm=true from rfl];simp only[SS,zcy,hap];simp only[r90_8,SS,reduceIte,qQ,e7,w5];refine⟨m,_,_,by omega,⟨k+1,cs++[.bool (decide (d'<0)),.vec (u32s (zav d'.natAbs)) (zav d'.natAbs).length none],by omega,?_,?_,?_,?_,?_⟩,.refl⟩
  ·exact e0
  ·exact e4
  ·rfl
  ·rw[<-htake];exact zlo hrc _ _ _ hz
  ·simp only[UU,qQ,reduceIte];exact hG2
 ·have hm:k=n:=by omega
  subst hm;rw[qC (by omega)]at hrc;simp only[r90_9,SS,reduceIte,qQ];rcases hG with⟨h0,_⟩ | ⟨_,_,id,h7,hb,_⟩
  ·omega
  ·refine⟨.inl trivial,_,.tup [.vec cs k none,.bool true],rfl,?_,?_⟩
   ·simp only[UU,qQ,reduceIte,h7];exact qti hb hrc hl.symm
   ·simp only[AV.wk,AV.wk.wkL,qlv hrc,rowV,hl]
theorem qxc{n:Nat}{M:List (List Int)}{rows:List AV}(hr:∀i,i<M.length->zgn (M.getD i []) (rows.getD i .junk))(hlen:M.length=n)(hc:∀i,i<n->(M.getD i []).length=n){i:Nat}(hi:i<n):∃cs c,rows.getD i .junk= .vec cs n c/\cs.length=n*2/\
  ∀j,j<n->∃u v,(cs.drop (j*2)).take 2=[u,v]/\zap (ent M i j) (.agg [u,v]):=by
 obtain⟨cs,c,h1,h2⟩:=hr i (by omega);have hl:=zcz h2;rw[hc i hi]at h1 hl;exact⟨cs,c,h1,hl,λj hj=>zfi h2 j (by rw[hc i hi];exact hj)⟩
theorem zsq{n:Nat}{M:List (List Int)}{a:AV}(h:Sq n M a):Rt 86 [a] [] (.bool (symB M)) []:=by
 obtain⟨⟨rows,c,rfl,hl,hr⟩,hlen,hc,hlo,hhi⟩:=h;refine oF o86 ?_;simp only[c86,r86_0,r86_1,SS,reduceCtorEq,reduceIte];rw[hlen];refine zaj (λm E H=>∃i,i+m=n/\E 0= .vec rows n c/\E 6= .int .i64 (n:Nat)/\E 7= .int .i64 (i:Nat)/\H=[]/\∀i',i'<i->∀j,j<i'->ent M i' j=ent M j i') (n:=n) ⟨0,by omega,?_,?_,?_,rfl,λi' h=>absurd h (by omega)⟩ ?_
 ·rfl
 ·rfl
 ·rfl
 rintro m E H ⟨i,him,e0,e6,e7,rfl,hsym⟩;refine wM ?_;simp only[l86_0,r86_2,SS,reduceCtorEq,reduceIte,e6,e7];refine⟨λhlt=>?_,λhge=>?_⟩
 ·obtain⟨m,rfl⟩:∃m',m=m'+1:=⟨m-1,by omega⟩
  have hi:i<n:=by omega
  have w5:=wS1 i (by omega);simp only[r86_3,r86_4,SS,reduceIte,qQ,e7];refine zaj (λm2 E H=>∃j,j+m2=i/\E 0= .vec rows n c/\E 3= .int .i64 (i:Nat)/\E 4= .int .i64 (j:Nat)/\E 6= .int .i64 (n:Nat)/\E 7= .int .i64 (i:Nat)/\H=[]/\∀j',j'<j->ent M i j'=ent M j' i) (n:=i) ⟨0,by omega,?_,?_,?_,?_,?_,rfl,λj' h=>absurd h (by omega)⟩ ?_
  ·exact e0
  ·rfl
  ·rfl
  ·exact e6
  ·exact e7
  rintro m2 E2 H2 ⟨j,hjm,f0,f3,f4,f6,f7,rfl,hsj⟩;refine wM ?_;simp only[l86_1,r86_5,SS,reduceCtorEq,reduceIte,qQ,f3,f4];refine⟨λhlt3=>?_,λhge3=>?_⟩
  ·obtain⟨m2,rfl⟩:∃m',m2=m'+1:=⟨m2-1,by omega⟩
   have hj:j<i:=by omega
   obtain⟨ci,cci,gi,li,fi⟩:=qxc hr hlen hc (i:=i) hi;obtain⟨cj,ccj,gj,lj,fj⟩:=qxc hr hlen hc (i:=j) (by omega);obtain⟨u1,v1,x1,y1⟩:=fi j (by omega);obtain⟨u2,v2,x2,y2⟩:=fj i hi;have t:=zCmp y1 y2;have c1:qJ [.agg [u1,v1],.agg [u2,v2]]=true:=by simp only[qJ,y1.closed,y2.closed,qP]
   have w6:=wS1 j (by omega);have hl':rows.length=n:=by omega
   simp only[r86_6,SS,fC,reduceCtorEq,reduceIte,qQ,f0,f3,f4,qZ,gi,gj,li,lj,hl',x1,x2];refine⟨⟨by omega,by omega⟩,by omega,⟨by omega,by omega⟩,by omega,⟨by omega,by omega⟩,by omega,⟨by omega,by omega⟩,by omega,?_⟩;refine zaa t ?_ c1;simp only[SS,reduceIte,qQ];refine⟨rfl,λhne=>?_,λheq=>?_⟩
   ·have hne2:ent M i j≠ent M j i:=by
     intro e;rw[if_neg (by omega),if_pos e]at hne;exact hne rfl
    have hb:symB M=false:=by
     cases hx:symB M with
     |false=>rfl
     |true=>exact absurd (zqb.1 hx i (by omega) j hj) hne2
    rw[hb];simp only[r86_7,SS];exact dR
   ·have heq2:ent M i j=ent M j i:=by
     have heq:(if ent M i j<ent M j i then(-1:Int)else if ent M i j=ent M j i then 0 else 1)=0:=by simpa using heq
     split at heq
     ·omega
     ·split at heq
      ·assumption
      ·omega
    simp only[r86_8,SS,reduceIte,qQ,f4,w6];refine⟨m2,_,_,by omega,⟨j+1,by omega,?_,?_,?_,?_,?_,rfl,?_⟩,.refl⟩
    ·exact f0
    ·exact f3
    ·rfl
    ·exact f6
    ·exact f7
    ·intro j' hj';rcases qT j' j with h | h
     ·exact hsj j' h
     ·rw[show j'=j by omega];exact heq2
  ·simp only[r86_9,SS,reduceIte,qQ,f7,w5];refine⟨m,_,_,by omega,⟨i+1,by omega,?_,?_,?_,rfl,?_⟩,.refl⟩
   ·exact f0
   ·exact f6
   ·rfl
   ·intro i' hi' j' hj';rcases qT i' i with h | h
    ·exact hsym i' h j' hj'
    ·have:i'=i:=by omega
     subst this;exact hsj j' (by omega)
 ·have hb:symB M=true:=zqb.2 (λi' hi' j hj=>hsym i' (by omega) j hj);rw[hb];simp only[r86_10,SS];exact dR
theorem qmb{B n:Nat}{M:List (List Int)}{a:AV}{ds:List Int}(hB:DivB B)(h:Sq n M a)(hd:zpz B M=some ds):Rt 87 [a] [] (.bool (defB M ds)) []:=by
 have hl:ds.length=n:=by rw[<-h.len];exact zek hd
 have hfit:qlx ds:=λz hz=>qS (zsn hd z hz) hB.1
 have t1:=qdm hB h hd;have t2:=zsq h;have c1:qJ [a]=true:=by simp only[qJ,h.closed,qP]
 have hrc:=ziz hfit;have hcl:=zcz hrc;have hn8:=h.hi;refine oF o87 ?_;simp only[c87,r87_0,r87_1,SS,reduceCtorEq,reduceIte];refine zaa t1 ?_ c1;simp only[SS,reduceIte,qQ,qN,qO];simp only[r87_2,SS,fC,reduceCtorEq,reduceIte,qQ];refine zaa t2 ?_ c1;simp only[SS,fC,reduceIte,qQ];refine⟨λhs=>?_,λhs=>?_⟩
 ·have hs:symB M=false:=by simpa using hs
  have hb:defB M ds=false:=by unfold defB;rw[hs];rfl
  rw[hb];simp only[r87_3,SS];exact dR
 ·have hs:symB M=true:=by simpa using hs
  simp only[r87_4,SS,reduceIte,qQ,rowV];rw[hl];refine zaj (λm E H=>∃i,i+m=n/\E 19= .vec (zgo ds) n none/\E 20= .int .i64 (n:Nat)/\E 21= .int .i64 (i:Nat)/\∀i',i'<i->0<ds.getD i' 0) (n:=n) ⟨0,by omega,?_,?_,?_,λi' h=>absurd h (by omega)⟩ ?_
  ·rfl
  ·rfl
  ·rfl
  rintro m E H ⟨i,him,e19,e20,e21,hpos⟩;refine wM ?_;simp only[l87_0,r87_5,SS,reduceCtorEq,reduceIte,e20,e21];refine⟨λhlt=>?_,λhge=>?_⟩
  ·obtain⟨m,rfl⟩:∃m',m=m'+1:=⟨m-1,by omega⟩
   obtain⟨u,v,hx,hy⟩:=zfi hrc i (by omega);have hs2:=zix (r:=[ds.getD i 0]) (cs:=[u,v]) ⟨hy,trivial⟩;have t3:=zxr hy;obtain⟨lz,cz,hz1,hz2⟩:=zau hy;subst hz1 hz2;have w5:=wS1 i (by omega);simp only[r87_6,SS,reduceIte,qV,qQ,qK,e19,e21,qZ,hcl,hl,hx,zba,zju];refine⟨⟨by omega,by omega⟩,by omega,?_⟩;simp only[r87_7,SS,reduceIte,qV,qQ,qK,zba];refine zaa t3 ?_;simp only[SS,reduceIte,qQ];refine⟨λhle=>?_,λhle=>?_⟩
   ·have hle2:ds.getD i 0<=0:=by
     rcases Int.lt_or_le 0 (ds.getD i 0)with h' | h'
     ·rw[Int.sign_eq_one_of_pos h']at hle;omega
     ·exact h'
    have hb:defB M ds=false:=by
     unfold defB;rw[hs,Bool.true_and];cases hx:ds.all λd=>decide (0<d)with
     |false=>rfl
     |true=>
      rw[jD]at hx;have:=hx (ds.getD i 0) (by rw[qX,qW (by omega)];exact xI _);simp at this;simp[qX]at hle2;omega
    rw[hb];simp only[r87_8,SS];exact dR
   ·have hpos2:0<ds.getD i 0:=by
     rcases Int.lt_or_le 0 (ds.getD i 0)with h' | h'
     ·exact h'
     ·exfalso;apply hle;rcases Int.lt_or_eq_of_le h' with h2 | h2
      ·rw[Int.sign_eq_neg_one_of_neg h2];omega
      ·rw[h2];decide
    simp only[r87_9,SS,reduceIte,qQ,e21,w5];refine⟨m,_,_,by omega,⟨i+1,by omega,?_,?_,?_,λi' hi'=>?_⟩,.refl⟩
    ·exact e19
    ·exact e20
    ·rfl
    ·rcases qT i' i with h' | h'
     ·exact hpos i' h'
     ·rw[show i'=i by omega];exact hpos2
  ·have hb:defB M ds=true:=by
    unfold defB;rw[hs,Bool.true_and,jD];intro z hz;obtain⟨i',hi',rfl⟩:=List.mem_iff_getElem.1 hz;have:=hpos i' (by omega);rw[qX,qW hi']at this;simpa using this
   rw[hb];simp only[r87_10,SS];exact dR
theorem zyc{B n:Nat}{M:List (List Int)}{a:AV}{ds:List Int}(hB:DivB B)(h:Sq n M a)(hd:zpz B M=some ds):Rt 25 [a] [] (.int .i64 (valZ M ds)) []:=by
 have t0:=qma h;have t1:=qmb hB h hd;have t2:=zsq h;have c1:qJ [a]=true:=by simp only[qJ,h.closed,qP]
 have d1:decide ((8:Int)<(n:Nat))=false:=decide_eq_false (by have:=h.hi;omega);refine oF o25 ?_;simp only[c25,r25_0,r25_1,SS,reduceCtorEq,reduceIte];refine zaa t0 ?_ c1;simp only[SS,reduceIte,qQ,qN,qO];simp only[r25_2,SS,fC,reduceIte,qQ,d1];simp only[r25_4,SS,reduceCtorEq,reduceIte,qQ];refine zaa t2 ?_ c1;simp only[SS,reduceIte,qQ];refine⟨λhs=>?_,λhs=>?_⟩
 ·have hs:symB M=false:=by simpa using hs
  have hv:valZ M ds=4:=by unfold valZ;rw[if_pos hs]
  rw[hv];simp only[r25_5,SS];exact dR
 ·have hs:symB M=true:=by simpa using hs
  simp only[r25_6,SS,reduceCtorEq,reduceIte,qQ];refine zaa t1 ?_ c1;simp only[SS,reduceIte,qQ];refine⟨λhd=>?_,λhd=>?_⟩
  ·have hd:defB M ds=false:=by simpa using hd
   have hv:valZ M ds=5:=by unfold valZ;rw[if_neg (by rw[hs];simp),if_pos hd]
   rw[hv];simp only[r25_7,SS];exact dR
  ·have hd:defB M ds=true:=by simpa using hd
   have hv:valZ M ds=0:=by unfold valZ;rw[if_neg (by rw[hs];simp),if_neg (by rw[hd];simp)]
   rw[hv];simp only[r25_8,SS];exact dR
theorem jfo{B n:Nat}{M:List (List Int)}{a:AV}{d:Int}(hB:DivB B)(h:Sq n M a)(hd:detO B M=some d)(hfit:d.natAbs<B):Rt 26 [a] [] (.bool (decide (d<=10000))) []:=by
 have t1:=mDet hB h.mat (by rw[h.len];have:=h.lo;have:=h.hi;omega) (λi hi=>by rw[h.len]at hi ⊢;exact h.cols i hi) hd;obtain⟨v,hv,t2⟩:=zhb 10000 (by omega) (by omega);have hz:zap d (intV d):=zbv (qS hfit hB.1);have t3:=zCmp hz hv;have c1:qJ [a]=true:=by simp only[qJ,h.closed,qP]
 have c2:qJ [intV d,v]=true:=by simp only[qJ,hz.closed,hv.closed,qP]
 refine oF o26 ?_;simp only[c26,r26_0,r26_1,SS,reduceCtorEq,reduceIte];refine zaa t1 ?_ c1;simp only[SS];refine zaa t2 ?_ rfl hv.closed;simp only[SS,reduceIte,qQ];refine zaa t3 ?_ c2;simp only[SS,reduceIte,qQ]
 have e:decide ((if d<10000 then(-1:Int)else if d=10000 then 0 else 1)<=0)=decide (d<=10000):=by
  rw[decide_eq_decide];split
  ·omega
  ·split<;>omega
 rw[e];exact dR
theorem jfp{ds:List Int}{cs:List AV}{c:Option Nat}{k:Nat}(hrc:RowC ds cs)(hk:k<=ds.length)(hl:ds.length<=16):Rt 165 [.vec cs ds.length c,.int .i64 (k:Nat)] [] (intV (zdb ds k)) []:=by
 have hcl:=zcz hrc;refine oFw o165 ?_;simp only[c165,r165_0,r165_1,SS,reduceCtorEq,reduceIte,qQ];refine⟨λh0=>?_,λh0=>?_⟩
 ·have h0:k=0:=by omega
  obtain⟨v,hv,t⟩:=zhb 1 (by omega) (by omega);have hv0:=hv;obtain⟨l1,c1,_,_,_,rfl⟩:=hv0;simp only[r165_2,SS];refine zaa t ?_;simp only[SS,reduceIte,qV,qQ,qK];refine⟨.inl trivial,_,_,zfh (id:=0) (by rfl) rfl,.drop _ _ rfl (by intro i cs h;omega),?_⟩;rw[show zdb ds k=1 by unfold zdb;rw[if_pos h0]];exact hv.wk
 ·have h0:k≠0:=by omega
  obtain⟨u,v,hx,hy⟩:=zfi hrc (k-1) (by omega);have w1:IntKind.i64.wrap ((k:Int)-1)=((k-1:Nat):Int):=wQ (by omega);have hyw:=hy;obtain⟨lz,cz,hz1,hz2⟩:=zau hy;subst hz1 hz2;simp only[r165_3,SS,reduceCtorEq,reduceIte,qV,qQ,qK,w1,qZ,hcl,hx];refine⟨⟨by omega,by omega⟩,by omega,?_⟩;refine⟨.inl trivial,_,_,zfh (id:=0) (by rfl) rfl,.drop _ _ rfl (by intro i cs h;omega),?_⟩;rw[show zdb ds k=ds.getD (k-1) 0 by unfold zdb;rw[if_neg h0]];exact hyw.wk
theorem qgx{f:FuncId}{a v:AV}{l1 l2:List Nat}{n1 n2 i1 i2:Nat}{c1 c2:Option Nat}{H:Heap}{K:AV->Eff->List Nat->Nat->Prop}(h:Rt f [a,.vec (i64n l1) n1 c1,.vec (i64n l2) n2 c2] [] v [])(hn1:n1=l1.length)(hn2:n2=l2.length)
  (h1:getB H i1=some (i64n l1)) (h2:getB H i2=some (i64n l2)) (hne:i1≠i2) (ha:a.closed=true) (hfa:∀H0,frzI 0 H0 2 a=some a) (hv:v.closed=true) (hk:K v [(i1,none),(i2,none)] [i1,i2] 0):ziv Tryz.prog G f [a,.sl i1 0 n1 1 c1,.sl i2 0 n2 1 c2] H K:=by
 have hc:∀l:List Nat,qJ (i64n l)=true:=by
  intro l
  induction l with
  |nil=>rfl
  |cons d l ih=>exact ih
 have g:∀{i:Nat} {cs:List AV},getB H i=some cs->H[i]?=some (some cs):=by
  intro i cs h;unfold getB at h;split at h
  ·rename_i e;simp at h;rw[e,h]
  ·simp at h
 have e0:zan [i1,i2] H.length 0=i1:=by simp[zan]
 have e1:zan [i1,i2] H.length 1=i2:=by simp[zan]
 have hfr:([a,.sl 0 0 n1 1 c1,.sl 1 0 n2 1 c2]:List AV).mapM (frzI 0 [some (i64n l1),some (i64n l2)] 2)=some [a,.vec (i64n l1) n1 c1,.vec (i64n l2) n2 c2]:=by
  have f1:frzI 0 [some (i64n l1),some (i64n l2)] 2 (.sl 0 0 n1 1 c1)=some (.vec (i64n l1) n1 c1):=by
   have e:=zvd l1 0 0 [some (i64n l1),some (i64n l2)];rw[frzI];simp only[yY,if_false,zpl,need,xZ,xM,hn1,zgp,qU,if_true,yX];rw[qC (by rw[zgp];omega),e];rfl
  have f2:frzI 0 [some (i64n l1),some (i64n l2)] 2 (.sl 1 0 n2 1 c2)=some (.vec (i64n l2) n2 c2):=by
   have e:=zvd l2 0 0 [some (i64n l1),some (i64n l2)];rw[frzI];have hg:getB [some (i64n l1),some (i64n l2)] 1=some (i64n l2):=rfl;simp only[yY,if_false,hg,need,xZ,xM,hn2,zgp,qU,if_true,yX];rw[qC (by rw[zgp];omega),e];rfl
  rw[yV,yV,yV,hfa,f1,f2];rfl
 have hH1:=zam h1;have hH2:=zam h2
 have:=CallR0.mk (P:= Tryz.prog) (Γ:=G) (f:=f) (args:=[a,.sl i1 0 n1 1 c1,.sl i2 0 n2 1 c2]) (k:=H.length) (H:=H++List.replicate 0 none) [i1,i2] [a,.sl 0 0 n1 1 c1,.sl 1 0 n2 1 c2] [some (i64n l1),some (i64n l2)] v [none,none] (qkm h hfr) rfl (by simp[hne]) (by
   intro i hi;rcases List.mem_cons.1 hi with e | e
   ·rw[e];exact hH1
   ·simp at e;rw[e];exact hH2) (by simp[AV.ren,e0,e1,zes _ a ha]) (by simp[AV.under.underL,AV.under,znm 2 a ha]) (by
   intro i c hi
   match i,hi with
   |0,hi=>
    simp at hi;subst hi;refine⟨_,rfl,zbd _ _ (hc l1),?_⟩;rw[e0];simp only[renB,zay _ _ (hc l1)];simpa using g h1
   |1,hi=>
    simp at hi;subst hi;refine⟨_,rfl,zbd _ _ (hc l2),?_⟩;rw[e1];simp only[renB,zay _ _ (hc l2)];simpa using g h2
   |i+2,hi=>simp at hi)
 refine⟨v,_,_,0,?_,hk⟩;rw[zes _ v hv]at this;refine .base ?_;simpa[effs,e0,e1,renB]using this
theorem lam_sq{n:Nat}{M:List (List Int)}{a:AV}(h:Sq n M a){i j:Nat}(hi:i<n)(hj:j<n):Sq (j+1) (lamM M i j) (matC (lamM M i j))/\(lamM M i j).length=j+1:=by
 have hl:(lamM M i j).length=j+1:=by simp[lamM,selM]
 have hf:=zxy h.mat
 have hent:∀i j,i<n->j<n->(ent M i j).natAbs<BIG:=by
  intro i j hi hj;have hc:=h.cols i hi;unfold ent;rw[qX (l:=M.getD i []),qW (by omega)];have hm:M.getD i []∈M:=by rw[qX,qW (by rw[h.len];exact hi)];exact xI _
  exact hf _ hm _ (xI _)
 have hb:∀x y,y<n->x∈List.range j++[y]->x<n:=by
  intro x y hy hx;rcases List.mem_append.1 hx with e | e
  ·have:=List.mem_range.1 e;omega
  ·simp at e;omega
 refine⟨⟨zqk ?_,hl,?_,by omega,by have:=h.hi;omega⟩,hl⟩
 ·intro r hr z hz;obtain⟨x,hx,rfl⟩:=List.mem_map.1 hr;obtain⟨y,hy,rfl⟩:=List.mem_map.1 hz;exact hent x y (hb x i hi hx) (hb y j hj hy)
 ·intro x hx;unfold lamM selM;rw[qX,yA,qW (by simp;omega)];simp[selR]
theorem qax{B n:Nat}{M:List (List Int)}{a:AV}{i j:Nat}{d:Int}(hB:DivB B)(h:Sq n M a)(hi:i<n)(hj:j<n)(hd:detO B (lamM M i j)=some d)(hfit:d.natAbs<B):
  Rt 164 [a,.int .i64 (i:Nat),.int .i64 (j:Nat)] [] (intV d) []:=by
 have hn8:=h.hi;obtain⟨hsq,hml⟩:=lam_sq h hi hj;have tdet:=mDet hB hsq.mat (by rw[hml];omega) (λx hx=>by rw[hml]at hx ⊢;exact hsq.cols x hx) hd
 have hb:∀x y,y<n->x∈List.range j++[y]->x<n:=by
  intro x y hy hx;rcases List.mem_append.1 hx with e | e
  ·have:=List.mem_range.1 e;omega
  ·simp at e;omega
 have tsel:=qlz (n:=n) (rs:=List.range j++[i]) (ks:=List.range j++[j]) (c1:=none) (c2:=none) h.mat (by rw[h.len];omega) (by omega) (λx hx=>h.cols x (by rw[<-h.len];exact hx)) (λx hx=>by rw[h.len];exact hb x i hi hx) (by simp;omega) (λx hx=>hb x j hj hx) (by simp;omega);have l1:(List.range j++[i]).length=j+1:=by simp
 have l2:(List.range j++[j]).length=j+1:=by simp
 rw[l1,l2]at tsel
 have hfa:∀H0,frzI 0 H0 2 a=some a:=by
  intro H0;obtain⟨rows,c,rfl,_⟩:=h.mat;rfl
 have hz:zap d (intV d):=zbv (qS hfit hB.1);refine oF o164 ?_;simp only[c164,r164_0,r164_1,r164_2,SS,reduceCtorEq]
 refine zaj (λm E H=>∃k,k+m=j/\E 0=a/\E 1= .int .i64 (i:Nat)/\E 2= .int .i64 (j:Nat)/\E 6= .ptr 0 0/\E 9= .int .i64 (k:Nat)/\Grow H 1 k (i64n (List.range k)) (E 7) [0]/\Grow H 1 k (i64n (List.range k)) (E 8) [0]/\
  (∀x m1 m2 c1 c2,E 7= .sl x 0 m1 1 c1->E 8≠ .sl x 0 m2 1 c2)/\∃u v,getB H 0=some [u,v]) (n:=j) ⟨0,by omega,?_,?_,?_,?_,?_,.inl ⟨rfl,rfl,?_⟩,.inl ⟨rfl,rfl,?_⟩,?_,⟨_,_,rfl⟩⟩ ?_
 ·rfl
 ·rfl
 ·rfl
 ·rfl
 ·rfl
 ·rfl
 ·rfl
 ·intro x m1 m2 c1 c2 e;simp only[UU,qQ,reduceIte]at e;simp at e
 rintro m E H ⟨k,hkm,e0,e1,e2,e6,e9,hG7,hG8,hdis,ru,rv,hres⟩;refine wM ?_;simp only[l164_0,r164_3,SS,reduceCtorEq,reduceIte,qQ,e2,e9];have h0lt:=zam hres;refine⟨λhlt=>?_,λhge=>?_⟩
 ·obtain⟨m,rfl⟩:∃m',m=m'+1:=⟨m-1,by omega⟩
  have w5:=wS1 k (by omega);obtain⟨ea,rda,hapa,hGa,hla,hka,_,_⟩:=zhu (bytes:=8) (xs:=[.int .i64 (k:Nat)]) hG7 rfl rfl (by omega) (by omega) (by simp);generalize hH1:zac ea (H++[some [.int .i64 ((k:Nat):Int)]]++[none])=H1 at*
  have hG8':Grow H1 1 k (i64n (List.range k)) (E 8) [0]:=by
   refine hG8.mono (λid h1 h2=>?_) (λ_ _ h=>h);rw[hka id (zam h1) (λm1 c1 e=>hdis id m1 k c1 none e h2)];exact h1
  obtain⟨eb,rdb,hapb,hGb,hlb,hkb,_,_⟩:=zhu (bytes:=8) (xs:=[.int .i64 (k:Nat)]) hG8' rfl rfl (by omega) (by omega) (by simp);generalize hH2:zac eb (H1++[some [.int .i64 ((k:Nat):Int)]]++[none])=H2 at*;have hrg:i64n (List.range k)++[.int .i64 ((k:Nat):Int)]=i64n (List.range (k+1)):=by simp[i64n,yU]
  rw[hrg]at hGa hGb
  have hold8:∀x m2 c2,E 8= .sl x 0 m2 1 c2->x<H.length:=by
   intro x m2 c2 e;rcases hG8 with⟨_,_,h8⟩ | ⟨_,_,id,h8,hb8,_⟩
   ·rw[h8]at e;simp at e
   ·rw[h8]at e;injection e with e;rw[<-e];exact zam hb8
  simp only[r164_4,SS,reduceIte,qQ,qK,e9,zcy,hapa,hH1];simp only[r164_5,SS,reduceIte,qQ,qK,e9,zcy,hapb,hH2];simp only[r164_6,SS,reduceIte,qQ,e9,w5];refine⟨m,_,_,by omega,⟨k+1,by omega,?_,?_,?_,?_,?_,?_,?_,?_,⟨ru,rv,?_⟩⟩,.refl⟩
  ·exact e0
  ·exact e1
  ·exact e2
  ·exact e6
  ·rfl
  ·simp only[UU,qQ,reduceIte];refine hGa.mono (λid h1 h2=>?_) (λ_ _ h=>h);rw[hkb id (zam h1) (λm1 c1 e=>?_)]
   ·exact h1
   ·injection h2 with h2
    have:=hold8 _ _ _ e;omega
  ·simp only[UU,qQ,reduceIte];exact hGb
  ·intro x m1 m2 c1 c2 h1 h2;simp only[UU,qQ,reduceIte]at h1 h2;injection h1 with h1
   injection h2 with h2
   omega
  ·rw[hkb 0 (by omega) (zkz hG8' (by simp)),hka 0 h0lt (zkz hG7 (by simp))];exact hres
 ·have hm:k=j:=by omega
  subst hm;obtain⟨ea,rda,hapa,hGa,hla,hka,_,_⟩:=zhu (bytes:=8) (xs:=[.int .i64 (i:Nat)]) hG7 rfl rfl (by omega) (by omega) (by simp);generalize hH1:zac ea (H++[some [.int .i64 ((i:Nat):Int)]]++[none])=H1 at*
  have hG8':Grow H1 1 k (i64n (List.range k)) (E 8) [0]:=by
   refine hG8.mono (λid h1 h2=>?_) (λ_ _ h=>h);rw[hka id (zam h1) (λm1 c1 e=>hdis id m1 k c1 none e h2)];exact h1
  obtain⟨eb,rdb,hapb,hGb,hlb,hkb,_,_⟩:=zhu (bytes:=8) (xs:=[.int .i64 (k:Nat)]) hG8' rfl rfl (by omega) (by omega) (by simp);generalize hH2:zac eb (H1++[some [.int .i64 ((k:Nat):Int)]]++[none])=H2 at*;have hrg1:i64n (List.range k)++[.int .i64 ((i:Nat):Int)]=i64n (List.range k++[i]):=by simp[i64n]
  have hrg2:i64n (List.range k)++[.int .i64 ((k:Nat):Int)]=i64n (List.range k++[k]):=by simp[i64n]
  rw[hrg1]at hGa;rw[hrg2]at hGb
  have hold8:∀x m2 c2,E 8= .sl x 0 m2 1 c2->x<H.length:=by
   intro x m2 c2 e;rcases hG8 with⟨_,_,h8⟩ | ⟨_,_,id,h8,hb8,_⟩
   ·rw[h8]at e;simp at e
   ·rw[h8]at e;injection e with e;rw[<-e];exact zam hb8
  have ga:getB H1 (H.length+1)=some (i64n (List.range k++[i])):=by
   rcases hGa with⟨h,_⟩ | ⟨_,_,id,h1,h2,_⟩
   ·omega
   ·injection h1 with h1;rw[h1];exact h2
  have ga2:getB H2 (H.length+1)=some (i64n (List.range k++[i])):=by
   rw[hkb _ (zam ga) (λm1 c1 e=>by have:=hold8 _ _ _ e;omega)];exact ga
  have gb:getB H2 (H1.length+1)=some (i64n (List.range k++[k])):=by
   rcases hGb with⟨h,_⟩ | ⟨_,_,id,h1,h2,_⟩
   ·omega
   ·injection h1 with h1;rw[h1];exact h2
  have g0:getB H2 0=some [ru,rv]:=by
   rw[hkb 0 (by omega) (zkz hG8' (by simp)),hka 0 h0lt (zkz hG7 (by simp))];exact hres
  simp only[r164_7,SS,reduceCtorEq,reduceIte,qQ,qK,e0,e1,e2,zcy,hapa,hH1,hapb,hH2];refine qgx tsel l1.symm l2.symm ga2 gb (by omega) h.closed hfa rfl ?_;simp only[zaf,zac,qB,qI,SS,reduceIte,qQ];refine zaa tdet ?_
  have g1:getB ((H2.set (H.length+1) none).set (H1.length+1) none) 0=some [ru,rv]:=by
   rw[zai (by omega),zai (by omega)];exact g0
  simp only[SS,reduceIte,qV,qQ,qK,e6,g1,znd,show(intV d).firm=true from rfl];refine⟨.inl trivial,_,zfh (id:=0) (by exact e6) (zaw (zam g1)),.drop _ _ rfl (by intro i cs h;omega)⟩
structure Lead(B n:Nat)(M:List (List Int))(ds:List Int):Prop where
 eq:zpz B M=some ds
 len:ds.length=n
 fits:∀z∈ds,z.natAbs<B
theorem jaz{B n:Nat}{M:List (List Int)}{a:AV}{ds:List Int}(h:Sq n M a)(hd:zpz B M=some ds):Lead B n M ds:=⟨hd,by rw[<-h.len];exact zek hd,zsn hd⟩
theorem zne{B n:Nat}{M:List (List Int)}{ds:List Int}(hB:DivB B)(h:Lead B n M ds)(k:Nat):(zdb ds k).natAbs<BIG:=by
 unfold zdb;split
 ·exact zdz (by decide)
 ·rw[qX];cases e:ds[k-1]? with
  |none=>exact zdz (by decide)
  |some z=>exact qS (h.fits z (List.mem_of_getElem? e)) hB.1
theorem zyd{B n:Nat}{M:List (List Int)}{ds:List Int}(hB:DivB B)(h:Lead B n M ds)(hn:n<=8){k:Nat}(hk:k<=n):Rt 165 [rowV ds,.int .i64 (k:Nat)] [] (intV (zdb ds k)) []:=
 jfp (ziz (λz hz=>qS (h.fits z hz) hB.1)) (by rw[h.len];exact hk) (by rw[h.len];omega)
theorem jfq{B n:Nat}{M:List (List Int)}{a:AV}{ds:List Int}{i j:Nat}{b:Bool}(hB:DivB B)(h:Sq n M a)(hd:Lead B n M ds)(hi:i<n)(hj:j<n)(hb:zqc B M ds i j=some b):
  Rt 91 [a,rowV ds,.int .i64 (i:Nat),.int .i64 (j:Nat)] [] (.bool b) []:=by
 unfold zqc at hb;simp only[yL,zD]at hb;obtain⟨l,hl,x,hx,rfl⟩:=hb;obtain⟨hdet,hlf⟩:=zhc hl;obtain⟨rfl,hxf⟩:=zdc hx;have hn8:=h.hi;have t1:=qax hB h hi hj hdet hlf;have hz:zap l (intV l):=zbv (qS hlf hB.1);obtain⟨v2,hv2,t2⟩:=zhb 2 (by omega) (by omega);obtain⟨va,hva,t3⟩:=zAbs hz;have hf:(2*(l.natAbs:Int)).natAbs<BIG:=by have:=hB.1;omega
 obtain⟨vm,hvm,t4⟩:=zMul hv2 hva hf;have t5:=zyd hB hd hn8 (k:=j+1) (by omega);have hm:zap (zdb ds (j+1)) (intV (zdb ds (j+1))):=zbv (zne hB hd _);have t6:=zCmp hvm hm;have w5:=wS1 j (by omega);have c1:qJ [a,.int .i64 (i:Nat),.int .i64 (j:Nat)]=true:=by simp only[qJ,h.closed,AV.closed,qP]
 have c2:qJ [v2,va]=true:=by simp only[qJ,hv2.closed,hva.closed,qP]
 have c3:qJ [vm,intV (zdb ds (j+1))]=true:=by simp only[qJ,hvm.closed,hm.closed,qP]
 refine oF o91 ?_;simp only[c91,r91_0,r91_1,SS,reduceCtorEq];refine zaa t2 ?_ rfl hv2.closed;simp only[SS,reduceCtorEq,reduceIte,qQ];refine zaa t1 ?_ c1;simp only[SS,reduceIte,qQ];refine zaa t3 ?_ rfl hva.closed;simp only[SS,reduceIte,qQ];refine zaa t4 ?_ c2 hvm.closed;simp only[SS,reduceIte,qQ,w5];refine zaa t5 ?_;simp only[SS,reduceIte,qQ];refine zaa t6 ?_ c3;simp only[SS,reduceIte,qQ]
 have e:decide ((if 2*(l.natAbs:Int)<zdb ds (j+1)then(-1:Int)else if 2*(l.natAbs:Int)=zdb ds (j+1)then 0 else 1)<=0)=decide (2*(l.natAbs:Int)<=zdb ds (j+1)):=by
  rw[decide_eq_decide];split
  ·omega
  ·split<;>omega
 rw[e];exact dR
theorem jba{B n:Nat}{M:List (List Int)}{a:AV}{ds:List Int}{i:Nat}{b:Bool}(hB:DivB B)(h:Sq n M a)(hd:Lead B n M ds)(h0:0<i)(hi:i<n)(hb:lovO B M ds i=some b):
  Rt 92 [a,rowV ds,.int .i64 (i:Nat)] [] (.bool b) []:=by
 unfold lovO at hb;simp only[yL,zD]at hb;obtain⟨l,hl,p,hp,q,hq,s,hs,x,hx,r,hr,y,hy,rfl⟩:=hb;obtain⟨hdet,hlf⟩:=zhc hl;obtain⟨rfl,hpf⟩:=zdc hp;obtain⟨rfl,hqf⟩:=zdc hq;obtain⟨rfl,hsf⟩:=zdc hs;obtain⟨rfl,hxf⟩:=zdc hx;obtain⟨rfl,hrf⟩:=zdc hr;obtain⟨rfl,hyf⟩:=zdc hy;have hn8:=h.hi;have up:∀{z:Nat},z<B->z<BIG:=λh=>qS h hB.1
 have t1:=qax hB h hi (show i-1<n by omega) hdet hlf;have hz:zap l (intV l):=zbv (up hlf);have mi:=λk=>(zbv (zne hB hd k):zap (zdb ds k) (intV (zdb ds k)))
 obtain⟨v4,hv4,t2⟩:=zhb 4 (by omega) (by omega);obtain⟨v3,hv3,t3⟩:=zhb 3 (by omega) (by omega);have t4:=zyd hB hd hn8 (k:=i-1) (by omega);have t5:=zyd hB hd hn8 (k:=i+1) (by omega);have t6:=zyd hB hd hn8 (k:=i) (by omega);obtain⟨vp,hvp,t7⟩:=zMul (mi (i-1)) (mi (i+1)) (up hpf);obtain⟨vq,hvq,t8⟩:=zMul hz hz (up hqf);obtain⟨vs,hvs,t9⟩:=zAdd hvp hvq (up hsf);obtain⟨vx,hvx,t10⟩:=zMul hv4 hvs (up hxf);obtain⟨vr,hvr,t11⟩:=zMul (mi i) (mi i) (up hrf);obtain⟨vy,hvy,t12⟩:=zMul hv3 hvr (up hyf);have t13:=zCmp hvx hvy;have w1:IntKind.i64.wrap ((i:Int)-1)=((i-1:Nat):Int):=wQ (by omega);have w2:=wS1 i (by omega);have c1:qJ [a,.int .i64 (i:Nat),.int .i64 ((i-1:Nat):Int)]=true:=by simp only[qJ,h.closed,AV.closed,qP]
 have hx0:=hvx;obtain⟨lx,cx,_,_,_,rfl⟩:=hx0
 have k2:∀{u v:AV},u.closed=true->v.closed=true->qJ [u,v]=true:=by
  intro u v h1 h2;simp only[qJ,h1,h2,qP]
 refine oF o92 ?_;simp only[c92,r92_0,r92_1,SS,reduceCtorEq,reduceIte,qQ,w1];refine zaa t1 ?_ c1;simp only[SS,reduceIte,qV,qQ,qK,znd,show(intV l).firm=true from rfl];simp only[r92_2,SS];refine zaa t2 ?_ rfl hv4.closed;simp only[SS,reduceIte,qQ,w1];refine zaa t4 ?_;simp only[SS,reduceIte,qQ,w2];refine zaa t5 ?_;simp only[SS,reduceIte,qQ];refine zaa t7 ?_ rfl hvp.closed;simp only[SS,reduceIte,qV,qQ,qK];refine zaa t8 ?_ rfl hvq.closed;simp only[SS,reduceIte,qQ];refine zaa t9 ?_ (k2 hvp.closed hvq.closed) hvs.closed;simp only[SS,reduceIte,qQ];refine zaa t10 ?_ (k2 hv4.closed hvs.closed);simp only[SS,reduceIte,qV,qQ,qK];refine⟨rfl,?_⟩;simp only[r92_3,SS,reduceIte,qV,qQ,qK];refine zaa t3 ?_ rfl hv3.closed;simp only[SS,reduceIte,qQ];refine zaa t6 ?_;simp only[SS,reduceIte,qQ];refine zaa t6 ?_;simp only[SS,reduceIte,qQ];refine zaa t11 ?_ rfl hvr.closed;simp only[SS,reduceIte,qQ];refine zaa t12 ?_ (k2 hv3.closed hvr.closed) hvy.closed;simp only[SS,reduceIte,qQ];refine zaa t13 ?_ (k2 rfl hvy.closed);simp only[SS,reduceIte,qQ];refine⟨rfl,?_⟩;generalize 4*(zdb ds (i-1)*zdb ds (i+1)+l*l)=x;generalize 3*(zdb ds i*zdb ds i)=y
 have e:decide ((0:Int)<=if x<y then(-1:Int)else if x=y then 0 else 1)=decide (y<=x):=by
  rw[decide_eq_decide];split
  ·omega
  ·split<;>omega
 first | rw[e] | (simp only[ge_iff_le];rw[e])
 exact dR
def zrow(n:Nat):List Int:=List.replicate n 0
def zmat(N n:Nat):List (List Int):=List.replicate N (zrow n)
def zcs(n:Nat):List AV:=zeo n [.bool false,.vec [] 0 (some 0)]
theorem zsr:zap 0 (.agg [.bool false,.vec [] 0 (some 0)]):=⟨[],some 0,zbn.nil,by simp,rfl,rfl⟩
theorem zss:∀n,RowC (zrow n) (zcs n):=by
 intro n
 induction n with
 |zero=>trivial
 |succ n ih=>exact⟨zsr,ih⟩
theorem zoj{N n i:Nat}(h:i<N):(zmat N n).getD i []=zrow n:=by
 unfold zmat;rw[qX,yW,if_pos h,Option.getD_some]
def zps(n i:Nat):List (Nat×Option Nat):=(List.range i).map λk=>(k+1,some n)
def zH(N n i:Nat):Heap:=some ((zps n i).map (zcv n)++List.replicate (N-i) nilV)::List.replicate i (some (zcs n))
theorem zvf(n i:Nat):(zps n i).length=i:=by simp[zps]
theorem jbb{n i k:Nat}(h:k<i):(zps n i).getD k (0,none)=(k+1,some n):=by
 rw[qX];simp[zps,h]
theorem jfr{N n i k:Nat}(h:k<i):getB (zH N n i) (k+1)=some (zcs n):=by
 unfold getB zH;rw[qO,yW,if_pos h]
theorem jfs(N n:Nat):MatH (zH N n N) 0 (zps n N) n (zmat N n):=by
 refine⟨?_,by rw[zvf];simp[zmat],λi hi=>?_,λi hi=>?_,?_⟩
 ·show some ((zps n N).map (zcv n)++List.replicate (N-N) nilV)=_
  rw[zM,qB,qI]
 ·have hi:i<N:=by simpa[zmat]using hi
  rw[zoj hi];simp[zrow]
 ·have hi:i<N:=by simpa[zmat]using hi
  rw[jbb hi,zoj hi];exact⟨_,jfr hi,zss n⟩
 ·rw[List.nodup_cons];have e:(zps n N).map (·.1)=(List.range N).map (· + 1):=by simp[zps]
  rw[e];refine⟨λh=>?_,?_⟩
  ·obtain⟨k,_,hk⟩:=List.mem_map.1 h;omega
  ·refine List.pairwise_iff_getElem.2 (λi j hi hj hij=>?_);rw[jE,jE,jY,jY];omega
theorem qmc{N n:Nat}(hN:N<=16)(hn:n<=16):Rt 83 [.int .i64 (N:Nat),.int .i64 (n:Nat)] [] (.sl 0 0 N 1 (some N)) (zH N n N):=by
 refine oF o83 ?_;simp only[c83,r83_0,r83_1,SS,reduceCtorEq,reduceIte,qQ,qZ];refine⟨by omega,⟨by omega,by omega,by omega,by omega⟩,?_⟩;simp only[r83_2,SS,reduceIte,qQ];refine zaj (λk E H=>∃i,i+k=N/\H=zH N n i/\E 1= .int .i64 (n:Nat)/\E 5= .sl 0 0 N 1 (some N)/\E 10= .int .i64 (N:Nat)/\E 11= .int .i64 (i:Nat)) (n:=N) ⟨0,by omega,?_,?_,?_,?_,?_⟩ ?_
 ·simp[zH,zps]
 ·rfl
 ·rfl
 ·rfl
 ·rfl
 rintro k E H ⟨i,hik,rfl,e1,e5,e10,e11⟩;refine wM ?_;simp only[l83_0,r83_3,SS,reduceCtorEq,reduceIte,e10,e11];refine⟨λhlt=>?_,λhge=>?_⟩
 ·obtain⟨k,rfl⟩:∃k',k=k'+1:=⟨k-1,by omega⟩
  have hi:i<N:=by omega
  have w5:=wS1 i (by omega);have hlen:(zH N n i).length=i+1:=by simp[zH]
  have h0:getB (zH N n i++[some (zeo n [AV.bool false,AV.vec [] 0 (some 0)])]) 0=some ((zps n i).map (zcv n)++List.replicate (N-i) nilV):=rfl;have hl0:((zps n i).map (zcv n)++List.replicate (N-i) nilV).length=N:=by simp[zvf];omega
  simp only[r83_4,r83_5,SS,reduceIte,qV,qQ,e1,e5,e11,qZ,hlen,h0,hl0];refine⟨by omega,⟨by omega,by omega,by omega,by omega⟩,⟨by omega,by omega⟩,by omega,?_⟩;simp only[r83_6,SS,reduceIte,qQ,e11,w5];refine⟨k,_,_,by omega,⟨i+1,by omega,?_,?_,?_,?_,?_⟩,.refl⟩
  ·have e:List.replicate (N-i) nilV=nilV::List.replicate (N-(i+1)) nilV:=by rw[<-zX];congr 1;omega
   have ez:zps n (i+1)=zps n i++[(i+1,some n)]:=by simp[zps,yU]
   have hset:((zps n i).map (zcv n)++List.replicate (N-i) nilV).set i (.sl (i+1) 0 n 2 (some n))=(zps n (i+1)).map (zcv n)++List.replicate (N-(i+1)) nilV:=by
    rw[e,ez,List.set_append_right _ _ (by simp[zvf])];simp[zvf,zcv]
   show some (((zps n i).map (zcv n)++List.replicate (N-i) nilV).set i (.sl (i+1) 0 n 2 (some n)))::(List.replicate i (some (zcs n))++[some (zcs n)])=zH N n (i+1)
   rw[hset,<-List.replicate_succ'];rfl
  all_goals simp only[UU,qQ,reduceIte, *]
 ·have:i=N:=by omega
  subst this;simp only[r83_7,SS,reduceIte,qQ,e5];exact kR
def i64z(r:List Int):List AV:=r.map λz=>AV.int .i64 z
theorem zbe(r:List Int):(i64z r).length=r.length:=by simp[i64z]
theorem zck(r:List Int)(j:Nat)(h:j<r.length)(d:AV):(i64z r).getD j d= .int .i64 (r.getD j 0):=by simp[i64z,h]
def In64(z:Int):Prop:= -9223372036854775808<=z/\z<9223372036854775808
structure ImV(M:List (List Int))(a:AV):Prop where
 val:∃rows c,a= .vec rows M.length c/\rows.length=M.length/\∀i,i<M.length->∃c',rows.getD i .junk= .vec (i64z (M.getD i [])) (M.getD i []).length c'
 fit:∀i j,In64 (ent M i j)
theorem ImV.closed{M:List (List Int)}{a:AV}(h:ImV M a):a.closed=true:=by
 obtain⟨rows,c,rfl,_⟩:=h.val;rfl
theorem zvg{N n:Nat}{M M':List (List Int)}(h1:M.length=N)(h2:M'.length=N)(h3:∀i,i<N->(M.getD i []).length=n)(h4:∀i,i<N->(M'.getD i []).length=n)(h:∀i j,i<N->j<n->ent M i j=ent M' i j):M=M':=by
 refine zI (h1.trans h2.symm) λi hi hi'=>?_
 have e1:M.getD i []=M[i]:=by rw[qX,qW hi];rfl
 have e2:M'.getD i []=M'[i]:=by rw[qX,qW hi'];rfl
 have l1:=h3 i (by omega);have l2:=h4 i (by omega);rw[e1]at l1;rw[e2]at l2;refine zI (l1.trans l2.symm) λj hj hj'=>?_
 have:=h i j (by omega) (by omega);unfold ent at this;rw[e1,e2,qX,qX,qW hj,qW hj']at this;simpa using this
theorem zvh{H:Heap}{o n:Nat}{ps:List (Nat×Option Nat)}{M:List (List Int)}(h:MatH H o ps n M):zya H n ps M:=⟨h.len,λi hi=>⟨h.cols i hi,h.rows i hi⟩⟩
theorem zjw{H:Heap}{o n:Nat}{ps:List (Nat×Option Nat)}{M:List (List Int)}{cap:Option Nat}{b:Bool}(h:MatH H o ps n M):∃v,AL.Fin 0 (.tup [.sl o 0 M.length 1 cap,.bool b]) H v []/\v.wk= .tup [matC M,.bool b]:=by
 obtain⟨vs,h1,h2,h3⟩:=zve (zvh h);have hl:=h.len;refine⟨.tup [.vec vs M.length cap,.bool b],.freeze 4 _ _ _ ?_ (by intro i cs h;omega),?_⟩
 ·have e:frzI 0 H 3 (.sl o 0 M.length 1 cap)=some (.vec vs M.length cap):=by
   rw[frzI];simp only[yY,if_false,h.outer,need,xZ,xM,zO,hl,qU,if_true,yX];rw[qC (by simp[hl]),h1];rfl
  rw[frzI];simp only[yV,List.mapM_nil,e];rfl
 ·have:=qaw (M:=M) (a:= .vec vs M.length cap) ⟨vs,cap,rfl,h2,h3⟩;simp only[AV.wk,AV.wk.wkL]at this ⊢;rw[this]
theorem zlu(N n i j:Nat):ent (zmat N n) i j=0:=by
 have hz:∀j,(zrow n).getD j 0=0:=by
  intro j;rw[qX];unfold zrow;rw[yW];split<;>rfl
 unfold ent;rcases qT i N with h | h
 ·rw[zoj h];exact hz j
 ·have e:(zmat N n).getD i []=[]:=by rw[qX,xG (by rw[zmat,List.length_replicate];exact h)];rfl
  rw[e];rfl
theorem zjx(N n:Nat):(zmat N n).length=N/\∀i,i<N->((zmat N n).getD i []).length=n:=⟨by simp[zmat],λi hi=>by rw[zoj hi];simp[zrow]⟩
theorem zhv{M:List (List Int)}{i j:Nat}{z:Int}(hi:i<M.length)(hj:j<(M.getD i []).length)(s t:Nat):ent (setM M i j z) s t=if s=i/\t=j then z else ent M s t:=by
 have key:∀{α:Type} {l:List α} {i j:Nat} {x d:α},i<l.length->(l.set i x).getD j d=if j=i then x else l.getD j d:=by
  intro α l i j x d h;rw[qX,zC,qX];by_cases e:i=j
  ·subst e;rw[if_pos rfl,if_pos h,if_pos rfl];rfl
  ·rw[if_neg e,if_neg (Ne.symm e)]
 unfold ent setM;rw[key hi];by_cases h1:s=i
 ·subst h1;rw[if_pos rfl,key hj];by_cases h2:t=j
  ·rw[if_pos h2,if_pos ⟨rfl,h2⟩]
  ·rw[if_neg h2,if_neg (λe=>h2 e.2)]
 ·rw[if_neg h1,if_neg (λe=>h1 e.1)]
theorem zst(H:Heap)(N n:Nat):MatH (H++(zH N n N).map (renB (zan [] H.length))) H.length ((zps n N).map λp=>(H.length+p.1,p.2)) n (zmat N n):=zlq (jfs N n)
theorem qtj{M:List (List Int)}{rows:List AV}{c cap:Option Nat}{n:Nat}(hn:n<=16)(hN:M.length<=16)(hl:rows.length=M.length)(hr:∀i,i<M.length->∃c',rows.getD i .junk= .vec (i64z (M.getD i [])) (M.getD i []).length c')(hc:∀i,i<M.length->(M.getD i []).length=n)(hf:∀i j,In64 (ent M i j))
  {i:Nat} (hi:i<M.length) {v49 v50:AV} {Q:Post} {ps:List (Nat×Option Nat)} {X0:List (List Int)} (hX0:X0.length=M.length)
  {E:Env} {H:Heap} (hM:MatH H 0 ps n X0) (e0:E 0= .vec rows M.length c) (e6:E 6= .sl 0 0 M.length 1 cap) (e7:E 7= .int .i64 (i:Nat)) (e49:E 49=v49) (e50:E 50=v50) (e57:E 57= .int .i64 (n:Nat)) (e58:E 58= .int .i64 0)
  (hQ:∀E' H' X,MatH H' 0 ps n X->X.length=M.length->(∀s t,ent X s t=if s=i/\t<n then ent M s t else ent X0 s t)->E' 0= .vec rows M.length c->E' 6= .sl 0 0 M.length 1 cap->E' 49=v49->E' 50=v50->Q (.exit 4) E' H'):
  Wg 0 78 (.loop l24_2) E H Q:=by
 refine zaj (λk E H=>∃j X,j+k=n/\MatH H 0 ps n X/\X.length=M.length/\(∀s t,ent X s t=if s=i/\t<j then ent M s t else ent X0 s t)/\E 0= .vec rows M.length c/\E 6= .sl 0 0 M.length 1 cap/\E 7= .int .i64 (i:Nat)/\E 49=v49/\E 50=v50/\
  E 57= .int .i64 (n:Nat)/\E 58= .int .i64 (j:Nat)) (n:=n) ⟨0,X0,by omega,hM,hX0,λs t=>by rw[if_neg (by omega)],e0,e6,e7,e49,e50,e57,e58⟩ ?_
 rintro k E H ⟨j,X,hjk,hM,hXl,hX,e0,e6,e7,e49,e50,e57,e58⟩;refine wM ?_;simp only[l24_2,r24_14,SS,reduceIte,e57,e58];refine⟨λhlt=>?_,λhge=>?_⟩
 ·obtain⟨k,rfl⟩:∃k',k=k'+1:=⟨k-1,by omega⟩
  have hj:j<n:=by omega
  obtain⟨ci,hci⟩:=hr i hi;have hrl:=hc i hi;have gz:=zck (M.getD i []) j (by omega) .junk;obtain⟨csk,gk,lk,rk,fk⟩:=zei hM (i:=i) (by omega);have ok:=zce (ps:=ps) (n:=n) (i:=i) (by rw[hM.len];omega);have hol:(ps.map (zcv n)).length=M.length:=by rw[zO,hM.len];exact hXl
  have hou:=hM.outer;obtain⟨z1,z2⟩:=hf i j;obtain⟨v,hv,ts⟩:=zhb (ent M i j) (by omega) (by omega);have hv0:=hv;obtain⟨lv,cv,_,_,_,rfl⟩:=hv0;have hset:=ziy hM (i:=i) (j:=j) (by omega) hj hv gk;have w5:=wS1 j (by omega);have hent:(M.getD i []).getD j 0=ent M i j:=rfl;simp only[r24_15,r24_16,SS,fC,reduceCtorEq,reduceIte,qQ,e0,e6,e7,e58,qZ,hou,hol,ok,hci,hl,gz,hent,zbe,hrl];refine⟨⟨by omega,by omega⟩,by omega,⟨by omega,by omega⟩,by omega,⟨by omega,by omega⟩,by omega,?_⟩;refine zaa ts ?_;simp only[SS,reduceIte,qV,qQ,gk,lk,qZ];refine⟨⟨by omega,by omega⟩,by omega,rfl,?_⟩;simp only[r24_17,SS,reduceIte,qQ,e58,w5];refine⟨k,_,_,by omega,⟨j+1,setM X i j (ent M i j),by omega,hset,by rw[zdd];exact hXl,?_,?_,?_,?_,?_,?_,?_,?_⟩,.refl⟩
  ·intro s t;rw[zhv (by omega) (by rw[hM.cols i (by omega)];exact hj),hX];by_cases h1:s=i/\t=j
   ·rw[if_pos h1,if_pos ⟨h1.1,by omega⟩,h1.1,h1.2]
   ·rw[if_neg h1];by_cases h2:s=i/\t<j
    ·rw[if_pos h2,if_pos ⟨h2.1,by omega⟩]
    ·rw[if_neg h2,if_neg (by omega)]
  all_goals simp only[UU,qQ,reduceIte, *]
 ·have hjn:j=n:=by omega
  subst hjn;exact hQ _ _ X hM hXl hX (by exact e0) (by exact e6) (by exact e49) (by exact e50)
theorem qmd{M:List (List Int)}{rows:List AV}{c cap:Option Nat}{n:Nat}(hn:n<=16)(hN:M.length<=16)(hl:rows.length=M.length)(hr:∀i,i<M.length->∃c',rows.getD i .junk= .vec (i64z (M.getD i [])) (M.getD i []).length c')(hc:∀i,i<M.length->(M.getD i []).length=n)(hf:∀i j,In64 (ent M i j))
  {Q:Post} {ps:List (Nat×Option Nat)} {E:Env} {H:Heap} (hM:MatH H 0 ps n (zmat M.length n)) (e0:E 0= .vec rows M.length c) (e6:E 6= .sl 0 0 M.length 1 cap) (e49:E 49= .int .i64 (M.length:Nat)) (e50:E 50= .int .i64 0)
  (hQ:∀E' H',MatH H' 0 ps n M->E' 6= .sl 0 0 M.length 1 cap->Q (.exit 2) E' H'):
  Wg 0 78 (.loop l24_1) E H Q:=by
 refine zaj (λk E H=>∃i X,i+k=M.length/\MatH H 0 ps n X/\X.length=M.length/\(∀s t,ent X s t=if s<i/\t<n then ent M s t else 0)/\E 0= .vec rows M.length c/\E 6= .sl 0 0 M.length 1 cap/\E 49= .int .i64 (M.length:Nat)/\E 50= .int .i64 (i:Nat)) (n:=M.length) ⟨0,zmat M.length n,by omega,hM,(zjx _ _).1,λs t=>by rw[if_neg (by omega),zlu],e0,e6,e49,e50⟩ ?_;rintro k E H ⟨i,X,hik,hM,hXl,hX,e0,e6,e49,e50⟩;refine wM ?_;simp only[l24_1,r24_11,SS,reduceIte,e49,e50];refine⟨λhlt=>?_,λhge=>?_⟩
 ·obtain⟨k,rfl⟩:∃k',k=k'+1:=⟨k-1,by omega⟩
  have hi:i<M.length:=by omega
  obtain⟨ci,hci⟩:=hr i hi;have hrl:=hc i hi;have w5:=wS1 i (by omega);simp only[r24_12,r24_13,SS,fC,reduceCtorEq,reduceIte,qQ,e0,e50,qZ,hci,hl,hrl];refine⟨⟨by omega,by omega⟩,by omega,?_⟩;refine qtj hn hN hl hr hc hf hi (c:=c) (cap:=cap) hXl hM (by exact e0) (by exact e6) (by rfl) (by simp only[UU,qQ];exact e49) (by simp only[UU,qQ];exact e50) (by rfl) (by rfl) ?_;intro E' H' X' hM' hXl' hX' f0 f6 f49 f50;simp only[SS,reduceIte,qQ,r24_18,f50,w5];refine⟨k,_,_,by omega,⟨i+1,X',by omega,hM',hXl',?_,?_,?_,?_,?_⟩,.refl⟩
  ·intro s t;rw[hX',hX];by_cases h1:s=i/\t<n
   ·rw[if_pos h1,if_pos ⟨by omega,h1.2⟩]
   ·rw[if_neg h1];by_cases h2:s<i/\t<n
    ·rw[if_pos h2,if_pos ⟨by omega,h2.2⟩]
    ·rw[if_neg h2,if_neg (by omega)]
  all_goals simp only[UU,qQ,reduceIte, *]
 ·have hiN:i=M.length:=by omega
  subst hiN
  have e:X=M:=by
   refine zvg hXl rfl (λs hs=>hM.cols s (by omega)) hc λs t hs ht=>?_
   rw[hX,if_pos ⟨hs,ht⟩]
  exact hQ _ _ (e ▸ hM) (by exact e6)
theorem qme{M:List (List Int)}{a:AV}{n:Nat}(h:ImV M a)(hn:1<=n/\n<=16)(hN:1<=M.length/\M.length<=16)(hc:∀i,i<M.length->(M.getD i []).length=n):
  Rt 24 [a] [] (.tup [matC M,.bool true]) []:=by
 have hf:=h.fit;obtain⟨rows,c,rfl,hl,hr⟩:=h.val;refine oFw o24 ?_;simp only[c24,r24_0,r24_1,SS,fC,reduceCtorEq,reduceIte,qQ];refine⟨λ_=>⟨λh=>absurd h (by omega),λ_=>?_⟩,λh=>absurd h (by omega)⟩;simp only[r24_3,SS,reduceCtorEq,reduceIte,qQ];refine zaj (λk E H=>∃i,i+k=M.length/\H=[]/\E 0= .vec rows M.length c/\E 17= .vec rows M.length c/\E 18= .int .i64 (M.length:Nat)/\E 19= .int .i64 (i:Nat)) (n:=M.length) ⟨0,by omega,rfl,by rfl,by rfl,by rfl,by rfl⟩ ?_;rintro k E H ⟨i,hik,rfl,e0,e17,e18,e19⟩;obtain⟨c0,hc0⟩:=hr 0 (by omega);have hrl0:=hc 0 (by omega);refine wM ?_;simp only[l24_0,r24_4,SS,reduceCtorEq,reduceIte,e18,e19];refine⟨λhlt=>?_,λhge=>?_⟩
 ·obtain⟨k,rfl⟩:∃k',k=k'+1:=⟨k-1,by omega⟩
  have hi:i<M.length:=by omega
  obtain⟨ci,hci⟩:=hr i hi;have hrl:=hc i hi;have w5:=wS1 i (by omega);simp only[r24_5,r24_6,SS,fC,reduceCtorEq,reduceIte,qQ,e0,e17,e19,qZ,hci,hl,hrl,hc0,hrl0,jX];refine⟨⟨by omega,by omega⟩,by omega,λ_=>⟨λ_=>⟨⟨by omega,by omega⟩,by omega,?_⟩,λh=>absurd h (by omega)⟩,λh=>absurd h (by omega)⟩;refine⟨λh=>absurd rfl h,λ_=>?_⟩;simp only[r24_8,SS,reduceIte,qQ,e19,w5];refine⟨k,_,_,by omega,⟨i+1,by omega,rfl,?_,?_,?_,?_⟩,.refl⟩
  all_goals simp only[UU,qQ,reduceIte, *]
 ·have hiN:i=M.length:=by omega
  subst hiN;simp only[r24_9,SS,fC,reduceCtorEq,reduceIte,qQ,e0,hc0,hl,hrl0,jX];refine⟨⟨by omega,by omega⟩,by omega,?_⟩;refine zdx (qmc hN.2 hn.2) rfl ?_;have hz:MatH ((zH M.length n M.length).map (renB (zan [] 0))) 0 ((zps n M.length).map λp=>(0+p.1,p.2)) n (zmat M.length n):=zst [] M.length n;simp only[zaf,SS,reduceIte,qQ,AV.ren,zcj,qG]
  have hH1:zac (effs (zan [] 0) 0 (zH M.length n M.length)) (List.replicate (zH M.length n M.length).length none)=(zH M.length n M.length).map (renB (zan [] 0)):=
   zhs (H:=[]) (zan [] 0) (λi=>zcj 0 i) (zH M.length n M.length) []
  simp only[hH1];generalize (zH M.length n M.length).map (renB (zan [] 0))=H1 at*;simp only[SS,reduceCtorEq,reduceIte,qQ,r24_10,e0];refine qmd (c:=c) (cap:=some M.length) hn.2 hN.2 hl hr hc hf hz (by exact e0) (by rfl) (by rfl) (by rfl) ?_;intro E' H' hM' f6;simp only[SS,reduceCtorEq,reduceIte,r24_19,f6];obtain⟨v,g1,g2⟩:=zjw (cap:=some M.length) (b:=true) hM';exact⟨.inl trivial,_,v,rfl,g1,g2⟩
theorem mOf{M:List (List Int)}{a:AV}{n:Nat}(h:ImV M a)(hn:1<=n/\n<=16)(hN:1<=M.length/\M.length<=16)(hc:∀i,i<M.length->(M.getD i []).length=n):
  Rt 22 [a] [] (matC M) []:=by
 have ts:=qme h hn hN hc;obtain⟨rows,c,rfl,hl,hr⟩:=h.val;refine oF o22 ?_;simp only[c22,r22_0,r22_1,SS,reduceCtorEq,reduceIte];refine zaa ts ?_;simp only[SS,reduceIte,qQ,r22_2,qN,qO];exact kR
end Go.Proofs.YtgfbaioffpcelaaGreatDoor
namespace Go.Limb
def dblL:List Nat->Nat->List Nat
 | [],b=>[b]
 |x::r,b=>(2*x%4294967296+b)::dblL r (x/2147483648)
theorem qdn:∀(l:List Nat) (b:Nat),(dblL l b).length=l.length+1:=by
 intro l
 induction l with
 |nil=>intro b;rfl
 |cons x r ih=>intro b;simp[dblL,ih]
theorem qtk:∀(l:List Nat) (b:Nat),val (dblL l b)=2*val l+b:=by
 intro l
 induction l with
 |nil=>intro b;simp[dblL,val]
 |cons x r ih=>
  intro b;simp only[dblL,val,ih];omega
theorem qtl:∀(l:List Nat) (b:Nat),Dig l->b<=1->Dig (dblL l b):=by
 intro l
 induction l with
 |nil=>intro b _ hb;exact Dig.cons (by omega) Dig.nil
 |cons x r ih=>
  intro b h hb;have hx:=h.head;exact Dig.cons (by omega) (ih _ h.tail (by omega))
theorem zye:∀(l:List Nat) (w:Nat),Dig l->l.getD w 0=val l/4294967296^w%4294967296:=by
 intro l
 induction l with
 |nil=>intro w _;simp[val]
 |cons x r ih=>
  intro w h;have hx:=h.head;cases w with
  |zero=>simp only[val,zZ,yP,jG];omega
  |succ w=>
   rw[jW,ih w h.tail,val,xP,qM (4294967296^w),<-yR];congr 2;omega
theorem jbc(l:List Nat)(i:Nat)(h:Dig l):l.getD (i/32) 0/2^(i%32)%2=val l/2^i%2:=by
 rw[zye l _ h];have e:4294967296^(i/32)=2^(32*(i/32)):=by rw[Nat.pow_mul]
 have hi:i=32*(i/32)+i%32:=by omega
 have e2:val l/2^i=val l/2^(32*(i/32))/2^(i%32):=by
  rw[yR,<-xL,<-hi]
 rw[e,e2];generalize val l/2^(32*(i/32))=x;have hs:i%32<32:=qE _ (by decide);generalize i%32=s at hs
 have e3:(4294967296:Nat)=2^s*(2*2^(31-s)):=by
  rw[<-Nat.pow_succ',<-xL];have:s+(31-s+1)=32:=by omega
  rw[this]
 rw[e3,Nat.mod_mul_right_div_self,zT]
theorem qdo{V n Q r b:Nat}(hb:b<2)(hV:V/2=Q*n+r)(hr:r<n)(hbit:V%2=b):
  (2*r+b<n->V=2*Q*n+(2*r+b))/\(n<=2*r+b->V=(2*Q+1)*n+(2*r+b-n)/\2*r+b-n<n):=by
 have hV2:V=2*(V/2)+V%2:=by omega
 have e1:2*Q*n=2*(Q*n):=xQ _ _ _;have e2:(2*Q+1)*n=2*(Q*n)+n:=by rw[yJ,xQ,xD]
 constructor
 ·intro _;omega
 ·intro h;omega
theorem qmf{a s:Nat}(h:a%2^(s+1)=0):a ||| 2^s=a+2^s:=by
 have e:a=2^(s+1)*(a/2^(s+1)):=by
  have:=xA a (2^(s+1));omega
 have hlt:2^s<2^(s+1):=yD (by decide) (by omega);have:=zJ hlt (a/2^(s+1));rw[<-e]at this;exact this.symm
end Go.Limb
namespace Go.Proofs.YtgfbaioffpcelaaGreatDoor
open Go Go.AL Go.Proofs Go.Limb
theorem or32{a b:Nat}(ha:a<4294967296)(hb:b<4294967296):IntKind.u32.wrap (((BitVec.ofInt IntKind.u32.bits (a:Int) ||| BitVec.ofInt IntKind.u32.bits (b:Int)).toNat:Nat):Int)=((a ||| b:Nat):Int):=by
 have h:(BitVec.ofInt IntKind.u32.bits (a:Int) ||| BitVec.ofInt IntKind.u32.bits (b:Int)).toNat=a ||| b:=by
  show(BitVec.ofInt 32 (a:Int) ||| BitVec.ofInt 32 (b:Int)).toNat=a ||| b
  rw[BitVec.toNat_or,BitVec.ofInt_natCast,BitVec.ofInt_natCast,BitVec.toNat_ofNat,BitVec.toNat_ofNat,xX ha,xX hb]
 rw[h];exact zmz (jA (n:=32) ha hb)
theorem shl1(x:Nat):IntKind.u32.wrap ((x:Int)*2^min (Int.toNat 1) IntKind.u32.bits)=((2*x%4294967296:Nat):Int):=by
 have e:(2:Int)^min (Int.toNat 1) IntKind.u32.bits=2:=rfl;rw[e,show(x:Int)*2=((2*x:Nat):Int) by omega,wu32]
theorem jir(x:Nat):Int.fdiv (x:Int) (2^min (Int.toNat 31) IntKind.u32.bits)=((x/2147483648:Nat):Int):=by
 have e:(2:Int)^min (Int.toNat 31) IntKind.u32.bits=((2147483648:Nat):Int):=rfl;rw[e,yQ _ (by omega)];rfl
theorem jft{x b:Nat}(hb:b<=1):2*x%4294967296 ||| b=2*x%4294967296+b:=by
 rcases qT b 1 with h | h
 ·obtain rfl:b=0:=by omega
  rw[Nat.or_zero];omega
 ·obtain rfl:b=1:=by omega
  exact qmf (s:=0) (by omega)
theorem jbd(m:List Nat)(c:Option Nat)(b:Nat)(dm:Dig m)(hb:b<=1)(hm:m.length<1048576):∃c',Rt 229 [.vec (u32s m) m.length c,.int .u32 (b:Nat)] [] (.vec (u32s (dblL m b)) (dblL m b).length c') []:=by
 refine⟨none,?_⟩;refine oF o229 ?_;generalize hfin:dblL m b=fin;have hfl:fin.length=m.length+1:=by rw[<-hfin,qdn]
 simp only[c229,r229_0,r229_1,r229_2,SS,reduceCtorEq,reduceIte]
 refine zaj (λk E H=>∃i b out a,k+i=m.length/\out.length=i/\b<=1/\out++dblL (m.drop i) b=fin/\E 1= .int .u32 (b:Nat)/\E 5=a/\E 8= .vec (u32s m) m.length c/\E 9= .int .i64 (m.length:Nat)/\E 10= .int .i64 (i:Nat)/\qal [] 1 i (u32s out) a H) (n:=m.length)
  ⟨0,b,[],_,by omega,rfl,hb,by simpa using hfin,?_,rfl,?_,?_,?_,.inl ⟨rfl,rfl,?_,0,rfl⟩⟩ ?_
 ·rfl
 ·rfl
 ·rfl
 ·rfl
 ·rfl
 rintro k E H ⟨i,b,out,a,hki,hol,hb,hf,h1,h5,h8,h9,h10,hO⟩;refine wM ?_;simp only[l229_0,r229_3,SS,reduceCtorEq,reduceIte,h9,h10];refine⟨λhlt=>?_,λhge=>?_⟩
 ·obtain⟨k,rfl⟩:∃k',k=k'+1:=⟨k-1,by omega⟩
  have hi:i<m.length:=by omega
  have bm:=dm.getD i;have g:=zal m i hi AV.junk
  have hd:m.drop i=m.getD i 0::m.drop (i+1):=by
   rw[zU hi,qX,qW hi];rfl
  obtain⟨e,rd,H4,H5,hap,hH4,hg,hw,hO'⟩:=zpu (bytes:=4) (xs:=[.int .u32 ((2*m.getD i 0%4294967296+b:Nat):Int)]) hO rfl rfl (by omega) (by omega);have w5:=wS1 i (by omega);have b2:2*m.getD i 0%4294967296<4294967296:=qE _ (by omega);have wo:=or32 b2 (show b<4294967296 by omega);rw[jft hb]at wo;have e1:u32s out++[.int .u32 ((2*m.getD i 0%4294967296+b:Nat):Int)]=u32s (out++[2*m.getD i 0%4294967296+b]):=by simp[u32s]
  rw[e1]at hO';rw[hd,dblL]at hf;simp only[r229_4,r229_5,SS,fC,reduceIte,qQ,qK,h1,h5,h8,h10,qZ,g,zae,shl1,wo,zcy,hap];refine⟨⟨by omega,by omega⟩,by omega,by omega,?_⟩;simp only[r229_6,r229_7,SS,reduceIte,qQ,h10,w5,jir];rw[hH4];refine⟨by omega,k,_,H5,by omega,⟨i+1,m.getD i 0/2147483648,out++[2*m.getD i 0%4294967296+b],.sl (H.length+1) 0 (i+1) 1 none,by omega,by simp[hol],by omega,by rw[qH];exact hf,?_,rfl,?_,?_,?_,?_⟩,hw _ _ _ (by simp)⟩
  ·rfl
  all_goals first | exact hO' | simp only[UU,qQ,reduceIte, *]
 ·have hi:i=m.length:=by omega
  subst hi;rw[zL,dblL]at hf;obtain⟨e,rd,H4,H5,hap,hH4,hg,hw,hO'⟩:=zpu (bytes:=4) (xs:=[.int .u32 (b:Nat)]) hO rfl rfl (by omega) (by omega);simp only[r229_8,SS,reduceIte,qQ,qK,h1,h5,zcy,hap];refine⟨.inl trivial,_,rfl,?_⟩;have e1:u32s out++[.int .u32 (b:Nat)]=u32s fin:=by rw[<-hf];simp[u32s]
  rw[e1]at hg;rw[hfl];refine zmy ?_ hfl.symm;rw[hH4];exact hg
theorem qmg{id k i:Nat}:zan [id] k (i+1)=k+i:=by simp[zan]
theorem zsu{id k:Nat}:zan [id] k 0=id:=by simp[zan]
theorem zed{f:FuncId}{args args0:List AV}{id:Nat}{cs cs':List AV}{v:AV}{H L:Heap}{K:AV->Eff->List Nat->Nat->Prop}(h:Rt f args0 [some cs] v (some cs'::L))(hid:getB H id=some cs)
  (hargs:args=args0.map (AV.ren (zan [id] H.length))) (hu:AV.under.underL 1 args0=true) (hcs:qJ cs=true) (hcs':qJ cs'=true)
  (hk:K (v.ren (zan [id] H.length)) ((id,some cs')::effs (zan [id] H.length) 1 L) [id] L.length):ziv Tryz.prog G f args H K:=by
 have hlt:=zam hid;have hid2:H[id]?=some (some cs):=zcn hid
 have:=CallR0.mk (P:= Tryz.prog) (Γ:=G) (f:=f) (args:=args) (k:=H.length) (H:=H++List.replicate L.length none) [id] args0 [some cs] v (some cs'::L) h rfl (by simp) (by simpa using hlt) hargs hu (by
  intro i c hi;cases i with
  |zero=>
   simp at hi;subst hi;refine⟨cs,rfl,zbd _ _ hcs,?_⟩;rw[zsu,xE hlt,hid2];simp only[renB];rw[zay _ _ hcs]
  |succ i=>simp at hi)
 refine⟨_,_,_,_,.base this,?_⟩
 have e:effs (zan [id] H.length) 0 (some cs'::L)=(id,some cs')::effs (zan [id] H.length) 1 L:=by
  simp only[effs,zsu,renB];rw[zay _ _ hcs']
 rw[e];simpa using hk
theorem zcm{f:FuncId}{args args0:List AV}{id:Nat}{cs cs':List AV}{v:AV}{H:Heap}{K:AV->Eff->List Nat->Nat->Prop}(h:Rt f args0 [some cs] v [some cs'])(hid:getB H id=some cs)
  (hargs:args=args0.map (AV.ren (zan [id] H.length))) (hk:K v [(id,some cs')] [id] 0) (hu:AV.under.underL 1 args0=true:=by rfl) (hcs:qJ cs=true:=by rfl) (hcs':qJ cs'=true:=by rfl) (hv:v.closed=true:=by rfl):ziv Tryz.prog G f args H K:=by
 refine zed h hid hargs hu hcs hcs' ?_;rw[zes _ _ hv];exact hk
end Go.Proofs.YtgfbaioffpcelaaGreatDoor
namespace Go.Proofs.YtgfbaioffpcelaaGreatDoor
open Go Go.AL Go.Proofs
theorem zsv{i j k:Nat}:zan [i,j] k 0=i:=by simp[zan]
theorem zsw{i j k:Nat}:zan [i,j] k 1=j:=by simp[zan]
theorem zlv{f:FuncId}{args args0:List AV}{i j:Nat}{cs ds cs' ds':List AV}{v:AV}{H:Heap}{K:AV->Eff->List Nat->Nat->Prop}(h:Rt f args0 [some cs,some ds] v [some cs',some ds'])(hi:getB H i=some cs)(hj:getB H j=some ds)(hij:i≠j)
  (hargs:args=args0.map (AV.ren (zan [i,j] H.length))) (hk:K v [(i,some cs'),(j,some ds')] [i,j] 0) (hu:AV.under.underL 2 args0=true:=by rfl) (hcs:qJ cs=true:=by rfl) (hds:qJ ds=true:=by rfl) (hcs':qJ cs'=true:=by rfl) (hds':qJ ds'=true:=by rfl) (hv:v.closed=true:=by rfl):ziv Tryz.prog G f args H K:=by
 have li:=zam hi;have lj:=zam hj;have gi:=zcn hi;have gj:=zcn hj
 have:=CallR0.mk (P:= Tryz.prog) (Γ:=G) (f:=f) (args:=args) (k:=H.length) (H:=H++List.replicate 0 none) [i,j] args0 [some cs,some ds] v [some cs',some ds'] h rfl (by simpa using hij) (by
  intro x hx;rcases List.mem_cons.1 hx with e | e
  ·omega
  ·have:=List.mem_singleton.1 e;omega) hargs hu (by
  intro t c ht
  match t,ht with
  |0,ht=>
   simp at ht;subst ht;refine⟨cs,rfl,zbd _ _ hcs,?_⟩;rw[zsv,xE li,gi];simp only[renB];rw[zay _ _ hcs]
  |1,ht=>
   simp at ht;subst ht;refine⟨ds,rfl,zbd _ _ hds,?_⟩;rw[zsw,xE lj,gj];simp only[renB];rw[zay _ _ hds]
  |t+2,ht=>simp at ht)
 refine⟨_,_,_,_,.base this,?_⟩
 have e:effs (zan [i,j] H.length) 0 [some cs',some ds']=[(i,some cs'),(j,some ds')]:=by
  simp only[effs,zsv,xZ,zsw,renB];rw[zay _ _ hcs',zay _ _ hds']
 rw[e,zes _ _ hv];simpa using hk
open Go.Limb Go.Knuth
theorem qdp{l:List Nat}{x:Nat}(hc:zbn l)(h:val l=x):l=zav x:=zdk hc (zak x) (by rw[h,zaq])
theorem zvi{l:List Nat}{x:Nat}(hd:Dig l)(h:val l=x):zbi l=zav x:=zdk (zbc hd) (zak x) (by rw[zbp,h,zaq])
theorem qdq{u:Nat}(hu:u<18446744073709551616):∃c,Rt 149 [.int .u64 (u:Int)] [] (.vec (u32s (zav u)) (zav u).length c) []:=by
 obtain⟨l,c,hc,_,hv,t⟩:=zpw hu;rw[qdp hc hv]at t;exact⟨c,t⟩
def zql(m n:List Nat)(c d:Option Nat):Prop:= ∃c1 c2,Rt 204 [.vec (u32s m) m.length c,.vec (u32s n) n.length d] [] (.tup [.vec (u32s (zav (val m/val n))) (zav (val m/val n)).length c1,.vec (u32s (zav (val m%val n))) (zav (val m%val n)).length c2]) []
theorem jfu{m n:List Nat}(c d:Option Nat)(cm:zbn m)(cn:zbn n)(lm:m.length<=1100)(ln:n.length<=1100)(h:val m<val n):zql m n c d:=by
 have t0:=icmp m n c d (by omega) (by omega);rw[zdw cm cn]at t0;have hsg:decide (sgn (val m) (val n)<0)=true:=decide_eq_true (by unfold sgn;rw[if_pos h];omega);obtain⟨c2,t1⟩:=qle m c (by omega);unfold zql;rw[xS h,xX h,<-qdp cm rfl];refine⟨some 0,c2,?_⟩;refine oF o204 ?_;simp only[c204,r204_0,r204_1,SS,reduceCtorEq,reduceIte,qQ];refine zaa t0 ?_;simp only[SS,fC,reduceIte,qQ,hsg];simp only[r204_2,SS,reduceCtorEq,reduceIte,qQ];refine zaa t1 ?_ rfl (zbo _ _ _);simp only[SS,reduceIte,qQ];exact dR
theorem zhw{l r:List Nat}(hc:zbn l)(hr:zbn r)(h:val l<=val r):l.length<=r.length:=by
 rcases qT r.length l.length with h1 | h1
 ·exfalso;have h2:=zft hc.2 (by intro e;rw[e]at h1;simp at h1);have h3:=zfc hr.1;have:=qD (n:=4294967296) (by decide) (show r.length<=l.length-1 by omega);omega
 ·exact h1
theorem qtm{m n:List Nat}(c d:Option Nat)(cm:zbn m)(cn:zbn n)(lm:m.length<=2)(h:val n<=val m)(hn0:val n≠0):zql m n c d:=by
 have ln:=zhw cn cm h;have hm:val m<18446744073709551616:=qS (zfc cm.1) (qD (n:=4294967296) (by decide) lm);have t0:=icmp m n c d (by omega) (by omega);rw[zdw cm cn]at t0;have hsg:decide (sgn (val m) (val n)<0)=false:=decide_eq_false (by unfold sgn;rw[if_neg (by omega)];split<;>omega);have d1:decide ((m.length:Int)<=2)=true:=dT;have t1:=qao c cm.1 lm;have t2:=qao d cn.1 (by omega);obtain⟨c1,t3⟩:=qdq (u:=val m/val n) (xC (xO _ _) hm);obtain⟨c2,t4⟩:=qdq (u:=val m%val n) (xC (jS _ _) hm)
 have w1:IntKind.u64.wrap (Int.tdiv (val m:Nat) (val n:Nat))=((val m/val n:Nat):Int):=by
  show IntKind.u64.wrap ((val m/val n:Nat):Int)=_
  exact zbg (xC (xO _ _) hm)
 have w2:Int.tmod (val m:Nat) (val n:Nat)=((val m%val n:Nat):Int):=rfl;refine⟨c1,c2,?_⟩;refine oF o204 ?_;simp only[c204,r204_0,r204_1,SS,reduceCtorEq,reduceIte,qQ];refine zaa t0 ?_;simp only[SS,fC,reduceIte,qQ,hsg];simp only[r204_3,SS,fC,reduceCtorEq,reduceIte,qQ,d1];simp only[r204_4,SS,reduceCtorEq,reduceIte,qQ];refine zaa t1 ?_;simp only[SS,reduceIte,qQ];refine zaa t2 ?_;simp only[SS,reduceIte,qQ];simp only[r204_5,SS,reduceIte,qQ,w1];refine⟨by omega,?_⟩;refine zaa t3 ?_ rfl (zbo _ _ _);simp only[SS,reduceIte,qQ];refine⟨by omega,?_⟩;refine zaa t4 ?_ rfl (zbo _ _ _);simp only[SS,reduceIte,qQ];refine⟨rfl,?_⟩;exact dR
theorem jbe{m n:List Nat}(c d:Option Nat)(cm:zbn m)(cn:zbn n)(lm:m.length<=1100)(lm2:2<m.length)(ln:n.length=1)(h:val n<=val m)(hn0:val n≠0):zql m n c d:=by
 have t0:=icmp m n c d (by omega) (by omega);rw[zdw cm cn]at t0;have hsg:decide (sgn (val m) (val n)<0)=false:=decide_eq_false (by unfold sgn;rw[if_neg (by omega)];split<;>omega);have d1:decide ((m.length:Int)<=2)=false:=dF;have hu:=zae m;have t1:=qwx (u32s m) m.length c (by omega) (by omega) (by omega);rw[qC (by omega)]at t1
 obtain⟨b,rfl⟩:∃b,n=[b]:=by
  match n,ln with
  | [b],_=>exact⟨b,rfl⟩
 have vb:val [b]=b:=by simp[Limb.val]
 rw[vb]at h hn0 t0 hsg;have hb2:b<4294967296:=cn.1 b (List.mem_singleton.2 rfl);have hb0:0<b:=by omega
 have t2:=qta none lm cm.1 hb0 hb2;have e1:=qlq (b:=b) m;have e2:=qdk hb0 m;have e3:=qlr hb0 m cm.1;have e4:=qau b m;generalize (dlR b m).1=q at*;generalize (dlR b m).2=r at*
 have hq:val q=val m/b:=by
  rw[<-e1,qM,jN hb0,xS e2,qG]
 have hr:r=val m%b:=by
  rw[<-e1,qM,jO,xX e2]
 have t3:=zpv q none (by omega);rw[zvi e3 hq]at t3;obtain⟨c2,t4⟩:=qdq (u:=r) (by omega);unfold zql;rw[vb,<-hr];refine⟨none,c2,?_⟩;refine oF o204 ?_;simp only[c204,r204_0,r204_1,SS,reduceCtorEq,reduceIte,qQ];refine zaa t0 ?_;simp only[SS,fC,reduceIte,qQ,hsg];simp only[r204_3,SS,fC,reduceCtorEq,reduceIte,qQ,d1];have d2:decide (((1:Nat):Int)=1)=true:=rfl;simp only[r204_6,SS,fC,reduceIte,qQ,d2];simp only[r204_7,SS,reduceCtorEq,reduceIte,qQ];refine zdx t1 rfl ?_;have z0:(if h:1<0 then([]:List Nat)[1]else 1-0)=1:=rfl
 have z1:((List.replicate 2 none).set (if h:0<0 then([]:List Nat)[0]else 0-0) (renB (zan [] 0) (some []))).set 1 (renB (zan [] 0) (some (u32s m)))=[some [],some (u32s m)]:=by
  show[some [],some ((u32s m).map (AV.ren (zan [] 0)))]=_
  rw[zay _ _ (zao m)]
 have gb:(u32s [b]).getD 0 AV.junk= .int .u32 (b:Int):=rfl;simp only[zaf,zac,SS,reduceIte,qV,qQ,effs,zan,AV.ren,z0,z1];simp only[r204_8,SS,fC,reduceIte,qQ,jX,gb];refine⟨⟨by omega,by omega⟩,by simp[u32s],?_⟩;refine zcm t2 (id:=1) rfl (by simp[AV.ren,zan]) ?_ rfl (zao _) (zao _) rfl;simp only[zaf,zac,qB,qI,SS,reduceIte,qQ];rw[<-e4];simp only[r204_9,SS,reduceIte,qQ];refine zhd t3 rfl rfl (zbo _ _ _) ?_;simp only[zaf,zac,qB,qI,SS,reduceIte,qQ,zbg (show r<18446744073709551616 by omega)];refine zaa t4 ?_ rfl (zbo _ _ _);simp only[SS,reduceIte,qQ];exact dR
theorem znf{f:FuncId}{args:List AV}{off n sz:Nat}{k:Option Nat}{cs:List AV}{H:Heap}{K:AV->Eff->List Nat->Nat->Prop}(h:Rt f args [] (.sl 0 off n sz k) [some cs])(ha:qJ args=true)(hcs:qJ cs=true)
  (hk:K (.sl H.length off n sz k) [(H.length,some cs)] [] 1):ziv Tryz.prog G f args H K:=by
 refine zdx h ha ?_;have e:zan [] H.length 0=H.length:=by simp[zan]
 simp only[AV.ren,effs,e,renB,zay _ _ hcs];exact hk
theorem qtn{m n:List Nat}(c d:Option Nat)(cm:zbn m)(cn:zbn n)(lm:m.length<=1100)(lm2:2<m.length)(ln:2<=n.length)(h:val n<=val m):zql m n c d:=by
 have lmn:=zhw cn cm h;have t0:=icmp m n c d (by omega) (by omega);rw[zdw cm cn]at t0;have hsg:decide (sgn (val m) (val n)<0)=false:=decide_eq_false (by unfold sgn;rw[if_neg (by omega)];split<;>omega);have d1:decide ((m.length:Int)<=2)=false:=dF;have d2:decide ((n.length:Int)=1)=false:=dF;have n0:n≠[]:=by intro e;rw[e]at ln;simp at ln
 have btop:=qlu cn n0;obtain⟨s,hs,s1,s2,t1⟩:=jfk btop (cn.1.getD _);have t2:=zsp d (by omega) cn.1 hs;have t3:=zsp c lm cm.1 hs;have hT0:0<2^s:=xN (by decide);have hT:2^s<=2147483648:=qD (n:=2) (by decide) (show s<=31 by omega);have hTd:2^s∣4294967296:=by rw[show(4294967296:Nat)=2^32 from rfl];exact jL 2 (by omega)
 have vl:=zog (2^s) n 0;have vd:=zva hT n 0 cn.1 hT0;have vv:=zuz (2^s) n 0;have rl:=zog (2^s) m 0;have rd:=zva hT m 0 cm.1 hT0;have rv:=zuz (2^s) m 0;rw[xZ]at vv rv;generalize shlR (2^s) n 0=V at*;generalize shlR (2^s) m 0=R0 at*;obtain⟨v1,v2,v3⟩:=qte cn n0 hTd hT0 s1 s2 vl vd vv;obtain⟨w,hw⟩:∃w,m.length=w+n.length:=⟨m.length-n.length,by omega⟩
 have L0:=LD.init cm.1 (b:=val n) (n:=n.length) (m:=w) (by omega) hw hT0 rl rd rv v3;have hVlt:2^s*val n<4294967296^n.length:=by rw[<-v1];exact zqg λi _=>vd.getD i
 have hn0:0<val n:=by
  have:=zft cn.2 n0;have:=xN (n:=n.length-1) (show 0<4294967296 by decide);omega
 have hV0:0<2^s*val n:=Nat.mul_pos hT0 hn0;have w1:IntKind.i64.wrap ((n.length:Int)-1)=((n.length-1:Nat):Int):=wQ (by omega);have w2:IntKind.i64.wrap ((m.length:Int)-(n.length:Nat))=((w:Nat):Int):=wQ (by omega);have w3:=wS1 w (by omega);have gb:=zal n (n.length-1) (by omega) AV.junk;have hun:=zae n;refine⟨some (w+1),some (m.length+1),?_⟩;refine oF o204 ?_;simp only[c204,r204_0,r204_1,SS,reduceCtorEq,reduceIte,qQ];refine zaa t0 ?_;simp only[SS,fC,reduceIte,qQ,hsg];simp only[r204_3,SS,fC,reduceCtorEq,reduceIte,qQ,d1];simp only[r204_6,SS,fC,reduceIte,qQ,d2];simp only[r204_10,SS,fC,reduceIte,qQ,w1,qZ,gb];refine⟨⟨by omega,by omega⟩,by omega,?_⟩;refine zaa t1 ?_;simp only[SS,reduceIte,qQ];simp only[r204_11,SS,reduceIte,qQ];have aV:qJ [AV.vec (u32s n) n.length d,AV.int IntKind.i64 (s:Int)]=true:=by simp only[AV.closed,qJ,qP]
 have aR:qJ [AV.vec (u32s m) m.length c,AV.int IntKind.i64 (s:Int)]=true:=by simp only[AV.closed,qJ,qP]
 refine znf t2 aV (zao V) ?_;have nz:(if 0=n.length then AV.vec [] 0 (some (n.length+1))else AV.sl 0 0 n.length 1 (some (n.length+1)))= .sl 0 0 n.length 1 (some (n.length+1)):=if_neg (by omega);simp only[zaf,zac,SS,reduceIte,qQ,zK,qZ,Nat.sub_zero,nz];refine⟨by omega,⟨by omega,by omega⟩,?_⟩;simp only[r204_12,SS,reduceCtorEq,reduceIte,qQ];refine znf t3 aR (zao R0) ?_;simp only[zaf,zac,SS,reduceIte,qQ,zK];simp only[r204_13,SS,reduceCtorEq,reduceIte,qV,qQ,w2,w3,qZ,znb];refine⟨by omega,⟨by omega,by omega,by omega,by omega⟩,?_⟩;simp only[r204_14,SS,reduceCtorEq,reduceIte,qQ,w2]
 refine zaj (λk E H=>∃R Q,k<=w+1/\LD (2^s*val m) (2^s*val n) n.length w k R Q/\E 1= .vec (u32s n) n.length d/\E 4= .sl 2 0 (w+1) 1 (some (w+1))/\E 9= .int .i64 (s:Int)/\E 10= .sl 0 0 n.length 1 (some (n.length+1))/\E 11= .sl 1 0 (m.length+1) 1 (some (m.length+1))/\E 12= .int .i64 ((k:Int)-1)/\
   H=[some (u32s V),some (u32s R),some (u32s Q)]) (n:=w+1) ⟨R0,_,qU _,L0,?_,?_,?_,?_,?_,?_,rfl⟩ ?_
 ·rfl
 ·rfl
 ·rfl
 ·rfl
 ·rfl
 ·simp only[UU,qQ,reduceIte];rw[show((w+1:Nat):Int)-1=(w:Int) by omega]
 clear L0 t0 t1 t2 t3;rintro k E H ⟨R,Q,hkw,hL,e1,e4,e9,e10,e11,e12,rfl⟩;refine wM ?_;have hR:=hL.rl;have hQ:=hL.ql;cases k with
 |zero=>
  have dk:decide ((0:Int)<=((0:Nat):Int)-1)=false:=by decide
  simp only[l204_0,r204_15,SS,fC,reduceCtorEq,reduceIte,qQ,e12,dk];obtain⟨q1,q2⟩:=hL.done hT0 hn0;have t5:=qav (m:=R) (some (m.length+1)) (by omega) hL.rd hs;have f1:=zoh (2^s) R;have f2:=qtb (2^s) R;have f3:=qtc hs hL.rd;rw[q2]at f3;generalize shrL (2^s) R=X at*;have t6:=zpv Q (some (w+1)) (by omega);rw[zvi hL.qd q1,hQ]at t6;have t7:=zpv X (some (m.length+1)) (by omega);rw[zvi f2 f3,f1,show R.length=m.length+1 by omega]at t7;rw[show m.length+1=R.length by omega]at e11;simp only[r204_18,SS,reduceIte,qQ,e9,e11];refine zcm t5 (id:=1) rfl (by simp[AV.ren,zan];omega) ?_ rfl (zao _) (zao _) rfl;simp only[zaf,zac,qB,qI,SS];simp only[r204_19,SS,reduceIte,qQ,e4];refine zhd t6 rfl hQ.symm (zbo _ _ _) ?_;simp only[zaf,zac,qB,qI,SS,reduceIte,qQ,e11];rw[show R.length=m.length+1 by omega];refine zhd t7 rfl (by omega) (zbo _ _ _) ?_;simp only[zaf,zac,qB,qI,SS,reduceIte,qQ];exact dR
 |succ k=>
  have hk:k<=w:=by omega
  have ek:((k+1:Nat):Int)-1=(k:Int):=by omega
  have dk:decide ((0:Int)<=((k+1:Nat):Int)-1)=true:=dT;have w5:IntKind.i64.wrap ((k:Int)+(n.length:Nat))=((k+n.length:Nat):Int):=wQ (by omega);have w6:=wS1 (k+n.length) (by omega);simp only[l204_0,r204_15,SS,fC,reduceCtorEq,reduceIte,qQ,e12,dk];simp only[r204_16,SS,reduceIte,qQ,qK,e1,e4,e10,e11,e12,ek,w5,w6,qZ]
  have ns:(if k=k+n.length+1 then AV.vec [] 0 (zdn k (some (m.length+1)))else AV.sl 1 k (k+n.length+1-k) 1 (zdn k (some (m.length+1))))= .sl 1 k (n.length+1) 1 (zdn k (some (m.length+1))):=by
   rw[if_neg (by omega),show k+n.length+1-k=n.length+1 by omega]
  have hu:=hL.head;have hst:=hL.step hVlt hV0 hk;have t8:=qtf (R:=R) (V:=V) (j:=k) (n:=n.length) (zdn k (some (m.length+1))) (some (n.length+1)) ln (by omega) (by omega) (by omega) (by omega) hL.rd vd v2 (by rw[v1];exact hu);rw[v1]at t8;have hq1:sv (λi=>R.getD (k+i) 0) (n.length+1)/(2^s*val n)<4294967296:=by rw[xU hV0,qM];exact hu
  simp only[ns];refine⟨by omega,by omega,⟨by omega,by omega⟩,?_⟩;refine zlv t8 (i:=1) (j:=0) rfl rfl (by decide) (by simp[AV.ren,zan]) ?_ rfl (zao _) (zao _) (zao _) (zao _) rfl;have hdig:=hst.rl;have w7:IntKind.i64.wrap ((k:Int)-1)=(k:Int)-1:=w64 (by omega) (by omega);simp only[zaf,zac,qB,qI,SS,reduceIte,qQ,qZ];simp only[r204_17,SS,reduceIte,qQ,e12,ek,w7,zbq,zae];refine⟨⟨by omega,by omega⟩,by omega,k,_,_,by omega,⟨_,_,by omega,hst,?_,?_,?_,?_,?_,?_,rfl⟩,.refl⟩<;>simp only[UU,qQ,reduceIte, *]
theorem qay{m n:List Nat}(c d:Option Nat)(cm:zbn m)(cn:zbn n)(lm:m.length<=1100)(ln:n.length<=1100)(hn0:val n≠0):zql m n c d:=by
 by_cases h:val m<val n
 ·exact jfu c d cm cn lm ln h
 ·by_cases h2:m.length<=2
  ·exact qtm c d cm cn h2 (by omega) hn0
  ·by_cases h1:n.length=1
   ·exact jbe c d cm cn lm (by omega) h1 (by omega) hn0
   ·have:n.length≠0:=λe=>hn0 ((zgl cn).2 (List.length_eq_zero_iff.1 e))
    exact qtn c d cm cn lm (by omega) (by omega) (by omega)
end Go.Proofs.YtgfbaioffpcelaaGreatDoor
namespace Go.Proofs.YtgfbaioffpcelaaGreatDoor
open Go Go.AL Go.Proofs Go.Limb
theorem zvj{x y:Int}{a b:AV}(ha:zap x a)(hb:zap y b)(h0:y≠0)(hd:0<=x\/y∣x):
  ∃v w,zap (x/y) v/\zap (x%y) w/\Rt 147 [a,b] [] (.tup [v,w,.bool true]) []:=by
 obtain⟨l,c,hc,hl,hv,rfl⟩:=ha;obtain⟨r,d,hd',hlr,hw,rfl⟩:=hb;have t1:=zfu c hc (by omega);have t2:=zfu d hd' (by omega);obtain⟨c1,c2,t3⟩:=qay c d hc hd' hl hlr (by omega);have sQ:(zav (x.natAbs/y.natAbs)).length<=1100:=yN (zhw (zak _) hc (by rw[zaq,hv];exact xO _ _)) hl;have sR:(zav (x.natAbs%y.natAbs)).length<=1100:=yN (zhw (zak _) hc (by rw[zaq,hv];exact jS _ _)) hl;rw[hv,hw]at t3;have hz:=zgl hd'
 have dr:decide ((r.length:Int)=0)=false:=decide_eq_false λe=>h0 (by
  have:=hz.2 (List.length_eq_zero_iff.1 (by omega));omega)
 have hm:=qE x.natAbs (show 0<y.natAbs by omega);obtain⟨hQ,hR⟩:=zsl (x:=x) h0
 have hcase:¬(x.natAbs%y.natAbs≠0/\x<0):=λ⟨h1,h2⟩=>by
  rcases hd with h | h
  ·omega
  ·exact h1 (Nat.mod_eq_zero_of_dvd (Int.natAbs_dvd_natAbs.2 h))
 rw[if_neg hcase]at hQ hR;obtain⟨v,iv,t4⟩:=zih (decide (x<0) != decide (y<0)) c1 (zak (x.natAbs/y.natAbs)) sQ;obtain⟨w,iw,t5⟩:=zih false c2 (zak (x.natAbs%y.natAbs)) sR;rw[zaq,<-hQ]at iv
 rw[zaq,show sgnZ false (x.natAbs%y.natAbs)=x%y by
  rw[hR];unfold sgnZ;simp only[Bool.false_eq_true,if_false,decide_eq_true_eq];split<;>omega]at iw
 obtain⟨l1,k1,_,_,_,rfl⟩:=id iv;obtain⟨l2,k2,_,_,_,rfl⟩:=id iw;refine⟨_,_,iv,iw,?_⟩
 have dlen:x<0->decide ((0:Int)<((zav (x.natAbs%y.natAbs)).length:Nat))=false:=λh=>by
  have e:x.natAbs%y.natAbs=0:=by omega
  rw[e];rfl
 refine oF o147 ?_;simp only[c147,r147_0,r147_1,SS,fC,reduceCtorEq,reduceIte,qV,qQ,qK];refine zaa t2 ?_;simp only[SS,reduceIte,qQ];simp only[r147_2,SS,fC,reduceIte,qQ,dr];simp only[r147_4,SS,fC,reduceIte,qV,qQ,qK];refine zaa t1 ?_;simp only[SS,reduceIte,qQ];refine zaa t3 ?_ rfl (by simp only[AV.closed,qJ,qP]);simp only[SS,reduceIte,qQ,qN,qO];simp only[r147_5,SS,fC,reduceIte,qV,qQ,qK];by_cases hneg:x<0
 ·have d1:decide (x<0)=true:=decide_eq_true hneg;have d2:=dlen hneg;rw[d1]at t4;have e:(true != decide (y<0))=!decide (y<0):=by cases decide (y<0)<;>rfl
  rw[e]at t4;simp only[r147_6,↓zcq,↓zkk,SS,fC,reduceIte,qV,qQ,qK,d1,d2];simp only[r147_7,SS,fC,reduceIte,qV,qQ,qK];simp only[r147_10,SS,reduceIte,qQ];simp only[r147_11,SS,reduceIte,qQ];refine zaa t4 ?_;simp only[SS,reduceIte,qQ];refine zaa t5 ?_;simp only[SS,reduceIte,qV,qQ,qK];exact dR
 ·have d1:decide (x<0)=false:=decide_eq_false hneg;rw[d1]at t4;have e:(false != decide (y<0))=decide (y<0):=by cases decide (y<0)<;>rfl
  rw[e]at t4;simp only[r147_6,↓zcq,↓zkk,SS,fC,reduceIte,qV,qQ,qK,d1];simp only[r147_7,SS,fC,reduceIte,qV,qQ,qK];simp only[r147_11,SS,reduceIte,qQ];refine zaa t4 ?_;simp only[SS,reduceIte,qQ];refine zaa t5 ?_;simp only[SS,reduceIte,qV,qQ,qK];exact dR
theorem jbf(l:List Nat)(c:Option Nat)(hl:l.length<=1100)(hn:l.length≠0):Rt 203 [.vec (u32s l) l.length c] [] (.vec (u32s l) l.length none) []:=by
 have hu:=zae l;refine oF o203 ?_;simp only[c203,r203_0,r203_1,r203_2,r203_3,SS,fC,reduceCtorEq,reduceIte,qQ,hn,if_false];have e1:l.length*1<=(u32s l).length:=by omega
 have e2:l.length<=(u32s l).length:=by omega
 simp only[zby,lenA,zea,need,zQ,e2,qU,and_self,if_true,hn,if_false,getB,qN,yB,xZ,true_and,show 4*l.length*4<=2^48 by omega,show l.length<2^62 by omega,zar,zac,xM,List.set_cons_succ,List.set_cons_zero,yM,qL];refine⟨.inl trivial,_,rfl,?_⟩;rw[qC (by omega)];exact zmy rfl rfl
theorem jbg(m n:List Nat)(c d:Option Nat)(cm:zbn m)(cn:zbn n)(lm:m.length<=1100)(ln:n.length<=1100):
  ∃c',Rt 226 [.vec (u32s m) m.length c,.vec (u32s n) n.length d] [] (.vec (u32s (zav (Nat.gcd (val m) (val n)))) (zav (Nat.gcd (val m) (val n))).length c') []:=by
 generalize hG:Nat.gcd (val m) (val n)=G0
 obtain⟨c',tw,tc⟩:∃c',(G0<18446744073709551616->Rt 149 [.int .u64 (G0:Int)] [] (.vec (u32s (zav G0)) (zav G0).length c') [])/\(18446744073709551616<=G0->c'=none):=by
  rcases qT G0 18446744073709551616 with h | h
  ·obtain⟨c',t⟩:=qdq h;exact⟨c',λ_=>t,λh2=>absurd h2 (by omega)⟩
  ·exact⟨none,λh2=>absurd h2 (by omega),λ_=>rfl⟩
 refine⟨c',?_⟩;refine oF o226 ?_;simp only[c226,r226_0,SS,reduceCtorEq]
 refine zaj (λq E H=>∃(a b:List Nat) (ca cb:Option Nat),Limb.val b=q/\zbn a/\zbn b/\a.length<=1100/\b.length<=1100/\Nat.gcd (val a) (val b)=G0/\E 0= .vec (u32s a) a.length ca/\E 1= .vec (u32s b) b.length cb/\H=[]) (n:=val n)
  ⟨m,n,c,d,rfl,cm,cn,lm,ln,hG,by rfl,by rfl,rfl⟩ ?_
 clear cm cn lm ln hG;rintro q E H ⟨a,b,ca,cb,rfl,cA,cB,la,lb,hg,e0,e1,rfl⟩;refine wM ?_;by_cases hex:a.length<=2/\b.length<=2
 ·have d1:decide (2<(a.length:Int))=false:=dF;have d2:decide (2<(b.length:Int))=false:=dF;have sa:val a<18446744073709551616:=qS (zfc cA.1) (qD (n:=4294967296) (by decide) hex.1);have sb:val b<18446744073709551616:=qS (zfc cB.1) (qD (n:=4294967296) (by decide) hex.2)
  have hlt:G0<18446744073709551616:=by
   rcases xY (val a)with h | h
   ·rw[h,jB]at hg;omega
   ·have:=jP (val b) h;omega
  have t3:=tw hlt;have t1:=qao ca cA.1 hex.1;have t2:=qao cb cB.1 hex.2;simp only[l226_0,r226_1,↓zcq,SS,fC,reduceCtorEq,reduceIte,qQ,e0,e1,d1,d2];simp only[r226_6,SS,reduceCtorEq,reduceIte,qQ,e0];refine zaa t1 ?_;simp only[SS,reduceIte,qQ,e1];refine zaa t2 ?_;simp only[SS,reduceIte,qQ]
  refine zaj (λq E H=>∃a b:Nat,b=q/\H=[]/\Nat.gcd a b=G0/\E 7= .int .u64 (a:Int)/\E 8= .int .u64 (b:Int)) (n:=val b)
   ⟨val a,val b,rfl,rfl,hg,by rfl,by rfl⟩ ?_
  rintro q E H ⟨x,y,rfl,rfl,hgab,e7,e8⟩;refine wM ?_;rcases xY y with rfl | hb
  ·have d1:decide (((0:Nat):Int)≠0)=false:=by simp
   rw[zW]at hgab;subst hgab;simp only[l226_1,r226_7,SS,fC,reduceCtorEq,reduceIte,qQ,e8,d1];simp only[r226_9,SS,reduceIte,qQ,e7];refine zaa t3 ?_ rfl (zbo _ _ _);simp only[SS,reduceIte,qQ];exact dR
  ·have d1:decide ((y:Int)≠0)=true:=by simp;omega
   have et:Int.tmod (x:Int) (y:Int)=((x%y:Nat):Int):=rfl;simp only[l226_1,r226_7,r226_8,SS,fC,reduceCtorEq,reduceIte,qQ,e7,e8,d1,et];refine⟨by omega,rfl,x%y,_,_,qE x hb,⟨y,x%y,rfl,rfl,?_,?_,?_⟩,.refl⟩
   ·rw[<-hgab,yS x y];exact(jH y x).symm ▸ (yS _ _)
   all_goals simp only[UU,qQ,reduceIte, *]
 ·have hb0:b.length≠0->val b≠0:=λh e=>h (List.length_eq_zero_iff.2 ((zgl cB).1 e))
  have goC:b.length=0->Rt 203 [.vec (u32s a) a.length ca] [] (.vec (u32s (zav G0)) (zav G0).length c') []:=λh=>by
   have e:val b=0:=(zgl cB).2 (List.length_eq_zero_iff.1 h);rw[e,zW]at hg;have h1:=zft cA.2 (by intro e;rw[e]at hex;exact hex ⟨by simp,by omega⟩);have h2:=qD (n:=4294967296) (by decide) (show 2<=a.length-1 by omega);rw[tc (by omega),<-qdp cA hg];exact jbf a ca la (by omega)
  have goD:b.length≠0->∃c1 c2,Rt 204 [.vec (u32s a) a.length ca,.vec (u32s b) b.length cb] [] (.tup [.vec (u32s (zav (val a/val b))) (zav (val a/val b)).length c1,.vec (u32s (zav (val a%val b))) (zav (val a%val b)).length c2]) []:=λh=>qay ca cb cA cB la lb (hb0 h)
  have alt:decide (2<(a.length:Int))=true\/decide (2<(a.length:Int))=false/\decide (2<(b.length:Int))=true:=by
   by_cases h:2<a.length
   ·exact .inl (dT)
   ·exact .inr ⟨dF,dT⟩
  rcases alt with d1 | ⟨d1,d2⟩
  all_goals
   simp only[l226_0,r226_1,↓zcq,↓zkk,SS,fC,reduceCtorEq,reduceIte,qQ, *];by_cases hz:b.length=0
   ·have d3:decide ((b.length:Int)=0)=true:=dT;simp only[r226_2,SS,fC,reduceIte,qQ,e1,d3];simp only[r226_3,SS,reduceCtorEq,reduceIte,qQ,e0];refine zaa (goC hz) ?_ rfl (zbo _ _ _);simp only[SS,reduceIte,qQ];exact dR
   ·have d3:decide ((b.length:Int)=0)=false:=dF;obtain⟨c1,c2,t⟩:=goD hz;simp only[r226_2,SS,fC,reduceIte,qQ,e1,d3];simp only[r226_4,SS,reduceCtorEq,reduceIte,qQ,e0,e1];refine zaa t ?_ rfl (by simp only[AV.closed,qJ,qP]);simp only[SS,reduceIte,qQ,qN,qO];simp only[r226_5,SS,reduceIte,qQ,e1];have hm:=qE (val a) (show 0<val b from Nat.pos_of_ne_zero (hb0 hz));refine⟨val a%val b,_,_,hm,⟨b,zav (val a%val b),cb,c2,zaq _,cB,zak _,lb,yN (zhw (zak _) cB (by rw[zaq];omega)) lb,?_,?_,?_,rfl⟩,.refl⟩
    ·rw[zaq,<-hg,yS (val a)];exact(jH (val b) (val a)).symm ▸ (yS _ _)
    all_goals simp only[UU,qQ,reduceIte, *]
theorem iGcd{x y:Int}{a b:AV}(ha:zap x a)(hb:zap y b):∃v,zap (Int.gcd x y:Nat) v/\Rt 208 [a,b] [] v []:=by
 obtain⟨l,c,hc,hl,hv,rfl⟩:=ha;obtain⟨r,d,hd,hlr,hw,rfl⟩:=hb;have t1:=zfu c hc (by omega);have t2:=zfu d hd (by omega);obtain⟨c3,t3⟩:=jbg l r c d hc hd hl hlr;rw[hv,hw]at t3
 have hg:(zav (Nat.gcd x.natAbs y.natAbs)).length<=1100:=by
  rcases xY x.natAbs with h | h
  ·rw[h,jB];exact yN (zhw (zak _) hd (by rw[zaq,hw];exact qU _)) hlr
  ·exact yN (zhw (zak _) hc (by rw[zaq,hv];exact jP _ h)) hl
 obtain⟨v,iv,t4⟩:=zih false c3 (zak _) hg;rw[zaq]at iv;obtain⟨l1,k1,_,_,_,rfl⟩:=id iv;refine⟨_,iv,?_⟩;refine oF o208 ?_;simp only[c208,r208_0,r208_1,SS,fC,reduceCtorEq,reduceIte,qV,qQ,qK];refine zaa t1 ?_;simp only[SS,fC,reduceIte,qV,qQ,qK];refine zaa t2 ?_;simp only[SS,reduceIte,qQ];refine zaa t3 ?_ rfl (zbo _ _ _);simp only[SS,reduceIte,qQ];refine zaa t4 ?_;simp only[SS,reduceIte,qV,qQ,qK];refine⟨rfl,?_⟩;exact dR
theorem qmh{l:List Nat}:∀{k},zdg l k≠0->0<k
 |0,h=>absurd rfl h
 |k+1,_=>Nat.succ_pos k
theorem qmi(l:List Nat)(n q:Nat)(hn:n<=l.length)(hl:l.length<16777216)(hne:zdg l n≠0):Rt 156 [.sl 0 0 n 1 (some q)] [some (u32s l)] (.sl 0 0 (zdg l n) 1 (some q)) [some (u32s l)]:=by
 refine oF o156 ?_;simp only[c156,r156_0,SS,reduceCtorEq];refine zaj (λk E H=>k<=l.length/\zdg l k=zdg l n/\E 0= .sl 0 0 k 1 (some q)/\H=[some (u32s l)]) (n:=n) ⟨hn,rfl,by rfl,rfl⟩ ?_;rintro k E H ⟨hk,ht,h0,rfl⟩;refine wM ?_;cases k with
 |zero=>exact absurd (ht.symm.trans rfl) hne
 |succ k=>
  have g:=zal l k (by omega) AV.junk;have w1:IntKind.i64.wrap (((k+1:Nat):Int)-1)=(k:Nat):=wQ (by omega);have d1:decide ((0:Int)<((k+1:Nat):Int))=true:=dT;simp only[l156_0,r156_1,↓zcq,SS,fC,reduceCtorEq,reduceIte,qQ,h0,d1,w1,g,qZ,zae];refine⟨⟨by omega,by omega⟩,by omega,λhz=>?_,λhz=>?_⟩
  ·have hz:l.getD k 0=0:=by omega
   have ht2:zdg l k=zdg l n:=by rw[<-ht,zdg,if_pos hz]
   have hk0:0<k:=qmh (by rw[ht2];exact hne);have nz:(if 0=k then zio 0 0 1 0 (some q)else AV.sl 0 (0+0*1) (k-0) 1 (zdn 0 (some q)))= .sl 0 0 k 1 (some q):=by rw[if_neg (by omega)];rfl
   simp only[r156_2,SS,reduceCtorEq,reduceIte,qQ,h0,w1,qZ];refine⟨by omega,⟨by omega,by omega⟩,k,_,_,by omega,⟨by omega,ht2,?_,rfl⟩,.refl⟩;simp only[UU,qQ,reduceIte]
   first | exact nz | (rw[if_neg (by omega)];rfl)
  ·have hz:l.getD k 0≠0:=by omega
   simp only[r156_3,SS,reduceCtorEq,reduceIte,qQ,h0];have e:k+1=zdg l n:=by rw[<-ht,zdg,if_neg hz]
   rw[e];exact⟨.inl trivial,_,rfl,.keep _ _⟩
theorem jfv(l:List Nat)(q:Nat)(hl:l.length<16777216)(hne:zdg l l.length≠0):Rt 156 [.sl 0 0 l.length 1 (some q)] [some (u32s l)] (.sl 0 0 (zdg l l.length) 1 (some q)) [some (u32s l)]:=qmi l l.length q (qU _) hl hne
open Go.Knuth
theorem jbh(m n:List Nat)(c d:Option Nat)(hn:n.length<=m.length)(hm:m.length<=1100)(dm:Dig m)(dn:Dig n){E:Env}{Q:Post}(e0:E 0= .vec (u32s m) m.length c)(e1:E 1= .vec (u32s n) n.length d)
  (hne:val m+val n≠0) (hQ:∀E' H' out,out.length=m.length+1->Dig out->val out=val m+val n->E' 4= .sl 0 0 (zdg out out.length) 1 (some (m.length+1))->H'=[some (u32s out)]->Q .ret E' H'):
  Wg 0 83 (.seq (rN r205_3) (.seq (rN r205_4) (.seq (.seq (rN r205_5) (.block 0 (.loop l205_0))) (.seq (.seq (rN r205_12) (.block 2 (.loop l205_1))) (.seq (rN r205_19) (.seq (rN r205_20) .ret)))))) E [] Q:=by
 refine wM ?_;have w1:=wS1 m.length (by omega);simp only[r205_3,r205_4,r205_5,SS,reduceIte,qQ,e0,e1,w1,znb,qZ];refine⟨by omega,⟨by omega,by omega,by omega,by omega⟩,?_⟩
 refine zaj (λk E H=>∃i cy out,i+k=n.length/\out.length=m.length+1/\Dig out/\(∀t,i<=t->out.getD t 0=0)/\cy<=1/\val out+4294967296^i*cy=val (m.take i)+val (n.take i)/\
   E 0= .vec (u32s m) m.length c/\E 1= .vec (u32s n) n.length d/\E 5= .sl 0 0 (m.length+1) 1 (some (m.length+1))/\E 6= .int .u64 (cy:Nat)/\E 21= .int .i64 (n.length:Nat)/\E 22= .int .i64 (i:Nat)/\H=[some (u32s out)]) (n:=n.length)
  ⟨0,0,List.replicate (m.length+1) 0,by omega,by simp,zux _,λt _=>rep0 _ t,by omega,by rw[zuw];rfl,?_,?_,?_,?_,?_,?_,rfl⟩ ?_
 ·simp only[UU,qQ,e0]
 ·simp only[UU,qQ,e1]
 ·simp only[UU,qQ,reduceIte]
 ·simp only[UU,qQ,reduceIte];rfl
 ·simp only[UU,qQ,reduceIte]
 ·simp only[UU,qQ,reduceIte];rfl
 clear e0 e1 E;rintro k E H ⟨i,cy,out,hik,hol,hd,hz,hcy,hv,h0,h1,h5,h6,h21,h22,rfl⟩;refine wM ?_;have bm:=dm.getD i;have bn:=dn.getD i;cases k with
 |succ k=>
  have g1:=zal m i (by omega) AV.junk;have g2:=zal n i (by omega) AV.junk;have d1:decide ((i:Int)<(n.length:Nat))=true:=dT;have w2:IntKind.u64.wrap (((m.getD i 0:Nat):Int)+((n.getD i 0:Nat):Int))=((m.getD i 0+n.getD i 0:Nat):Int):=by rw[<-xB];exact zbg (by omega)
  have w3:IntKind.u64.wrap ((cy:Int)+((m.getD i 0+n.getD i 0:Nat):Int))=((cy+(m.getD i 0+n.getD i 0):Nat):Int):=by rw[<-xB];exact zbg (by omega)
  have w5:=wS1 i (by omega);simp only[l205_0,r205_6,r205_7,r205_8,SS,fC,reduceCtorEq,reduceIte,qQ,h0,h1,h6,h21,h22,d1,qZ,g1,g2,zae,zbg (show m.getD i 0<18446744073709551616 by omega),zbg (show n.getD i 0<18446744073709551616 by omega),w2,w3];refine⟨⟨by omega,by omega⟩,by omega,⟨by omega,by omega⟩,by omega,rfl,?_⟩;simp only[r205_9,r205_10,r205_11,SS,reduceIte,qQ,h5,h22,qZ,wu32,zlm,zae,zbq,w5];refine⟨by omega,by omega,by omega,k,_,_,by omega,⟨i+1,_,_,by omega,by rw[qA];exact hol,hd.set (qE _ (by decide)),λt ht=>by rw[zfq (by omega)];exact hz t (by omega),by omega,zof (by omega) (hz i (qU _)) hv,?_,?_,?_,?_,?_,?_,rfl⟩,.refl⟩
  all_goals simp only[UU,qQ,reduceIte, *]
 |zero=>
  obtain rfl:i=n.length:=by omega
  have d1:decide ((n.length:Int)<(n.length:Nat))=false:=dF;have wd:IntKind.i64.wrap ((m.length:Int)-(n.length:Int))=((m.length-n.length:Nat):Int):=wQ (by omega);simp only[l205_0,r205_6,SS,fC,reduceIte,h21,h22,d1];simp only[r205_12,SS,reduceCtorEq,reduceIte,qQ,h0,h1,wd]
  refine zaj (λk E H=>∃i cy out,i+k=m.length/\n.length<=i/\out.length=m.length+1/\Dig out/\(∀t,i<=t->out.getD t 0=0)/\cy<=1/\val out+4294967296^i*cy=val (m.take i)+val (n.take i)/\
    E 0= .vec (u32s m) m.length c/\E 1= .vec (u32s n) n.length d/\E 5= .sl 0 0 (m.length+1) 1 (some (m.length+1))/\E 6= .int .u64 (cy:Nat)/\E 50= .int .i64 ((m.length-n.length:Nat):Int)/\E 51= .int .i64 ((i-n.length:Nat):Int)/\H=[some (u32s out)]) (n:=m.length-n.length)
   ⟨n.length,cy,out,by omega,qU _,hol,hd,hz,hcy,hv,?_,?_,?_,?_,?_,?_,rfl⟩ ?_
  ·simp only[UU,qQ,h0]
  ·simp only[UU,qQ,h1]
  ·simp only[UU,qQ,h5]
  ·simp only[UU,qQ,h6]
  ·simp only[UU,qQ,reduceIte]
  ·simp only[UU,qQ,reduceIte,zM];rfl
  clear hik hz hd hv hcy hol h0 h1 h5 h6 h21 h22 d1;rintro k E H ⟨i,cy,out,hik,hni,hol,hd,hz,hcy,hv,h0,h1,h5,h6,h21,h22,rfl⟩;refine wM ?_;have bm:=dm.getD i;have bn:n.getD i 0=0:=zgv hni;cases k with
  |succ k=>
   have g1:=zal m i (by omega) AV.junk;have d1:decide (((i-n.length:Nat):Int)<((m.length-n.length:Nat):Int))=true:=dT;have w4:IntKind.i64.wrap ((n.length:Int)+((i-n.length:Nat):Int))=(i:Int):=wQ (by omega);have w3:IntKind.u64.wrap ((cy:Int)+((m.getD i 0:Nat):Int))=((cy+(m.getD i 0+n.getD i 0):Nat):Int):=by rw[bn,qG,<-xB];exact zbg (by omega)
   have w5:IntKind.i64.wrap (((i-n.length:Nat):Int)+1)=((i+1-n.length:Nat):Int):=wQ (by omega);simp only[l205_1,r205_13,r205_14,r205_15,SS,fC,reduceCtorEq,reduceIte,qQ,h0,h1,h6,h21,h22,d1,w4,qZ,g1,zae,zbg (show m.getD i 0<18446744073709551616 by omega),w3];refine⟨⟨by omega,by omega⟩,by omega,?_⟩;simp only[r205_16,r205_17,r205_18,SS,reduceIte,qQ,h1,h5,h22,w4,qZ,wu32,zlm,zae,zbq,w5];refine⟨⟨by omega,by omega⟩,by omega,by omega,k,_,_,by omega,⟨i+1,_,_,by omega,by omega,by rw[qA];exact hol,hd.set (qE _ (by decide)),λt ht=>by rw[zfq (by omega)];exact hz t (by omega),by omega,zof (by omega) (hz i (qU _)) hv,?_,?_,?_,?_,?_,?_,rfl⟩,.refl⟩
   all_goals simp only[UU,qQ,reduceIte, *]
  |zero=>
   obtain rfl:i=m.length:=by omega
   have d1:decide (((m.length-n.length:Nat):Int)<((m.length-n.length:Nat):Int))=false:=dF;have hv2:=zgu (i:=m.length) (v:=cy) (l:=out) (by omega);rw[hz m.length (qU _),xW,qG,hv,xH,qC hn]at hv2;have hd':=hd.set (i:=m.length) (v:=cy) (by omega);have hl':(out.set m.length cy).length=m.length+1:=by rw[qA];exact hol
   have hu:(u32s out).set m.length (.int .u32 (cy:Nat))=u32s (out.set m.length cy):=by rw[zbq]
   have hne':zdg (out.set m.length cy) (out.set m.length cy).length≠0:=λe=>by
    have:=zbp (out.set m.length cy);rw[hv2]at this;unfold zbi at this;rw[e,yM]at this;exact hne this.symm
   have t1:=jfv (out.set m.length cy) (m.length+1) (by omega) hne';rw[hl']at t1;simp only[l205_1,r205_13,SS,fC,reduceIte,h21,h22,d1];simp only[r205_19,r205_20,SS,reduceCtorEq,reduceIte,qQ,h0,h5,h6,qZ,zmz (show cy<4294967296 by omega),zae,zbq];refine⟨⟨by omega,by omega⟩,by omega,?_⟩;refine zed t1 (id:=0) rfl (by simp[AV.ren,zan]) rfl (zao _) (zao _) ?_;simp only[zaf,zac,effs,qB,qI,SS,reduceIte,qQ];refine hQ _ _ _ hl' hd' hv2 ?_ rfl;rw[hl'];simp only[UU,qQ,reduceIte];simp[AV.ren,zan]
def padL(n s:Nat):List Nat:=(List.range n).map λi=>s/4294967296^i%4294967296
theorem qmj{l:List Nat}{n s:Nat}(hl:l.length=n)(hd:Dig l)(hv:val l=s):l=padL n s:=by
 refine zdp (by simp[padL,hl]) λt ht=>?_
 have e:(padL n s).getD t 0=s/4294967296^t%4294967296:=by
  rw[qX];simp[padL,show t<n by omega]
 rw[e,<-hv,zlr];exact(zoi (f:=λi=>l.getD i 0) (λi _=>hd.getD i) ht).symm
theorem qto(m n:List Nat)(c d:Option Nat)(hn:n.length<=m.length)(hm:m.length<=1100)(dm:Dig m)(dn:Dig n)(hne:val m+val n≠0):
  Rt 205 [.vec (u32s m) m.length c,.vec (u32s n) n.length d] [] (.sl 0 0 (zdg (padL (m.length+1) (val m+val n)) (m.length+1)) 1 (some (m.length+1))) [some (u32s (padL (m.length+1) (val m+val n)))]:=by
 refine oFW o205 ?_;simp only[c205];refine wW ?_;simp only[r205_0,SS];refine zki (wM ?_);have d1:decide ((m.length:Int)<(n.length:Nat))=false:=dF;simp only[r205_1,SS,fC,reduceCtorEq,reduceIte,qQ,d1];refine jbh m n c d hn hm dm dn (by simp only[UU,qQ]) (by simp only[UU,qQ]) hne λE' H' out h1 h2 h3 h4 h5=>?_
 obtain rfl:=qmj h1 h2 h3;subst h5;rw[h1]at h4;exact⟨.inl rfl,_,by simp[resA,zeh,h4],.keep _ _⟩
theorem zyf{m:List Nat}{n:Nat}(c:Option Nat)(hm:n<=1102)(hnM:n<=m.length)(hz:∀t,n<=t->m.getD t 0=0)(dm:Dig m){s:Nat}(hs:s<32):
  Rt 222 [.sl 0 0 n 1 c,.int .i64 (s:Int)] [some (u32s m)] (.tup []) [some (u32s (shrL (2^s) m))]:=by
 refine oF o222 ?_;simp only[c222,r222_0,SS,reduceIte]
 refine zaj (λk E H=>∃i W,i+k=n/\W.length=m.length/\(∀t,t<i->W.getD t 0=shrF (2^s) (λt=>m.getD t 0) t)/\(∀t,i<=t->W.getD t 0=m.getD t 0)/\
   E 0= .sl 0 0 n 1 c/\E 1= .int .i64 (s:Int)/\E 7= .int .i64 (n:Nat)/\E 8= .int .i64 (i:Nat)/\H=[some (u32s W)]) (n:=n)
  ⟨0,m,by omega,rfl,λt h=>absurd h (by omega),λ_ _=>rfl,?_,?_,?_,?_,rfl⟩ ?_
 ·rfl
 ·rfl
 ·rfl
 ·rfl
 rintro k E H ⟨i,W,hik,hWl,hW1,hW2,h0,h1,h7,h8,rfl⟩;refine wM ?_;cases k with
 |succ k=>
  have hi:i<n:=by omega
  have bi:=dm.getD i;have bj:=dm.getD (i+1);have g1:=zal W i (by omega) AV.junk;rw[hW2 i (qU i)]at g1;have d1:decide ((i:Int)<(n:Nat))=true:=dT;have w5:=wS1 i (by omega);have e7:=qlo (x:=m.getD i 0+4294967296*m.getD (i+1) 0) (s:=s) (by omega)
  have nx:∀W':List Nat,W'.length=m.length->(∀t,t≠i->W'.getD t 0=W.getD t 0)->W'.getD i 0=shrF (2^s) (λt=>m.getD t 0) i->(∀t,t<i+1->W'.getD t 0=shrF (2^s) (λt=>m.getD t 0) t)/\∀t,i+1<=t->W'.getD t 0=m.getD t 0:=λW' _ h2 h3=>
   ⟨λt ht=>by
    rcases(by omega:t<i\/t=i)with h | rfl
    ·rw[h2 t (by omega)];exact hW1 t h
    ·exact h3,λt ht=>by rw[h2 t (by omega)];exact hW2 t (by omega)⟩
  have nx2:=nx (W.set i ((m.getD i 0+4294967296*m.getD (i+1) 0)/2^s%4294967296)) (by rw[qA];exact hWl) (λt ht=>zbj (λe=>ht e.symm)) (zcw (by omega));simp only[l222_0,r222_1,r222_2,r222_3,SS,fC,reduceCtorEq,reduceIte,qQ,h0,h7,h8,d1,qZ,g1,zae,zbg (show m.getD i 0<18446744073709551616 by omega)];refine⟨⟨by omega,by omega⟩,by omega,?_⟩;by_cases hin:i+1<n
  ·have d2:decide (((i+1:Nat):Int)<(n:Nat))=true:=dT;have g2:=zal W (i+1) (by omega) AV.junk;rw[hW2 (i+1) (by omega)]at g2;have e3:=qlp bj;have e4:=or64 bi bj;simp only[r222_4,SS,fC,reduceCtorEq,reduceIte,qQ,h0,w5,d2];simp only[r222_5,SS,fC,reduceCtorEq,reduceIte,qQ,h0,w5,qZ,g2,zae,zbg (show m.getD (i+1) 0<18446744073709551616 by omega),e3,e4];refine⟨⟨by omega,by omega⟩,by omega,by decide,?_⟩;simp only[r222_6,r222_7,SS,reduceCtorEq,reduceIte,qQ,h0,h1,h8,qZ,zae,e7,wu32,zbq,w5];refine⟨by omega,⟨by omega,by omega⟩,by omega,k,_,_,by omega,⟨i+1,_,by omega,by rw[qA];exact hWl,nx2.1,nx2.2,?_,?_,?_,?_,rfl⟩,.refl⟩
   all_goals simp only[UU,qQ,reduceIte, *]
  ·have d2:decide (((i+1:Nat):Int)<(n:Nat))=false:=dF;have e0:m.getD (i+1) 0=0:=hz _ (by omega);rw[e0,xW,qG]at e7 nx2;simp only[r222_4,SS,fC,reduceCtorEq,reduceIte,qQ,h0,w5,d2];simp only[r222_6,r222_7,SS,reduceCtorEq,reduceIte,qQ,h0,h1,h8,qZ,zae,e7,wu32,zbq,w5];refine⟨by omega,⟨by omega,by omega⟩,by omega,k,_,_,by omega,⟨i+1,_,by omega,by rw[qA];exact hWl,nx2.1,nx2.2,?_,?_,?_,?_,rfl⟩,.refl⟩
   all_goals simp only[UU,qQ,reduceIte, *]
 |zero=>
  obtain rfl:i=n:=by omega
  have hzz:∀t,i<=t->shrF (2^s) (λt=>m.getD t 0) t=0:=λt ht=>by unfold shrF;simp only[hz t ht,hz (t+1) (by omega),xW,qG,Nat.zero_div,Nat.zero_mod]
  have d1:decide ((i:Int)<(i:Nat))=false:=dF
  have hW:W=shrL (2^s) m:=zdp (by rw[hWl,zoh]) λt ht=>by
   rw[zqj (by omega)];rcases qT t i with h | h
   ·exact hW1 t h
   ·rw[hzz t h,hW2 t h,hz t h]
  simp only[l222_0,r222_1,SS,fC,reduceCtorEq,reduceIte,h7,h8,d1,hW];exact⟨.inr trivial,_,rfl,.keep _ _⟩
end Go.Proofs.YtgfbaioffpcelaaGreatDoor
namespace Go.Newton
inductive NR(a:Nat):Nat->Nat->Prop
 |stop {x:Nat}:x<=(x+a/x)/2->NR a x x
 |step {x g:Nat}:(x+a/x)/2<x->NR a ((x+a/x)/2) g->NR a x g
theorem qdr{a x:Nat}(ha:1<=a)(hx:1<=x):1<=(x+a/x)/2:=by
 rcases(by omega:x=1\/2<=x)with rfl | h
 ·rw[jG];omega
 ·have:=yB (a/x);omega
theorem NR.ex{a:Nat}(ha:1<=a):∀f x,x<=f->1<=x->∃g,NR a x g/\1<=g/\g<=x
 |0,x,h,hx=>by omega
 |f+1,x,h,hx=>by
  rcases qT ((x+a/x)/2) x with h1 | h1
  ·obtain⟨g,h2,h3,h4⟩:=NR.ex ha f ((x+a/x)/2) (by omega) (qdr ha hx);exact⟨g,.step h1 h2,h3,by omega⟩
  ·exact⟨x,.stop h1,hx,qU x⟩
end Go.Newton
namespace Go.Proofs.YtgfbaioffpcelaaGreatDoor
open Go Go.AL Go.Proofs Go.Limb Go.Knuth Go.Newton
theorem zfr{d:Nat}(h0:d≠0)(h:d<4294967296):zbn [d]:=⟨Dig.cons h Dig.nil,by simp[Limb.Top,h0]⟩
theorem pad2{s:Nat}(h0:s≠0)(h:s<4294967296):padL 2 s=[s,0]:=by
 have:s/4294967296=0:=xS h;simp[padL,yU,xX h,this]
theorem jbi{s:Nat}(h0:s≠0):zdg [s,0] 2=1/\zdg [s,0] 1=1:=by
 constructor<;>simp[zdg,h0]
theorem jbj{s:Nat}(h:s<4294967296):(zav s).length<=1:=by
 rcases xY s with h0 | h0
 ·subst h0;decide
 ·rw[<-qdp (zfr (show s≠0 by omega) h) (by simp[Limb.val])];simp
theorem qtp{a:Nat}(ha:1<=a)(ha2:a<2147483648){c:Option Nat}{Q:Post}{x0 g:Nat}{E:Env}{c0:Option Nat}(h0:NR a x0 g)(hx0:1<=x0)(hx1:x0<2147483648)(e0:E 0= .vec (u32s [a]) 1 c)(e5:E 5= .vec (u32s [x0]) 1 c0)
  (hQ:∀E' H',E' 2= .vec (u32s [g]) 1 (if g=x0 then c0 else some 2)->Q .ret E' H'):Wg 0 56 (.loop l217_0) E [] Q:=by
 refine zaj (λx E H=>NR a x g/\1<=x/\x<=x0/\E 0= .vec (u32s [a]) 1 c/\E 5= .vec (u32s [x]) 1 (if x=x0 then c0 else some 2)/\H=[]) (n:=x0) ⟨h0,hx0,qU _,e0,by rw[if_pos rfl];exact e5,rfl⟩ ?_;clear e0 e5 hx0 h0 E;rintro x E H ⟨hN,hx0,hxx,e0,e5,rfl⟩;have hx1:x<2147483648:=by omega
 have hc':∃c',c'=if x=x0 then c0 else some 2:=⟨_,rfl⟩
 obtain⟨c',hc'⟩:=hc';rw[<-hc']at e5;rw[l217_0];refine zmu (wW ?_);have hv:val [x]=x:=by simp[Limb.val]
 have ha':val [a]=a:=by simp[Limb.val]
 obtain⟨c1,c2,t1⟩:=qay (m:=[a]) (n:=[x]) c c' (zfr (by omega) (by omega)) (zfr (by omega) (by omega)) (by simp) (by simp) (by rw[hv];omega);rw[hv,ha']at t1;have hq:a/x<4294967296:=xC (xO _ _) (by omega);have hl:=jbj hq;have hs:x+a/x<4294967296:=by have:=xO a x;omega
 have hs0:x+a/x≠0:=Nat.ne_of_gt (Nat.add_pos_left hx0 _);have t2:=qto [x] (zav (a/x)) c' c1 hl (by simp) (zfr (by omega) (by omega)).1 (zak _).1 (by rw[hv,zaq];exact hs0);rw[hv,zaq,show[x].length+1=2 from rfl,pad2 hs0 hs,(jbi hs0).1]at t2;have hy:=qdr ha hx0
 have t3:=zyf (m:=[x+a/x,0]) (n:=1) (s:=1) (some 2) (by decide) (by simp) (λt ht=>by
  rcases(by omega:t=1\/2<=t)with rfl | h
  ·rfl
  ·rw[qX,xG (by simp;omega)];rfl) (Dig.cons hs (Dig.cons (by decide) Dig.nil)) (by decide)
 have e3:shrL (2^1) [x+a/x,0]=[(x+a/x)/2,0]:=by
  simp only[shrL,shrF,yK,jR,yU,List.range_zero,qL,xK,List.map_cons,List.map_nil,zZ,jW,List.getD_nil,xW,qG,xZ,zB,Nat.zero_div,Nat.zero_mod];rw[xX (by omega)]
 rw[e3]at t3;generalize hyy:(x+a/x)/2=y at*;have t4:=qmi [y,0] 1 2 (by simp) (by simp) (by rw[(jbi (s:=y) (by omega)).2];decide);rw[(jbi (s:=y) (by omega)).2]at t4;simp only[r217_7,SS,reduceIte,qQ,e0,e5];refine zaa t1 ?_ rfl (by simp only[AV.closed,qJ,qP]);simp only[zaf,zac,qB,qI,SS,reduceIte,qQ,qN,qO];refine wW ?_;simp only[r217_8,SS,reduceIte,qQ,e5];refine znf t2 (by simp only[AV.closed,qJ,qP]) (zao _) ?_;simp only[zaf,zac,SS,reduceIte,qQ,zK];refine wW ?_;simp only[r217_9,SS,reduceIte,qQ];refine zcm t3 (id:=0) rfl (by simp[AV.ren,zan]) ?_ rfl (zao _) (zao _) rfl;simp only[zaf,zac,qB,qI,SS];refine wW ?_;simp only[r217_10,SS,reduceIte,qQ];refine zed t4 (id:=0) rfl (by simp[AV.ren,zan]) rfl (zao _) (zao _) ?_;simp only[zaf,zac,effs,qB,qI,SS,reduceIte,qQ];refine W.weak (zhp 0 3 (qU _) (yB _) (λi cs h=>absurd h (by omega))) ?_;generalize hE1:frzE 0 3 [some (u32s [y,0])] _=E1;have f0:E1 0= .vec (u32s [a]) 1 c:=by rw[<-hE1];unfold frzE;simp only[UU,qQ,e0];rfl
 have f5:E1 5= .vec (u32s [x]) 1 c':=by rw[<-hE1];unfold frzE;simp only[UU,qQ,e5];rfl
 have f8:E1 8= .vec (u32s [y]) 1 (some 2):=by rw[<-hE1];unfold frzE;simp only[UU,qQ,reduceIte];rfl
 clear hE1;rw[yM];refine wM ?_;have t5:=icmp [y] [x] (some 2) c' (by simp) (by simp);rw[zdw (zfr (by omega) (by omega)) (zfr (by omega) (by omega)),hv,show val [y]=y by simp[Limb.val]]at t5;by_cases hlt:y<x
 ·have d1:decide (0<=sgn y x)=false:=decide_eq_false (by unfold sgn;rw[if_pos hlt];omega);simp only[r217_11,SS,reduceIte,qQ,f5,f8];refine zaa t5 ?_;simp only[zaf,zac,qB,qI,SS,fC,reduceIte,qQ,d1];simp only[r217_13,SS,reduceIte,qQ,f8];refine⟨y,_,_,hlt,⟨?_,by omega,by omega,?_,?_,rfl⟩,.refl⟩
  ·cases hN with
   |stop h=>omega
   |step h1 h2=>rw[hyy]at h2;exact h2
  ·exact f0
  ·rw[if_neg (show¬y=x0 by omega)];simp only[UU,qQ,reduceIte]
 ·have d1:decide (0<=sgn y x)=true:=decide_eq_true (by unfold sgn;rw[if_neg hlt];split<;>omega)
  obtain rfl:x=g:=by
   cases hN with
   |stop h=>rfl
   |step h1 h2=>omega
  rw[hc']at f5 t5;simp only[r217_11,SS,reduceIte,qQ,f5,f8];refine zaa t5 ?_;simp only[zaf,zac,qB,qI,SS,fC,reduceIte,qQ,d1];simp only[r217_12,SS,reduceIte,qQ,f5];exact hQ _ _ (by rfl)
end Go.Proofs.YtgfbaioffpcelaaGreatDoor
namespace Go.Proofs.YtgfbaioffpcelaaGreatDoor
open Go Go.AL Go.Proofs
theorem n1:((1:Nat):Int)=1:=rfl
theorem n2:((2:Nat):Int)=2:=rfl
theorem wi0:IntKind.i64.wrap 0=0:=rfl
theorem wi1:IntKind.i64.wrap 1=1:=rfl
theorem wi2:IntKind.i64.wrap 2=2:=rfl
theorem wim1:IntKind.i64.wrap (-1)= -1:=rfl
theorem tn0:Int.toNat 0=0:=rfl
theorem tn1:Int.toNat 1=1:=rfl
theorem le0:((0:Int)<=0)=True:=eq_true (by decide)
theorem lt01:((0:Int)<1)=True:=eq_true (by decide)
theorem lt12:((1:Int)<2)=True:=eq_true (by decide)
end Go.Proofs.YtgfbaioffpcelaaGreatDoor
namespace Go.Limb
def zqm(l:List Nat)(i:Nat):List Nat:=l.set (i/32) (l.getD (i/32) 0 ||| 2^(i%32))
theorem qgy(l:List Nat)(i:Nat):(zqm l i).length=l.length:=by simp[zqm]
theorem jbk(w:Nat):(4294967296:Nat)^w=2^(32*w):=by rw[Nat.pow_mul]
theorem qtq{l:List Nat}{i:Nat}(h:Dig l)(h0:val l%2^(i+1)=0):l.getD (i/32) 0%2^(i%32+1)=0:=by
 rw[zye l _ h,jbk];have hs:i%32<32:=qE _ (by decide);have hi:i+1=32*(i/32)+(i%32+1):=by omega
 obtain⟨t,ht⟩:2^(i+1)∣val l:=Nat.dvd_of_mod_eq_zero h0;rw[ht];have hp:2^(i+1)=2^(32*(i/32))*2^(i%32+1):=by rw[<-xL,<-hi]
 rw[hp,xQ,zG _ (xN (by decide))];generalize i%32=s at*
 have e3:(4294967296:Nat)=2^(s+1)*2^(31-s):=by
  rw[<-xL,show s+1+(31-s)=32 by omega]
 rw[e3,zT,Nat.mul_mod_right]
theorem qaz{l:List Nat}{i:Nat}(h:Dig l)(hi:i/32<l.length)(h0:val l%2^(i+1)=0):val (zqm l i)=val l+2^i/\Dig (zqm l i):=by
 have hz:=qtq h h0;have hs:i%32<32:=qE _ (by decide);have hb:=h.getD (i/32)
 have hpl:2^(i%32)<4294967296:=by
  have:2^(i%32)<2^32:=yD (by decide) hs;exact this
 have hor:l.getD (i/32) 0 ||| 2^(i%32)<4294967296:=jA (n:=32) hb hpl
 refine⟨?_,h.set hor⟩;have hv:=zgu (l:=l) (i:=i/32) (v:=l.getD (i/32) 0 ||| 2^(i%32)) hi;rw[qmf hz,xJ]at hv
 have e:4294967296^(i/32)*2^(i%32)=2^i:=by
  rw[jbk,<-xL];congr 1;omega
 rw[e]at hv;unfold zqm;rw[qmf hz];omega
structure DivS(m n:List Nat)(k:Nat)(qs r:List Nat):Prop where
 len:qs.length=m.length
 dig:Dig qs
 canon:zbn r
 lt:val r<val n
 ex:∃Q,val qs=Q*2^k/\val m/2^k=Q*val n+val r
theorem DivS.start{m n:List Nat}(hm:Dig m)(hn:val n≠0):DivS m n (32*m.length) (List.replicate m.length 0) []:=by
 have hr:∀k,val (List.replicate k 0)=0:=by
  intro k
  induction k with
  |zero=>rfl
  |succ k ih=>rw[zX,val,ih]
 refine⟨by simp,?_,zbn.nil,by show 0<val n;omega,0,by rw[hr];omega,?_⟩
 ·intro d hd;rw[List.eq_of_mem_replicate hd];decide
 ·have:=zfc hm;rw[jbk]at this;rw[xS this]
  show 0=0*val n+0
  omega
theorem qds{m:List Nat}{k:Nat}:val m/2^(k+1)=val m/2^k/2:=by
 rw[yR,xP]
theorem qdt(Q k:Nat):Q*2^(k+1)=2*Q*2^k:=by
 rw[xP,<-xQ,qM _ 2,xQ]
theorem DivS.low{m n qs r r2:List Nat}{k:Nat}(h:DivS m n (k+1) qs r)(c2:zbn r2)(hv:val r2=2*val r+val m/2^k%2)(hlt:val r2<val n):DivS m n k qs r2:=by
 obtain⟨Q,e1,e2⟩:=h.ex;rw[qds]at e2;have:=(qdo (V:=val m/2^k) (b:=val m/2^k%2) (qE _ (by decide)) e2 h.lt rfl).1 (by omega);exact⟨h.len,h.dig,c2,hlt,2*Q,by rw[e1,qdt],by rw[hv];exact this⟩
theorem DivS.high{m n qs r r2:List Nat}{k:Nat}(h:DivS m n (k+1) qs r)(hk:k<32*m.length)(c2:zbn r2)(hge:val n<=2*val r+val m/2^k%2)(hv:val r2+val n=2*val r+val m/2^k%2):DivS m n k (zqm qs k) r2:=by
 obtain⟨Q,e1,e2⟩:=h.ex;rw[qds]at e2;have h2:=(qdo (V:=val m/2^k) (b:=val m/2^k%2) (qE _ (by decide)) e2 h.lt rfl).2 hge;have hs:=qaz (i:=k) h.dig (by rw[h.len];omega) (by rw[e1];exact Nat.mul_mod_left _ _);refine⟨by rw[qgy,h.len],hs.2,c2,by omega,2*Q+1,?_,?_⟩
 ·rw[hs.1,e1,qdt,yJ,xD]
 ·have e:val r2=2*val r+val m/2^k%2-val n:=by omega
  rw[e];exact h2.1
theorem DivS.done{m n qs r:List Nat}(h:DivS m n 0 qs r):val qs=val m/val n/\val r=val m%val n:=by
 obtain⟨Q,e1,e2⟩:=h.ex;simp only[yP,xM,jG]at e1 e2;have hlt:=h.lt;rw[e1,e2];constructor
 ·rw[qM,jN (by omega),xS hlt];omega
 ·rw[qM,jO,xX hlt]
end Go.Limb
namespace Go.Proofs.YtgfbaioffpcelaaGreatDoor
open Go Go.AL Go.Proofs Go.Limb
theorem canon_len{m n:List Nat}(hm:zbn m)(hn:zbn n)(h:val m<=val n):m.length<=n.length:=by
 rcases qT n.length m.length with h1 | h1
 ·have h2:=zfc hn.1;have h3:=zft hm.2 (by intro e;rw[e]at h1;simp at h1);have h4:4294967296^n.length<=4294967296^(m.length-1):=qD (by decide) (by omega);omega
 ·exact h1
theorem and1{x:Nat}(hx:x<4294967296):IntKind.u32.wrap (((BitVec.ofInt IntKind.u32.bits (x:Int) &&& BitVec.ofInt IntKind.u32.bits 1).toNat:Nat):Int)=((x%2:Nat):Int):=by
 have h:(BitVec.ofInt IntKind.u32.bits (x:Int) &&& BitVec.ofInt IntKind.u32.bits 1).toNat=x%2:=by
  show(BitVec.ofInt 32 (x:Int) &&& BitVec.ofInt 32 ((1:Nat):Int)).toNat=x%2
  rw[BitVec.toNat_and,BitVec.ofInt_natCast,BitVec.ofInt_natCast,BitVec.toNat_ofNat,BitVec.toNat_ofNat,xX hx];exact Nat.and_one_is_mod x
 rw[h];exact zmz (by omega)
theorem shrN{x s:Nat}(hs:s<32):Int.fdiv (x:Int) (2^min s IntKind.u32.bits)=((x/2^s:Nat):Int):=by
 have e:min s IntKind.u32.bits=s:=by show min s 32=s;omega
 rw[e];have e2:(2:Int)^s=((2^s:Nat):Int):=by simp
 rw[e2,yQ _ (Int.natCast_nonneg _)];rfl
theorem shlN{s:Nat}(hs:s<32):IntKind.u32.wrap ((1:Int)*2^min s IntKind.u32.bits)=((2^s:Nat):Int):=by
 have e:min s IntKind.u32.bits=s:=by show min s 32=s;omega
 rw[e,Int.one_mul];have e2:(2:Int)^s=((2^s:Nat):Int):=by simp
 rw[e2];refine zmz ?_;have:2^s<2^32:=yD (by decide) hs;exact this
theorem zyg{m n:List Nat}{c d:Option Nat}(cm:zbn m)(cn:zbn n)(lm:m.length<=1100)(ln:n.length<=1100)(hn0:val n≠0){E:Env}{Q:Post}(e0:E 0= .vec (u32s m) m.length c)(e1:E 1= .vec (u32s n) n.length d)
  (e4:E 4= .sl 0 0 m.length 1 (some m.length)) (e5:E 5= .vec [] 0 (some 0)) (e8:E 8= .int .i64 (((32*m.length:Nat):Int)-1))
  (hQ:∀E' qs r cr,DivS m n 0 qs r->E' 4= .sl 0 0 m.length 1 (some m.length)->E' 5= .vec (u32s r) r.length cr->Q (.exit 0) E' [some (u32s qs)]):
  Wg 0 75 (.loop l227_0) E [some (u32s (List.replicate m.length 0))] Q:=by
 refine zaj (λk E H=>∃qs r cr,DivS m n k qs r/\k<=32*m.length/\E 0= .vec (u32s m) m.length c/\E 1= .vec (u32s n) n.length d/\E 4= .sl 0 0 m.length 1 (some m.length)/\E 5= .vec (u32s r) r.length cr/\E 8= .int .i64 ((k:Int)-1)/\H=[some (u32s qs)])
  (n:=32*m.length) ⟨_,[],some 0,DivS.start cm.1 hn0,qU _,e0,e1,e4,e5,e8,rfl⟩ ?_
 clear e0 e1 e4 e5 e8;rintro k E H ⟨qs,r,cr,hD,hk,e0,e1,e4,e5,e8,rfl⟩;refine wM ?_;simp only[l227_0,r227_6,SS,reduceIte,qQ,e8];refine⟨λhge=>?_,λhlt=>?_⟩
 ·obtain⟨k,rfl⟩:∃k',k=k'+1:=⟨k-1,by omega⟩
  have e5k:((k+1:Nat):Int)-1=(k:Nat):=by omega
  rw[e5k]at e8;have hw:k/32<m.length:=by omega
  have hs:k%32<32:=qE _ (by decide);have g1:=zal m (k/32) hw AV.junk;have bm:=cm.1.getD (k/32);have lr:=canon_len hD.canon cn (yO hD.lt);have hb1:m.getD (k/32) 0/2^(k%32)<4294967296:=xC (xO _ _) bm;have hbit:=jbc m k cm.1;have hbl:m.getD (k/32) 0/2^(k%32)%2<=1:=by omega
  obtain⟨c1,t1⟩:=jbd r cr (m.getD (k/32) 0/2^(k%32)%2) hD.canon.1 hbl (by omega);have dd:=qtl r _ hD.canon.1 hbl;have dl:=qdn r (m.getD (k/32) 0/2^(k%32)%2);have dv:=qtk r (m.getD (k/32) 0/2^(k%32)%2);generalize hdb:dblL r (m.getD (k/32) 0/2^(k%32)%2)=db at*;obtain⟨c2,t2⟩:=znw db c1 (by omega);have kc:=zbc dd;have kv:=zbp db;have kl:=zln db;generalize zbi db=r1 at*;rw[dv,hbit]at kv;have t3:=zcmp r1 n c2 d (by omega) (by omega);rw[zdw kc cn]at t3;have w3:IntKind.i64.wrap ((k:Int)-1)=(k:Int)-1:=w64 (by omega) (by omega);have q1:Int.tdiv (k:Int) 32=((k/32:Nat):Int):=rfl;have q2:Int.tmod (k:Int) 32=((k%32:Nat):Int):=rfl;have q3:IntKind.i64.wrap ((k/32:Nat):Int)=((k/32:Nat):Int):=w64 (by omega) (by omega);have q4:IntKind.i64.wrap ((k%32:Nat):Int)=((k%32:Nat):Int):=w64 (by omega) (by omega);simp only[r227_7,SS,fC,reduceCtorEq,reduceIte,qQ,e0,e5,e8,q1,q2,q3,qZ,g1,zae,shrN hs,and1 hb1];refine⟨by omega,⟨by omega,by omega⟩,by omega,by omega,by omega,?_⟩;refine zaa t1 ?_;simp only[SS,reduceIte,qQ];refine zaa t2 ?_;simp only[SS,reduceIte,qQ];simp only[r227_8,SS,reduceIte,qQ,e1];refine zaa t3 ?_;simp only[SS,reduceIte,qQ];refine⟨λhc=>?_,λhc=>?_⟩
  ·have hle:val n<=val r1:=by
    unfold sgn at hc;split at hc
    ·omega
    ·split at hc<;>omega
   have hl2:=canon_len cn kc hle;obtain⟨c3,t4⟩:=zky r1 n c2 d (by omega) hl2 kc.1 cn.1;obtain⟨v1,v2,v3⟩:=zpn r1 n kc.1 cn.1 hl2 hle r1.length 0 0 [] (by decide) rfl Dig.nil (by omega) (by simp[Limb.val]);generalize difL r1 n r1.length 0 0 []=r2 at*;obtain⟨c4,t5⟩:=znw r2 c3 (by omega);have mc:=zbc v2;have mv:=zbp r2;generalize zbi r2=r3 at*;have hD2:=hD.high (r2:=r3) (by omega) mc (by rw[<-kv];exact hle) (by rw[mv,v1,kv]);have bq:=hD.dig.getD (k/32);have g2:=zal qs (k/32) (by rw[hD.len];exact hw) AV.junk
   have hpl:2^(k%32)<4294967296:=by
    have:2^(k%32)<2^32:=yD (by decide) hs;exact this
   have wo:=or32 bq hpl;simp only[r227_9,SS,reduceIte,qQ,e1];refine zaa t4 ?_;simp only[SS,reduceIte,qQ];refine zaa t5 ?_;simp only[SS,reduceIte,qQ];simp only[r227_10,SS,fC,reduceIte,qQ,e4,e8,q1,q2,q3,qZ,g2,zae,hD.len,shlN hs,wo,zbq];refine⟨by omega,⟨by omega,by omega⟩,by omega,by omega,by omega,⟨by omega,by omega⟩,by omega,rfl,?_⟩;simp only[r227_11,SS,reduceIte,qQ,e8,w3];refine⟨k,_,_,by omega,⟨zqm qs k,r3,c4,hD2,by omega,?_,?_,?_,?_,?_,rfl⟩,.refl⟩<;>simp only[UU,qQ,reduceIte, *]
  ·have hle:val r1<val n:=by
    unfold sgn at hc;split at hc
    ·assumption
    ·exfalso;split at hc<;>omega
   have hD2:=hD.low (r2:=r1) kc kv hle;simp only[r227_11,SS,reduceIte,qQ,e8,w3];refine⟨k,_,_,by omega,⟨qs,r1,c2,hD2,by omega,?_,?_,?_,?_,?_,rfl⟩,.refl⟩<;>simp only[UU,qQ,reduceIte, *]
 ·have hk0:k=0:=by omega
  subst hk0;exact hQ _ qs r cr hD (by exact e4) (by exact e5)
theorem jbl(m n:List Nat)(c d:Option Nat)(cm:zbn m)(cn:zbn n)(lm:m.length<=1100)(ln:n.length<=1100)(hn0:val n≠0):DivC m n c d:=by
 by_cases hsm:m.length<=2/\n.length<=2
 ·have p2:∀l:List Nat,Dig l->l.length<=2->val l<18446744073709551616:=by
   intro l hl h;have h1:=zfc hl;have h2:4294967296^l.length<=4294967296^2:=qD (by decide) h;omega
  exact zur m n c d cm cn (p2 m cm.1 hsm.1) (p2 n cn.1 hsm.2) hn0
 have dq:val m/val n<=val m:=xO _ _;have dr:val m%val n<=val m:=jS _ _;have lq:=canon_len (zak (val m/val n)) cm (by rw[zaq];exact dq);have lr:=canon_len (zak (val m%val n)) cm (by rw[zaq];exact dr);refine⟨zav (val m/val n),zav (val m%val n),none,none,zak _,zak _,by omega,by omega,zaq _,zaq _,?_⟩;have w1:IntKind.i64.wrap (32*(m.length:Int))=((32*m.length:Nat):Int):=wQ (by omega);have w2:IntKind.i64.wrap (((32*m.length:Nat):Int)-1)=((32*m.length:Nat):Int)-1:=w64 (by omega) (by omega);have hrep:List.replicate m.length (AV.int IntKind.u32 0)=u32s (List.replicate m.length 0):=by simp[u32s]
 refine oFw o227 ?_
 have fin:∀E' qs r cr,DivS m n 0 qs r->E' 4= .sl 0 0 m.length 1 (some m.length)->E' 5= .vec (u32s r) r.length cr->
   wG 0 75 (.seq (.reg r227_12 none) .ret) E' [some (u32s qs)] (λx E' H'=>(x= .ret\/x= .normal)/\∃v' v'',resA Tryz.prog [(.tmp 4),(.tmp 5)] E' H'=some v'/\AL.Fin 0 v' H' v'' []/\v''.wk=(.tup [.vec (u32s (zav (val m/val n))) (zav (val m/val n)).length none,.vec (u32s (zav (val m%val n))) (zav (val m%val n)).length none])):=by
  intro E' qs r cr hD e4 e5;obtain⟨v1,v2⟩:=hD.done;obtain⟨c3,t1⟩:=znw qs (some m.length) (by rw[hD.len];omega);have eq:zbi qs=zav (val m/val n):=zdk (zbc hD.dig) (zak _) (by rw[zbp,v1,zaq]);have er:r=zav (val m%val n):=zdk hD.canon (zak _) (by rw[v2,zaq]);rw[eq]at t1;subst er;simp only[r227_12,SS,reduceCtorEq,reduceIte,e4];refine zfp (id:=0) (cs:=u32s qs) (d:=2) (args0:=[.sl 0 0 m.length 1 (some m.length)]) (args':=[.vec (u32s qs) qs.length (some m.length)]) t1 rfl ?_ rfl ?_ rfl (zao _) rfl
  ·have:=qam (l:=qs) (n:=m.length) (c:=some m.length) hD.len.symm;rw[yV,this];simp[hD.len]
  simp only[zaf,zac,qB,qI,SS,reduceIte,qQ,e5];refine⟨.inl trivial,_,_,rfl,.drop _ _ rfl (by intro i cs h;omega),?_⟩;simp only[AV.wk,AV.wk.wkL,qlj,UU,qQ,reduceIte]
 rcases qT 2 m.length with h2 | h2
 ·have d1:decide ((m.length:Int)<=2)=false:=dF;simp only[c227,r227_0,r227_1,SS,fC,reduceCtorEq,reduceIte,qQ,d1];simp only[r227_4,r227_5,SS,reduceCtorEq,reduceIte,qQ,qZ,w1,w2,hrep];refine⟨by omega,⟨by omega,by omega,by omega,by omega⟩,?_⟩;refine zyg (c:=c) (d:=d) cm cn lm ln hn0 (by rfl) (by rfl) (by rfl) (by rfl) (by rfl) ?_;intro E' qs r cr hD f4 f5;have:=fin E' qs r cr hD f4 f5;simp only[SS,reduceCtorEq,reduceIte]at this ⊢;exact this
 ·have d1:decide ((m.length:Int)<=2)=true:=dT;have d2:decide ((n.length:Int)<=2)=false:=dF;simp only[c227,r227_0,r227_1,SS,fC,reduceCtorEq,reduceIte,qQ,d1,d2];simp only[r227_4,r227_5,SS,reduceCtorEq,reduceIte,qQ,qZ,w1,w2,hrep];refine⟨by omega,⟨by omega,by omega,by omega,by omega⟩,?_⟩;refine zyg (c:=c) (d:=d) cm cn lm ln hn0 (by rfl) (by rfl) (by rfl) (by rfl) (by rfl) ?_;intro E' qs r cr hD f4 f5;have:=fin E' qs r cr hD f4 f5;simp only[SS,reduceCtorEq,reduceIte]at this ⊢;exact this
theorem zef:DivB BIG:=⟨qU _,λx y _ _ h0 m n c d cm cn lm ln _ hn=>jbl m n c d cm cn lm ln (by omega)⟩
theorem jbm{x y:Int}{a b:AV}(ha:zap x a)(hb:zap y b)(hy:y≠0):∃v,zap (x/y) v/\Rt 172 [a,b] [] v []:=
 zQuo ha hb hy (zef.2 x y ha.fits hb.fits hy) (xC (zA x y) ha.fits)
theorem zRem{x y:Int}{a b:AV}(ha:zap x a)(hb:zap y b)(hy:y≠0):∃v,zap (x%y) v/\Rt 218 [a,b] [] v []:=by
 obtain⟨v,w,hv,hw,t⟩:=qld ha hb hy (zef.2 x y ha.fits hb.fits hy) (xC (zA x y) ha.fits);obtain⟨l,ca,_,_,_,rfl⟩:=ha;obtain⟨n,cb,_,_,_,rfl⟩:=hb;have hw0:=hw;obtain⟨lv,cv,_,_,_,rfl⟩:=hv;obtain⟨lw,cw,_,_,_,rfl⟩:=hw;refine⟨_,hw0,?_⟩;refine oF o218 ?_;simp only[c218,r218_0,r218_1,SS,reduceCtorEq,reduceIte,qV,qQ,qK];refine zaa t ?_;simp only[SS,reduceIte,qV,qQ,qK,qN,qO];simp only[r218_2,SS,reduceIte,qV,qQ,qK];exact dR
theorem zGcd{x y:Int}{a b:AV}(ha:zap x a)(hb:zap y b):Rt 196 [a,b] [] (intV (Int.gcd x y:Int)) []:=by
 obtain⟨va,hva,t1⟩:=zAbs ha;obtain⟨vb,hvb,t2⟩:=zAbs hb;obtain⟨l,ca,_,_,_,rfl⟩:=ha;obtain⟨n,cb,_,_,_,rfl⟩:=hb;obtain⟨la,da,_,_,_,hea⟩:=id hva;obtain⟨lb,db,_,_,_,heb⟩:=id hvb;subst hea heb;refine oFw o196 ?_;simp only[c196,r196_0,r196_1,SS,reduceCtorEq,reduceIte,qV,qQ,qK];refine zaa t1 ?_;simp only[SS,reduceIte,qV,qQ,qK];refine zaa t2 ?_;simp only[SS,reduceIte,qV,qQ,qK];refine⟨rfl,?_⟩
 refine zaj (λk E H=>∃(p q:Nat) (u1 v1 u2 v2:AV),q=k/\Nat.gcd p q=Int.gcd x y/\zap (p:Int) (.agg [u1,v1])/\zap (q:Int) (.agg [u2,v2])/\E 4= .ptr 2 0/\E 5= .ptr 3 0/\E 6= .ptr 4 0/\
  H=[some [.bool (decide (x<0)),.vec (u32s l) l.length ca],some [.bool (decide (y<0)),.vec (u32s n) n.length cb],some [.bool false,.vec [] 0 (some 0)],some [u1,v1],some [u2,v2]]) (n:=y.natAbs)
  ⟨x.natAbs,y.natAbs,_,_,_,_,rfl,rfl,hva,hvb,by rfl,by rfl,by rfl,rfl⟩ ?_
 rintro k E H ⟨p,q,u1,v1,u2,v2,rfl,hg,h1,h2,e4,e5,e6,rfl⟩;refine wM ?_;have t3:=zxr h2;obtain⟨l1,c1,x1,y1⟩:=zau h1;obtain⟨l2,c2,x2,y2⟩:=zau h2;subst x1 y1 x2 y2;simp only[l196_0,r196_2,SS,reduceCtorEq,reduceIte,qV,qQ,qK,e6];refine zaa t3 ?_;simp only[SS,reduceIte,qQ];refine⟨λhne=>?_,λheq=>?_⟩
 ·have hq:(q:Int)≠0:=by
   intro e;rw[e]at hne;exact hne rfl
  obtain⟨w,hw,t4⟩:=zRem h1 h2 hq;obtain⟨lw,cw,_,_,_,rfl⟩:=id hw;have em:((p:Int)%(q:Int))=((p%q:Nat):Int):=by omega
  rw[em]at hw;have hlt:p%q<q:=qE _ (by omega);simp only[r196_3,SS,reduceIte,qV,qQ,qK,e5,e6];refine zaa t4 ?_;simp only[SS,reduceIte,qV,qQ,qK,e5,e6];refine⟨rfl,?_⟩;refine⟨p%q,_,_,hlt,⟨q,p%q,_,_,_,_,rfl,?_,h2,hw,?_,?_,?_,?_⟩,.refl⟩
  ·rw[<-hg,yS p q,jH q p,yS]
  ·exact e4
  ·exact e5
  ·exact e6
  ·rw[em]
 ·have hq:q=0:=by
   have h0:((q:Nat):Int).sign=0:=Decidable.not_not.1 heq;have:=Int.sign_eq_zero_iff_zero.1 h0;omega
  subst hq;rw[zW]at hg;rw[hg]at h1;simp only[r196_4,SS,reduceIte,qV,qQ,qK,e4,e5];exact⟨.inl trivial,_,_,zfh (id:=2) (by exact e4) rfl,.drop _ _ rfl (by intro i cs h;omega),h1.wk⟩
end Go.Proofs.YtgfbaioffpcelaaGreatDoor
namespace Go.Det
abbrev Row:=Nat->Int
def sg:Nat->Int
 |0=>1
 |n+1=> -sg n
def zco(f:List Row->Int)(c:Nat):List Row->List Row->Int
 |_,[]=>0
 |pre,v::L=>sg L.length*(v c*f (pre++L))+zco f c (pre++[v]) L
def det:List Nat->List Row->Int
 | [],[]=>1
 | [],_::_=>0
 |c::cs,R=>zco (det cs) c [] R
def Lin(f:List Row->Int):Prop:= ∀(L1 L2:List Row) (a b:Int) (x y:Row),f (L1++(λj=>a*x j+b*y j)::L2)=a*f (L1++x::L2)+b*f (L1++y::L2)
def Alt(f:List Row->Int):Prop:= ∀(L1 L2:List Row) (v:Row),f (L1++v::v::L2)=0
theorem qgz{f:List Row->Int}(hf:Lin f)(c:Nat)(a b:Int)(x y:Row):∀(L p1 p2:List Row),zco f c (p1++(λj=>a*x j+b*y j)::p2) L=a*zco f c (p1++x::p2) L+b*zco f c (p1++y::p2) L:=by
 intro L
 induction L with
 |nil=>intro p1 p2;simp[zco]
 |cons v L ih=>
  intro p1 p2;simp only[zco,qH,xK];rw[hf p1 (p2++L) a b x y,ih p1 (p2++[v])];grind
theorem qha{f:List Row->Int}(hf:Lin f)(c:Nat)(a b:Int)(x y:Row)(L2:List Row):∀(L1 pre:List Row),zco f c pre (L1++(λj=>a*x j+b*y j)::L2)=a*zco f c pre (L1++x::L2)+b*zco f c pre (L1++y::L2):=by
 intro L1
 induction L1 with
 |nil=>
  intro pre;simp only[qL,zco];rw[qgz hf c a b x y L2 pre []];grind
 |cons w L1 ih=>
  intro pre;simp only[xK,zco,yZ,yK];have:=hf (pre++L1) L2 a b x y;simp only[qH]at this;rw[this,ih];grind
theorem qmk:∀cs,Lin (det cs):=by
 intro cs
 induction cs with
 |nil=>
  intro L1 L2 a b x y;have e:∀v:Row,det [] (L1++v::L2)=0:=by intro v;cases L1<;>rfl
  rw[e,e,e];simp
 |cons c cs ih=>intro L1 L2 a b x y;exact qha ih c a b x y L2 L1 []
theorem qba{f:List Row->Int}(hf:Alt f)(c:Nat)(v:Row):∀(L p1 p2:List Row),zco f c (p1++v::v::p2) L=0:=by
 intro L
 induction L with
 |nil=>intro p1 p2;rfl
 |cons w L ih=>
  intro p1 p2;simp only[zco,qH,xK];rw[hf p1 (p2++L) v,ih p1 (p2++[w])];simp
theorem qhb{f:List Row->Int}(hf:Alt f)(c:Nat)(v:Row)(L2:List Row):∀(L1 pre:List Row),zco f c pre (L1++v::v::L2)=0:=by
 intro L1
 induction L1 with
 |nil=>
  intro pre;simp only[qL,zco,yK];have:=qba hf c v L2 pre [];simp only[qH,xK,qL]at this ⊢;rw[this];simp only[sg];grind
 |cons w L1 ih=>
  intro pre;simp only[xK,zco];have:=hf (pre++L1) L2 v;simp only[qH]at this;rw[this,ih];simp
theorem qml:∀cs,Alt (det cs):=by
 intro cs
 induction cs with
 |nil=>intro L1 L2 v;cases L1<;>rfl
 |cons c cs ih=>intro L1 L2 v;exact qhb ih c v L2 L1 []
theorem swap{f:List Row->Int}(hl:Lin f)(ha:Alt f)(L1 L2:List Row)(x y:Row):f (L1++x::y::L2)= -f (L1++y::x::L2):=by
 have h:=ha L1 L2 (λj=>1*x j+1*y j);rw[hl L1 ((λj=>1*x j+1*y j)::L2) 1 1 x y]at h;have h1:=hl (L1++[x]) L2 1 1 x y;have h2:=hl (L1++[y]) L2 1 1 x y;simp only[qH,xK,qL]at h1 h2;rw[h1,h2,ha L1 L2 x,ha L1 L2 y]at h;omega
theorem jbn{f:List Row->Int}(hl:Lin f)(ha:Alt f)(v:Row):∀(M L1 L2:List Row),f (L1++v::(M++v::L2))=0:=by
 intro M
 induction M with
 |nil=>intro L1 L2;exact ha L1 L2 v
 |cons w M ih=>
  intro L1 L2;rw[xK,swap hl ha L1 (M++v::L2) v w];have:=ih (L1++[w]) L2;simp only[qH,xK,qL]at this;rw[this];simp
theorem qdu{f:List Row->Int}(hl:Lin f)(ha:Alt f){v:Row}{L1 L2:List Row}(hv:v∈L1):f (L1++v::L2)=0:=by
 obtain⟨A,B,rfl⟩:=List.append_of_mem hv;have:=jbn hl ha v B A L2;simpa using this
theorem qtr{f:List Row->Int}(hl:Lin f)(L1 L2:List Row):f (L1++(λ_=>0)::L2)=0:=by
 have:=hl L1 L2 0 0 (λ_=>0) (λ_=>0);simpa using this
def comb(c:Nat->Int)(r:Nat->Row):Nat->Row
 |0=>λ_=>0
 |m+1=>λj=>1*comb c r m j+c m*r m j
theorem qdv{f:List Row->Int}(hl:Lin f)(ha:Alt f)(c:Nat->Int)(r:Nat->Row){L1 L2:List Row}:∀m,(∀l,l<m->r l∈L1)->f (L1++comb c r m::L2)=0:=by
 intro m
 induction m with
 |zero=>intro _;exact qtr hl L1 L2
 |succ m ih=>
  intro h
  show f (L1++(λj=>1*comb c r m j+c m*r m j)::L2)=0
  rw[hl,ih (λl hl=>h l (by omega)),qdu hl ha (h m (by omega))];simp
def zdm(r:Nat->Row)(k:Nat):List Row:=(List.range k).map r
def zev:Nat->List Nat
 |0=>[]
 |k+1=>k::zev k
theorem zsx(r:Nat->Row)(k:Nat):zdm r (k+1)=zdm r k++[r k]:=by simp[zdm,yU]
def lead(r:Nat->Row)(k:Nat):Int:=det (zev k) (zdm r k)
def bord(r:Nat->Row)(k:Nat)(v:Row):Row:=λj=>det (j::zev k) (zdm r k++[v])
theorem qmm(r:Nat->Row)(k:Nat):lead r (k+1)=bord r k (r k) k:=by
 unfold lead bord;rw[zsx];rfl
def cof(f:List Row->Int)(pre L:List Row)(v:Row)(l:Nat):Int:= -(sg (L.length-l)*f (pre++(L.eraseIdx l++[v])))
def sumR(g:Nat->Int):Nat->Int
 |0=>0
 |n+1=>sumR g n+g n
theorem zah{g h:Nat->Int}{n:Nat}(e:∀i,i<n->g i=h i):sumR g n=sumR h n:=by
 induction n with
 |zero=>rfl
 |succ n ih=>simp only[sumR];rw[ih (λi hi=>e i (by omega)),e n (by omega)]
theorem zdy{g:Nat->Int}{n:Nat}(e:∀i,i<n->g i=0):sumR g n=0:=by
 induction n with
 |zero=>rfl
 |succ n ih=>simp only[sumR];rw[ih (λi hi=>e i (by omega)),e n (by omega)];rfl
theorem zjy(g:Nat->Int)(n:Nat):sumR g (n+1)=g 0+sumR (λi=>g (i+1)) n:=by
 induction n with
 |zero=>simp[sumR]
 |succ n ih=>rw[sumR,ih];simp only[sumR];omega
theorem zhx(f:List Row->Int)(j:Nat)(v:Row):∀(L pre:List Row),zco f j pre (L++[v])=v j*f (pre++L)-sumR (λl=>cof f pre L v l*(L.getD l (λ_=>0)) j) L.length:=by
 intro L
 induction L with
 |nil=>intro pre;simp[zco,sg,sumR]
 |cons w L ih=>
  intro pre;simp only[xK,zco,yZ,yK,jR,xZ];rw[ih (pre++[w]),zjy]
  have e:sumR (λi=>cof f pre (w::L) v (i+1)*((w::L).getD (i+1) (λ_=>0)) j) L.length=sumR (λl=>cof f (pre++[w]) L v l*(L.getD l (λ_=>0)) j) L.length:=by
   refine zah λi _=>?_
   simp[cof]
  have e0:cof f pre (w::L) v 0= -(sg (L.length+1)*f (pre++(L++[v]))):=by simp[cof]
  rw[e,e0];simp only[zZ,qH,xK,qL];grind
theorem qts(c:Nat->Int)(r:Nat->Row)(j:Nat):∀m,comb c r m j=sumR (λl=>c l*r l j) m:=by
 intro m
 induction m with
 |zero=>rfl
 |succ m ih=>simp only[comb,sumR,ih];omega
theorem zcp(r:Nat->Row)(k:Nat):(zdm r k).length=k:=by simp[zdm]
theorem zja(r:Nat->Row){k l:Nat}(h:l<k):(zdm r k).getD l (λ_=>0)=r l:=by
 rw[qX];simp[zdm,h]
theorem qmn(r:Nat->Row)(k:Nat)(v:Row):bord r k v=λj=>lead r k*v j+(-1)*comb (cof (det (zev k)) [] (zdm r k) v) r k j:=by
 funext j
 show zco (det (zev k)) j [] (zdm r k++[v])=_
 rw[zhx,qts,zcp]
 have e:sumR (λl=>cof (det (zev k)) [] (zdm r k) v l*((zdm r k).getD l (λ_=>0)) j) k=sumR (λl=>cof (det (zev k)) [] (zdm r k) v l*r l j) k:=
  zah λl hl=>by rw[zja r hl]
 rw[e];unfold lead;simp only[qL];grind
theorem qtt{u:Row}:∀(cs:List Nat),(∀c∈cs,u c=0)->∀L1 L2,det cs (L1++u::L2)=0:=by
 intro cs
 induction cs with
 |nil=>intro _ L1 L2;cases L1<;>rfl
 |cons c cs ih=>
  intro h L1 L2;have hf:=ih (λx hx=>h x (by simp[hx]));have hc:=h c (by simp)
  have pre:∀(L p1 p2:List Row),zco (det cs) c (p1++u::p2) L=0:=by
   intro L
   induction L with
   |nil=>intro p1 p2;rfl
   |cons w L ihL=>
    intro p1 p2;simp only[zco,qH,xK];rw[hf p1 (p2++L),ihL p1 (p2++[w])];simp
  have main:∀(L1 p:List Row),zco (det cs) c p (L1++u::L2)=0:=by
   intro L1
   induction L1 with
   |nil=>
    intro p;simp only[qL,zco];rw[hc,pre L2 p []];simp
   |cons w L1 ihL=>
    intro p;simp only[xK,zco];have:=hf (p++L1) L2;simp only[qH]at this;rw[this,ihL];simp
  exact main L1 []
theorem zqn{c:Nat}:∀{k:Nat},c∈zev k->c<k:=by
 intro k
 induction k with
 |zero=>intro h;simp[zev]at h
 |succ k ih=>
  intro h;rcases List.mem_cons.1 h with e | e
  ·omega
  ·have:=ih e;omega
theorem zyh{r:Nat->Row}{k:Nat}(hz:∀v c,c<k->bord r k v c=0)(v:Row)(j:Nat):
  lead r k*lead r k*bord r (k+1) v j=lead r k*(bord r k (r k) k*bord r k v j-bord r k v k*bord r k (r k) j):=by
 have hu0:∀w c,c∈zev k->bord r k w c=0:=λw c hc=>hz w c (zqn hc)
 have G0:∀w L1 L2,det (zev k) (L1++bord r k w::L2)=0:=λw L1 L2=>qtt (zev k) (hu0 w) L1 L2
 have F1:∀w,det (k::zev k) (zdm r k++[bord r k w])=bord r k w k*lead r k:=by
  intro w
  show zco (det (zev k)) k [] (zdm r k++[bord r k w])=_
  rw[zhx]
  have:sumR (λl=>cof (det (zev k)) [] (zdm r k) (bord r k w) l*((zdm r k).getD l (λ_=>0)) k) (zdm r k).length=0:=
   zdy λl _=>by
    unfold cof;have:=G0 w ((zdm r k).eraseIdx l) [];simp only[qL];rw[this];simp
  rw[this];unfold lead;simp
 have F2:∀R w w',det (k::zev k) ((R++[bord r k w])++[bord r k w'])=0:=by
  intro R w w'
  show zco (det (zev k)) k [] ((R++[bord r k w])++[bord r k w'])=_
  rw[zhx]
  have:sumR (λl=>cof (det (zev k)) [] (R++[bord r k w]) (bord r k w') l*((R++[bord r k w]).getD l (λ_=>0)) k) (R++[bord r k w]).length=0:=
   zdy λl _=>by
    unfold cof;have:=G0 w' ((R++[bord r k w]).eraseIdx l) [];simp only[qL];rw[this];simp
  rw[this,qL,G0 w R []];simp
 have X1:det (j::k::zev k) ((zdm r k++[bord r k (r k)])++[bord r k v])=lead r k*(bord r k (r k) k*bord r k v j-bord r k v k*bord r k (r k) j):=by
  show zco (det (k::zev k)) j [] ((zdm r k++[bord r k (r k)])++[bord r k v])=_
  rw[zhx,qL,F1,yZ,yT,zcp];simp only[sumR]
  have h0:sumR (λl=>cof (det (k::zev k)) [] (zdm r k++[bord r k (r k)]) (bord r k v) l*((zdm r k++[bord r k (r k)]).getD l (λ_=>0)) j) k=0:=
   zdy λl hl=>by
    unfold cof;rw[qL,List.eraseIdx_append_of_lt_length (by rw[zcp];exact hl),F2];simp
  have h1:cof (det (k::zev k)) [] (zdm r k++[bord r k (r k)]) (bord r k v) k=bord r k v k*lead r k:=by
   unfold cof;rw[qL,List.eraseIdx_append_of_length_le (by rw[zcp];exact qU _),zcp,zM,yZ,zcp];simp only[List.eraseIdx_zero,List.tail_cons,qI,yT,yI,sg];rw[F1];grind
  have h2:(zdm r k++[bord r k (r k)]).getD k (λ_=>0)=bord r k (r k):=by
   rw[qX,yC (by rw[zcp];exact qU _),zcp,zM];rfl
  rw[h0,h1,h2];grind
 have hl:=qmk (j::k::zev k);have ha:=qml (j::k::zev k);have hm:∀l,l<k->r l∈zdm r k:=λl h=>by simp only[zdm,List.mem_map,List.mem_range];exact⟨l,h,rfl⟩
 have X2:det (j::k::zev k) ((zdm r k++[bord r k (r k)])++[bord r k v])=lead r k*(lead r k*bord r (k+1) v j):=by
  rw[qmn r k v];rw[hl (zdm r k++[bord r k (r k)]) [] (lead r k) (-1) v (comb (cof (det (zev k)) [] (zdm r k) v) r k)];rw[qdv hl ha _ r (L1:=zdm r k++[bord r k (r k)]) (L2:=[]) k (λl h=>by simp[hm l h])];rw[qH,qmn r k (r k)]
  show lead r k*det (j::k::zev k) (zdm r k++(λj=>lead r k*(r k) j+(-1)*comb (cof (det (zev k)) [] (zdm r k) (r k)) r k j)::[v])+_=_
  rw[hl (zdm r k) [v] (lead r k) (-1) (r k) (comb (cof (det (zev k)) [] (zdm r k) (r k)) r k)];rw[qdv hl ha _ r (L1:=zdm r k) (L2:=[v]) k hm]
  have:bord r (k+1) v j=det (j::k::zev k) (zdm r k++r k::[v]):=by
   unfold bord;rw[zsx,qH];rfl
  rw[this];grind
 rw[X1]at X2;grind
theorem qdw{r:Nat->Row}:∀(k:Nat),(∀i,i<=k->lead r i≠0)->(∀v c,c<k->bord r k v c=0)/\∀v j,lead r k*bord r (k+1) v j=bord r k (r k) k*bord r k v j-bord r k v k*bord r k (r k) j:=by
 have canc:∀{a x y:Int},a≠0->a*a*x=a*y->a*x=y:=by
  intro a x y ha h;rw[Int.mul_assoc]at h;exact Int.eq_of_mul_eq_mul_left ha h
 intro k
 induction k with
 |zero=>intro h;exact⟨λv c hc=>absurd hc (by omega),λv j=>canc (h 0 (by omega)) (zyh (λv c hc=>absurd hc (by omega)) v j)⟩
 |succ k ih=>
  intro h;obtain⟨h1,h2⟩:=ih (λi hi=>h i (by omega))
  have hz:∀v c,c<k+1->bord r (k+1) v c=0:=by
   intro v c hc;have e:=h2 v c
   have:lead r k*bord r (k+1) v c=0:=by
    rw[e];rcases qT c k with hlt | hge
    ·rw[h1 v c hlt,h1 (r k) c hlt];simp
    ·have:c=k:=by omega
     subst this;grind
   rcases Int.mul_eq_zero.1 this with h0 | h0
   ·exact absurd h0 (h k (by omega))
   ·exact h0
  exact⟨hz,λv j=>canc (h (k+1) (by omega)) (zyh hz v j)⟩
