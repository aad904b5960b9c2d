/- A part of the proof. -/
import Derived.Test.YtbjdfanphdfkdaaGreatDoorPJ
import Derived.Test.YtbjdfanphdfkdaaGreatDoorPG
set_option linter.all false
set_option maxRecDepth 100000
open Nat renaming reduceEqDiff -> qX, reduceLeDiff -> qJ, reduceAdd -> qK, le_refl -> qD, lt_of_lt_of_le -> qL, zero_add -> qO, not_lt_zero -> qT, sub_self -> xZ, lt_or_ge -> xW, mul_one -> xV, add_sub_cancel_left -> xY, mod_eq_of_lt -> xP, add_zero -> yQ, one_ne_zero -> yW, zero_le -> yA, one_mul -> yB, two_pow_add_eq_or_of_lt -> yS, mod_lt -> zX, div_div_eq_div_mul -> zU, add_assoc -> zM, lt_of_le_of_lt -> zP, zero_mul -> zS, add_mul -> jZ, div_add_mod -> jW
open List renaming getD_eq_getElem?_getD -> qZ, getElem?_eq_getElem -> qW, take_of_length_le -> qU, set_append_right -> qA, getElem?_append_right -> qB, getElem?_cons_succ -> qC, getElem?_append_left -> qE, getElem?_map -> qG, getElem?_cons_zero -> qH, drop_zero -> qM, nodup_cons -> qN, getElem_map -> qP, length_map -> xQ, replicate_zero -> xX, getElem_mem -> xJ, mapM_cons -> xK, append_nil -> xB, length_append -> xD, getElem?_replicate -> xE, length_set -> xI, replicate_succ -> xL, mem_cons -> xO, getElem?_eq_none -> xS, append_assoc -> xT, take_add_one -> yJ, ext_getElem -> yK, map_append -> yV, range_succ -> yY, getElem_range -> yU, map_set -> yC, getElem?_set_self -> yD, getElem?_set -> yE, map_map -> yG, length_replicate -> yH, length_singleton -> yI, length_take -> yL, take_length -> yM, nil_append -> yP, getElem?_range -> yR, drop_eq_getElem_cons -> zK, mem_or_eq_of_mem_set -> zW, length_cons -> zY, length_nil -> zA, replicate_succ' -> zB, getElem?_set_ne -> zD, mem_of_getElem? -> zE, map_congr_left -> zG, getElem_of_mem -> zL, mapM_nil -> zN, set_cons_succ -> zR, set_set -> zT, drop_length -> jQ, all_eq_true -> jX
open Int renaming toNat_natCast -> qV, lt_trichotomy -> qS, sign_eq_neg_one_of_neg -> xA, natCast_add -> xH, sign_eq_one_of_pos -> xM, mul_le_mul_of_nonneg_right -> yN, mul_le_mul_of_nonneg_left -> yO, fdiv_eq_ediv_of_nonneg -> yT, toNat_zero -> zZ, neg_mul -> zC, sub_eq_add_neg -> zO, mul_one -> jJ, mul_neg -> jK, emod_nonneg -> jV
open Go.AL.AV.closed renaming closedL -> qY
open Bool renaming and_self -> qI, false_eq_true -> yZ
open Option renaming bind_eq_some_iff -> xU, bind_some -> xC, getD_some -> yX
open Option.some renaming injEq -> xG
namespace Go.Proofs.YtbjdfanphdfkdaaGreatDoor
open Go Go.AL Go.Proofs Go.Limb
def u32s(l:List Nat):List AV:=l.map λ(n:Nat)=>AV.int .u32 (n:Int)
theorem zbk(l:List Nat):(u32s l).length=l.length:=by simp[u32s]
theorem zcp(l:List Nat)(i:Nat)(h:i<l.length)(d:AV):(u32s l).getD i d= .int .u32 ((l.getD i 0:Nat):Int):=by
 simp[u32s,h]
theorem zxc(l:List Nat)(n:Nat):(u32s l).take n=u32s (l.take n):=by simp[u32s,List.map_take]
theorem zue(l:List Nat)(i a:Nat):(u32s l).set i (.int .u32 (a:Int))=u32s (l.set i a):=by simp[u32s,yC]
theorem zqg(l:List Nat):qY (u32s l)=true:=by
 induction l with
 |nil=>rfl
 |cons d l ih=>exact ih
theorem qdi(l:List Nat)(m d:Nat)(H:Heap):(u32s l).mapM (frzI m H (d+1))=some (u32s l):=by
 refine zny (λa ha=>?_);simp only[u32s,List.mem_map]at ha;obtain⟨n,_,rfl⟩:=ha;rfl
theorem wQ{a b:Int}(h:a=b/\ -9223372036854775808<=b/\b<9223372036854775808):IntKind.i64.wrap a=b:=by
 obtain⟨rfl,h1,h2⟩:=h;simp[IntKind.wrap,IntKind.bits,IntKind.signed];omega
theorem wS1(i:Nat)(h:i<9223372036854775807):IntKind.i64.wrap ((i:Int)+1)=((i+1:Nat):Int):=wQ (by omega)
theorem w64{a:Int}(h1: -9223372036854775808<=a)(h2:a<9223372036854775808):IntKind.i64.wrap a=a:=by
 simp[IntKind.wrap,IntKind.bits,IntKind.signed];omega
def zat(z:Int)(a:AV):Prop:= ∃l c,zck l/\l.length<=1100/\val l=z.natAbs/\a= .agg [.bool (decide (z<0)),.vec (u32s l) l.length c]
theorem qhb{n0 fr n sz bytes:Nat}{H:Heap}{cs ds:List AV}{c c':Option Nat}:zcd n0 fr H sz bytes (.vec cs n c) (.vec ds 0 c')=some (.vec cs n c,[],[]):=by
 simp[zcd,lenA,zdz,need]
theorem qhc{n0 fr m sz bytes:Nat}{H:Heap}{ds:List AV}{c':Option Nat}(hm:0<m)(hl:m*sz<=ds.length)(h1:4*m*bytes<=281474976710656)(h2:m<4611686018427387904):
  zcd n0 fr H sz bytes (.vec [] 0 (some 0)) (.vec ds m c')=some (.sl fr 0 m sz none,[(fr,some (ds.take (m*sz)))],[]):=by
 have e1:m≠0:=by omega
 have e2:4*(0+m)*bytes<=2^48:=by rw[qO];exact h1
 have e3:0+m<2^62:=by rw[qO];exact h2
 simp only[zcd,lenA,zdz,need,xC,qD,hl,and_self,if_true,e1,if_false,zS,yA,e2,e3,List.take_nil,yP,true_and];simp only[qO]
theorem zuf{H:Heap}{id n:Nat}{c:Option Nat}{l:List Nat}(hb:getB H id=some (u32s l))(hn:n=l.length):AL.Fin 0 (.sl id 0 n 1 c) H (.vec (u32s l) n c) []:=by
 refine .freeze 2 _ _ _ ?_ (by intro i cs h;omega);have e:=qdi l 0 0 H;rw[frzI];simp only[qT,if_false,hb,need,qO,xV,hn,zbk,qD,if_true,qM];rw[qU (by rw[zbk];omega),e];rfl
theorem znr(l:List Nat)(c:Option Nat)(hl:l.length<16777216):∃c',Rt 47 [.vec (u32s l) l.length c] [] (.vec (u32s (zbd l)) (zbd l).length c') []:=by
 have key:∀{E:Env} {Q:Post},E 0= .vec (u32s l) l.length c->E 3= .int .i64 (l.length:Nat)->(∀E',E' 0= .vec (u32s l) l.length c->E' 3= .int .i64 (zhh l l.length:Nat)->Q (.exit 0) E' [])->Wg 0 22 (.loop l47_0) E [] Q:=by
  intro E Q h0 h3 hQ;refine zax (λk E H=>k<=l.length/\zhh l k=zhh l l.length/\E 0= .vec (u32s l) l.length c/\E 3= .int .i64 (k:Nat)/\H=[]) (n:=l.length) ⟨by omega,rfl,h0,h3,rfl⟩ ?_;rintro k E H ⟨hk,ht,h0,h3,rfl⟩;refine wM ?_;cases k with
  |zero=>
   simp only[l47_0,r47_2,SS,fC,reduceCtorEq,reduceIte,qX,h3,Int.natCast_zero,show decide ((0:Int)<0)=false from rfl];refine hQ _ ?_ ?_<;>simp only[UU,qX, *];rw[<-ht];rfl
  |succ k=>
   have g:=zcp l k (by omega) AV.junk;have w1:IntKind.i64.wrap (((k+1:Nat):Int)-1)=(k:Nat):=wQ (by omega);have d1:decide ((0:Int)<((k+1:Nat):Int))=true:=dT;simp only[l47_0,r47_2,r47_3,SS,fC,reduceCtorEq,reduceIte,qX,h0,h3,d1,w1,g,qV,zbk];refine⟨⟨by omega,by omega⟩,by omega,λhz=>?_,λhz=>?_⟩
   ·have hz:l.getD k 0=0:=by omega
    refine⟨k,_,_,by omega,⟨by omega,?_,?_,?_,rfl⟩,.refl⟩
    ·rw[<-ht,zhh,if_pos hz]
    ·simp only[UU,qX, *]
    ·simp only[UU,qX,reduceIte, *]
   ·have hz:l.getD k 0≠0:=by omega
    refine hQ _ ?_ ?_
    ·simp only[UU,qX, *]
    ·simp only[UU,qX, *];rw[<-ht,zhh,if_neg hz]
 have hle:=zjg l l.length
 have hsl:((u32s l).drop (0*1)).take ((zhh l l.length-0)*1)=u32s (zbd l):=by
  simp only[qM,xV,Nat.sub_zero,zxc];rfl
 rcases Nat.eq_zero_or_pos (zhh l l.length)with h0 | h0
 ·have e:zbd l=[]:=by unfold zbd;rw[h0];rfl
  refine⟨some 0,?_⟩;refine oF o47 ?_;simp only[c47,r47_0,r47_1,SS,reduceCtorEq,reduceIte,qX];refine key (by simp only[UU,qX, *]) (by simp only[UU,qX,reduceIte, *]) (λE' h0' h3'=>?_);simp only[r47_4,SS,reduceCtorEq,reduceIte,qX,h0',h3',qV,zbk];refine⟨by omega,⟨by omega,by omega,by omega⟩,?_⟩;rw[e,h0,Nat.zero_sub,qhb];exact⟨.inl trivial,_,rfl,.drop _ _ rfl (by intro i cs h;omega)⟩
 ·have hlen:=zih l;refine⟨none,?_⟩;refine oF o47 ?_;simp only[c47,r47_0,r47_1,SS,reduceCtorEq,reduceIte,qX];refine key (by simp only[UU,qX, *]) (by simp only[UU,qX,reduceIte, *]) (λE' h0' h3'=>?_);simp only[r47_4,SS,reduceCtorEq,reduceIte,qX,h0',h3',qV,zbk];refine⟨by omega,⟨by omega,by omega,by omega⟩,?_⟩;rw[Nat.sub_zero,zxc,qhc h0 (by rw[zbk,xV];exact Nat.le_of_eq hlen.symm) (by omega) (by omega)];refine⟨.inl trivial,_,rfl,?_⟩
  have e1:(u32s (l.take (zhh l l.length))).take (zhh l l.length*1)=u32s (zbd l):=by
   rw[xV,qU (by rw[zbk];exact Nat.le_of_eq hlen)];rfl
  rw[e1,<-hlen];exact zuf rfl rfl
def sgnZ(s:Bool)(n:Nat):Int:=if s then -(n:Int)else n
theorem zug(s:Bool)(n:Nat):(sgnZ s n).natAbs=n:=by unfold sgnZ;split<;>omega
theorem zqh(s:Bool)(l:List Nat)(c:Option Nat)(hd:Dig l)(hl:l.length<1048576)(hfit:val l<BIG):∃v,zat (sgnZ s (val l)) v/\Rt 99 [.bool s,.vec (u32s l) l.length c] [] v []:=by
 obtain⟨c',ht⟩:=znr l c (by omega);have hlen:(zbd l).length<=l.length:=by rw[zih];exact zjg _ _
 have hneg:decide (sgnZ s (val l)<0)=(if s=true then decide ((0:Int)<((zbd l).length:Nat))else false):=by
  cases s
  ·simp[sgnZ]
  ·have h1:=qck (zbj hd);rw[zco]at h1;simp only[sgnZ,if_true];by_cases h0:zbd l=[]
   ·rw[h0]at h1 ⊢;have:val l=0:=h1.2 rfl;simp[this]
   ·have:val l≠0:=λe=>h0 (h1.1 e)
    have:0<(zbd l).length:=List.length_pos_iff.2 h0;rw[dT,dT]
 refine⟨_,⟨zbd l,c',zbj hd,canon_len (zbj hd) (by rw[zco];exact hfit),by rw[zco,zug],rfl⟩,?_⟩;rw[hneg];refine oF o99 ?_;simp only[c99,r99_0,r99_1,SS,reduceCtorEq,reduceIte,qX];refine zaa ht ?_;cases s
 ·simp only[r99_2,SS,fC,reduceCtorEq,reduceIte,qK,qX,qJ];exact dR
 ·simp only[r99_2,SS,fC,reduceCtorEq,reduceIte,qK,qX,qJ];exact dR
theorem zse{z:Int}{a:AV}(h:zat z a):∃v,zat z v/\Rt 87 [a] [] v []:=by
 obtain⟨l,c,hc,hl,hv,rfl⟩:=h;obtain⟨v,hv1,hr⟩:=zqh (decide (z<0)) l c hc.1 (by omega) (zfn hc.1 hl)
 have e:sgnZ (decide (z<0)) (val l)=z:=by
  rw[hv];unfold sgnZ;simp only[decide_eq_true_eq];split<;>omega
 rw[e]at hv1;obtain⟨l',c',_,_,_,rfl⟩:=hv1;refine⟨_,⟨l',c',by assumption,by assumption,by assumption,rfl⟩,?_⟩;refine oF o87 ?_;simp only[c87,r87_0,r87_1,SS,fC,reduceCtorEq,reduceIte,qK,qX,qJ];refine zaa hr ?_;simp only[SS,reduceIte,qK,qX,qJ];exact dR
theorem zNeg{z:Int}{a:AV}(h:zat z a):∃v,zat (-z) v/\Rt 54 [a] [] v []:=by
 obtain⟨l,c,hc,hl,hv,rfl⟩:=h;obtain⟨v,hv1,hr⟩:=zqh (!decide (z<0)) l c hc.1 (by omega) (zfn hc.1 hl)
 have e:sgnZ (!decide (z<0)) (val l)= -z:=by
  rw[hv];unfold sgnZ;simp only[Bool.not_eq_true',decide_eq_false_iff_not];split<;>omega
 rw[e]at hv1;obtain⟨l',c',_,_,_,rfl⟩:=hv1;refine⟨_,⟨l',c',by assumption,by assumption,by assumption,rfl⟩,?_⟩;refine oF o54 ?_;simp only[c54,r54_0,r54_1,SS,fC,reduceCtorEq,reduceIte,qK,qX,qJ];refine zaa hr ?_;simp only[SS,reduceIte,qK,qX,qJ];exact dR
theorem zAbs{z:Int}{a:AV}(h:zat z a):∃v,zat (z.natAbs:Int) v/\Rt 147 [a] [] v []:=by
 obtain⟨l,c,hc,hl,hv,rfl⟩:=h;obtain⟨v,hv1,hr⟩:=zqh false l c hc.1 (by omega) (zfn hc.1 hl);have e:sgnZ false (val l)=(z.natAbs:Int):=by rw[hv];rfl
 rw[e]at hv1;obtain⟨l',c',_,_,_,rfl⟩:=hv1;refine⟨_,⟨l',c',by assumption,by assumption,by assumption,rfl⟩,?_⟩;refine oF o147 ?_;simp only[c147,r147_0,r147_1,SS,fC,reduceCtorEq,reduceIte,qK,qX,qJ];refine zaa hr ?_;simp only[SS,reduceIte,qK,qX,qJ];exact dR
theorem zxd{z:Int}{a:AV}(h:zat z a):Rt 50 [a] [] (.int .i64 z.sign) []:=by
 obtain⟨l,c,hc,hl,hv,rfl⟩:=h;obtain⟨c',ht⟩:=znr l c (by omega);have h1:=qck (zbj hc.1);rw[zco,hv]at h1;refine oF o50 ?_;simp only[c50,r50_0,r50_1,SS,fC,reduceCtorEq,reduceIte,qK,qX,qJ];refine zaa ht ?_;simp only[SS,reduceIte,qX];refine⟨λh0=>?_,λh0=>?_⟩
 ·have:z=0:=by
   have:=h1.2 (List.length_eq_zero_iff.1 (by omega));omega
  subst this;simp only[r50_2,SS];exact dR
 ·have:z≠0:=by
   intro e;have:=h1.1 (by omega);rw[this]at h0;simp at h0
  simp only[r50_3,SS,fC,reduceIte,qK,qX,qJ];refine⟨λh2=>?_,λh2=>?_⟩
  ·rw[xA h2];simp only[r50_4,SS];exact dR
  ·rw[xM (by omega)];simp only[r50_5,SS];exact dR
theorem wu32(x:Nat):IntKind.u32.wrap (x:Int)=((x%4294967296:Nat):Int):=by
 simp[IntKind.wrap,IntKind.bits,IntKind.signed]
theorem wu64(x:Nat):IntKind.u64.wrap (x:Int)=((x%18446744073709551616:Nat):Int):=by
 simp[IntKind.wrap,IntKind.bits,IntKind.signed]
theorem zhm{x:Nat}(h:x<18446744073709551616):IntKind.u64.wrap (x:Int)=(x:Int):=by
 rw[wu64,xP h]
theorem qoc{x:Nat}(h:x<4294967296):IntKind.u32.wrap (x:Int)=(x:Int):=by
 rw[wu32,xP h]
theorem xbn(x:Nat):Int.fdiv (x:Int) (2^min (Int.toNat 32) IntKind.u64.bits)=((x/4294967296:Nat):Int):=by
 show Int.fdiv (x:Int) 4294967296=_
 rw[yT _ (by decide)];omega
theorem qwu(s:Bool)(u:Nat)(hu:u<18446744073709551616):∃v,zat (sgnZ s u) v/\Rt 96 [.bool s,.int .u64 u] [] v []:=by
 have hd:Dig [u%4294967296,u/4294967296]:=Dig.cons (zX _ (by decide)) (Dig.cons (by omega) Dig.nil);have e:val [u%4294967296,u/4294967296]=u:=by simp only[Limb.val];omega
 obtain⟨v,hv,hr⟩:=zqh s [u%4294967296,u/4294967296] (some 2) hd (by simp) (by rw[e];exact zmr (by omega));rw[e]at hv;obtain⟨l',c',_,_,_,rfl⟩:=hv;refine⟨_,⟨l',c',by assumption,by assumption,by assumption,rfl⟩,?_⟩;refine oF o96 ?_;simp only[c96,r96_0,r96_1,SS,reduceCtorEq,reduceIte,qK,qX,qJ,xbn,wu32,qoc (show u/4294967296<4294967296 by omega)];refine⟨by omega,?_⟩;refine zpg (id:=1) (cs:=u32s [u%4294967296,u/4294967296]) (d:=2) (args0:=[.bool s,.sl 0 0 2 1 (some 2)]) hr ?_ ?_ ?_ ?_
 ·rfl
 ·rfl
 ·rfl
 simp only[zcy,zaf,xX,xB,SS,reduceIte,qK,qX,qJ];exact dR
theorem zgv(n:Int)(h1: -9223372036854775808<=n)(h2:n<9223372036854775808):∃v,zat n v/\Rt 49 [.int .i64 n] [] v []:=by
 by_cases hn:n<0
 ·obtain⟨k,hk⟩:∃k:Nat,n= -(k:Int):=⟨n.natAbs,by omega⟩
  subst hk;obtain⟨v,hv,hr⟩:=qwu true k (by omega);have e:sgnZ true k= -(k:Int):=rfl;rw[e]at hv;obtain⟨l',c',_,_,_,rfl⟩:=hv;refine⟨_,⟨l',c',by assumption,by assumption,by assumption,rfl⟩,?_⟩
  have w1:IntKind.u64.wrap (-(k:Int))=((18446744073709551616-k:Nat):Int):=by
   simp[IntKind.wrap,IntKind.bits,IntKind.signed];omega
  have w2:IntKind.u64.wrap (0-((18446744073709551616-k:Nat):Int))=(k:Nat):=by
   simp[IntKind.wrap,IntKind.bits,IntKind.signed];omega
  refine oF o49 ?_;simp only[c49,r49_0,r49_1,SS,reduceCtorEq,reduceIte,qX];refine⟨λ_=>?_,λh=>absurd hn h⟩;simp only[r49_2,SS,reduceCtorEq,reduceIte,qX,w1,w2];refine zaa hr ?_;simp only[SS,reduceIte,qK,qX,qJ];exact dR
 ·obtain⟨k,rfl⟩:∃k:Nat,n=(k:Int):=⟨n.toNat,by omega⟩
  obtain⟨v,hv,hr⟩:=qwu false k (by omega);have e:sgnZ false k=(k:Int):=rfl;rw[e]at hv;obtain⟨l',c',_,_,_,rfl⟩:=hv;refine⟨_,⟨l',c',by assumption,by assumption,by assumption,rfl⟩,?_⟩;refine oF o49 ?_;simp only[c49,r49_0,r49_1,SS,reduceCtorEq,reduceIte,qX];refine⟨λh=>absurd h hn,λ_=>?_⟩;simp only[r49_3,SS,reduceCtorEq,reduceIte,qX,zhm (show k<18446744073709551616 by omega)];refine zaa hr ?_;simp only[SS,reduceIte,qK,qX,qJ];exact dR
theorem zcmp(m n:List Nat)(c d:Option Nat)(hm:m.length<16777216)(hn:n.length<16777216):Rt 144 [.vec (u32s m) m.length c,.vec (u32s n) n.length d] [] (.int .i64 (cmpL m n)) []:=by
 refine oF o144 ?_;simp only[c144,r144_0,r144_1,SS,reduceCtorEq,reduceIte,qX,ne_eq,Int.ofNat_inj];refine⟨λh=>?_,λh=>?_⟩
 ·simp only[r144_2,SS,reduceCtorEq,reduceIte,qX];refine⟨λh2=>?_,λh2=>?_⟩
  ·have e:cmpL m n= -1:=by unfold cmpL;rw[if_neg h,if_pos (by omega)]
   rw[e];simp only[r144_3,SS];exact dR
  ·have e:cmpL m n=1:=by unfold cmpL;rw[if_neg h,if_neg (by omega)]
   rw[e];simp only[r144_4,SS];exact dR
 ·have h:m.length=n.length:=by simpa using h
  have e:cmpL m n=cmpN m n m.length:=by unfold cmpL;rw[if_pos h]
  rw[e];simp only[r144_5,SS,reduceCtorEq,reduceIte,qX];refine zax (λk E H=>k<=m.length/\cmpN m n k=cmpN m n m.length/\E 0= .vec (u32s m) m.length c/\E 1= .vec (u32s n) n.length d/\E 5= .int .i64 ((k:Int)-1)/\H=[]) (n:=m.length) ⟨by omega,rfl,?_,?_,?_,rfl⟩ ?_
  ·rfl
  ·rfl
  ·simp only[UU,qX,reduceIte];rw[w64 (by omega) (by omega)]
  rintro k E H ⟨hk,ht,h0,h1,h5,rfl⟩;refine wM ?_;simp only[l144_0,r144_6,SS,reduceCtorEq,reduceIte,qX,h5];refine⟨λhge=>?_,λhlt=>?_⟩
  ·obtain⟨k,rfl⟩:∃j,k=j+1:=⟨k-1,by omega⟩
   have e5:((k+1:Nat):Int)-1=(k:Nat):=by omega
   rw[e5]at h5;have g1:=zcp m k (by omega) AV.junk;have g2:=zcp n k (by omega) AV.junk;simp only[cmpN]at ht;simp only[r144_7,SS,fC,reduceCtorEq,reduceIte,qX,e5,h0,h1,h5,qV,g1,g2,zbk];refine⟨⟨by omega,by omega⟩,by omega,⟨by omega,by omega⟩,by omega,rfl,λhne=>?_,λheq=>?_⟩
   ·have hne:m.getD k 0≠n.getD k 0:=by omega
    rw[if_neg hne]at ht;simp only[r144_8,SS,fC,reduceCtorEq,reduceIte,qX,h0,h1,h5,qV,g1,g2,zbk];refine⟨⟨by omega,by omega⟩,by omega,⟨by omega,by omega⟩,by omega,rfl,λhl=>?_,λhl=>?_⟩
    ·rw[if_pos (by omega)]at ht;rw[<-ht];simp only[r144_9,SS];exact dR
    ·rw[if_neg (by omega)]at ht;rw[<-ht];simp only[r144_10,SS];exact dR
   ·have heq:m.getD k 0=n.getD k 0:=by omega
    rw[if_pos heq]at ht;simp only[r144_11,SS,reduceIte,qX,h5];refine⟨k,_,_,by omega,⟨by omega,ht,?_,?_,?_,rfl⟩,.refl⟩
    ·simp only[UU,qX, *]
    ·simp only[UU,qX, *]
    ·simp only[UU,qX,reduceIte];rw[w64 (by omega) (by omega)]
  ·have hk0:k=0:=by omega
   subst hk0;rw[<-ht];simp only[r144_12,SS];exact dR
theorem zCmp{x y:Int}{a b:AV}(ha:zat x a)(hb:zat y b):Rt 77 [a,b] [] (.int .i64 (if x<y then -1 else if x=y then 0 else 1)) []:=by
 have s1:=zxd ha;have s2:=zxd hb;obtain⟨l,c,hc,hl,hv,rfl⟩:=ha;obtain⟨r,d,hd,hlr,hw,rfl⟩:=hb;obtain⟨c1,t1⟩:=znr l c (by omega);obtain⟨c2,t2⟩:=znr r d (by omega);have l1:(zbd l).length<=l.length:=by rw[zih];exact zjg _ _
 have l2:(zbd r).length<=r.length:=by rw[zih];exact zjg _ _
 have t3:=zcmp (zbd l) (zbd r) c1 c2 (by omega) (by omega);rw[zii (zbj hc.1) (zbj hd.1),zco,zco,hv,hw]at t3;refine oF o77 ?_;simp only[c77,r77_0,r77_1,SS,reduceCtorEq,reduceIte,qK,qX,qJ];refine zaa s1 ?_;simp only[SS,reduceIte,qK,qX,qJ];refine zaa s2 ?_;simp only[SS,reduceIte,qX];refine⟨rfl,?_⟩;simp only[r77_2,SS,reduceIte,qX];refine⟨λhne=>?_,λheq=>?_⟩
 ·simp only[r77_3,SS,reduceIte,qX];refine⟨λhl=>?_,λhl=>?_⟩
  ·rw[if_pos (by
    rcases qS x 0 with h | h | h<;>rcases qS y 0 with h' | h' | h'<;>
     simp[xA,xM,h,h']at hl<;>omega)]
   simp only[r77_4,SS];exact dR
  ·rw[if_neg (by
    rcases qS x 0 with h | h | h<;>rcases qS y 0 with h' | h' | h'<;>
     simp[xA,xM,h,h']at hl hne<;>omega),if_neg (by intro e;rw[e]at hne;exact hne rfl)]
   simp only[r77_5,SS];exact dR
 ·have heq:x.sign=y.sign:=by simpa using heq
  simp only[r77_6,SS,fC,reduceIte,qK,qX,qJ];refine zaa t1 ?_;simp only[SS,fC,reduceIte,qK,qX,qJ];refine zaa t2 ?_;simp only[SS,reduceIte,qX];refine zaa t3 ?_
  have e:IntKind.i64.wrap (x.sign*sgn x.natAbs y.natAbs)=(if x<y then -1 else if x=y then 0 else 1):=by
   have e1:x.sign*sgn x.natAbs y.natAbs=(if x<y then -1 else if x=y then 0 else 1):=by
    unfold sgn
    rcases qS x 0 with h | h | h<;>rcases qS y 0 with h' | h' | h'<;>
     simp[xA,xM,h,h']at heq ⊢ <;> (repeat' split)<;>omega
   rw[e1];split
   ·rfl
   ·split<;>rfl
  simp only[SS,reduceIte,qX,e];refine⟨rfl,?_⟩;exact dR
def qai(B:Heap)(sz n:Nat)(cs:List AV)(a:AV)(H:Heap):Prop:=
 (n=0/\cs=[]/\a= .vec [] 0 (some 0)/\∃j,H=B++List.replicate j none)\/
 (0<n/\cs.length=n*sz/\∃j,a= .sl (B.length+j) 0 n sz none/\H=B++(List.replicate j none++[some cs]))
theorem zuh(j:Nat)(x:Option (List AV))(r:Heap)(hx:x=none):List.replicate j (none:Option (List AV))++x::r=List.replicate (j+1) none++r:=by
 subst hx;rw[zB,xT];rfl
theorem zqi{B:Heap}{sz n bytes:Nat}{cs xs:List AV}{a:AV}{H:Heap}(h:qai B sz n cs a H)(hx:xs.length=sz)(hs:AV.scalL xs=true)(hb:4*(n+1)*bytes<=281474976710656)(hn:n+1<4611686018427387904):
  ∃e rd H4 H5,(∀n0,zcd n0 (H.length+1) (H++[some xs]) sz bytes a (.sl H.length 0 1 sz (some 1))=some (.sl (H.length+1) 0 (n+1) sz none,e,rd))/\zaf e (H++[some xs]++[none])=H4/\getB H4 (H.length+1)=some (cs++xs)/\
   (∀(Γ:Glob) (n0:Nat) (E:Env),n0<=B.length->Weak Γ n0 E H4 E H5)/\qai B sz (n+1) (cs++xs) (.sl (H.length+1) 0 (n+1) sz none) H5:=by
 have hg:getB (H++[some xs]) H.length=some xs:=by
  simp[getB]
 have b1:4*(n+1)*bytes<=2^48:=hb;have b2:n+1<2^62:=hn;have hxs:(xs.drop 0).take (1*sz)=xs:=by rw[qM,yB,qU (by omega)]
 have hel:zdz (H++[some xs]) sz 1 (.sl H.length 0 1 sz (some 1))=some (xs,[H.length]):=by
  simp only[zdz,hg,need,qD,qO,yB,hx,and_self,if_true];rw[qM,qU (by omega)]
 rcases h with⟨rfl,rfl,rfl,j,rfl⟩ | ⟨h0,hl,j,rfl,rfl⟩
 ·refine⟨[((B++List.replicate j none).length+1,some xs)],[(B++List.replicate j none).length],_,B++(List.replicate (j+1) none++[some xs]),λn0=>?_,rfl,?_,λΓ n0 E hn0=>?_,?_⟩
  ·simp only[zcd,lenA,xC,hel];have b1':4*(0+1)*bytes<=2^48:=hb;simp only[need,yW,if_false,zS,yA,b1',b2,and_self,if_true,List.take_zero,yP]
  ·simp only[zaf];have:B++List.replicate j none++[some xs]++[none]=(B++List.replicate j none)++[some xs,none]:=by simp
   rw[this,qA _ _ (by omega),xY];unfold getB;rw[qB (by omega),xY];rfl
  ·have e1:zaf [((B++List.replicate j none).length+1,some xs)] (B++List.replicate j none++[some xs]++[none])=(B++List.replicate j none)++[some xs,some xs]:=by
    simp only[zaf];have:B++List.replicate j none++[some xs]++[none]=(B++List.replicate j none)++[some xs,none]:=by simp
    rw[this,qA _ _ (by omega),xY];rfl
   rw[e1]
   have e2:B++(List.replicate (j+1) none++[some xs])=(B++List.replicate j none)++[none,some xs]:=by
    rw[<-zuh j none _ rfl];simp
   rw[e2];refine zwf (by simp) (λi=>?_);rcases xW i (B++List.replicate j (none:Option (List AV))).length with hi | hi
   ·left;rw[qE hi,qE hi]
   ·rw[qB hi,qB hi];have:n0<=i:=by simp at hi;omega
    generalize i-(B++List.replicate j (none:Option (List AV))).length=k
    match k with
    |0=>exact .inr ⟨this,rfl⟩
    |k+1=>exact .inl rfl
  ·refine .inr ⟨by omega,by simp;omega,j+1,?_,rfl⟩;simp[zM]
 ·have hj:getB (B++(List.replicate j none++[some cs])++[some xs]) (B.length+j)=some cs:=by
   have:B++(List.replicate j none++[some cs])++[some xs]=(B++List.replicate j none)++(some cs::[some xs]):=by simp
   rw[this];simp[getB]
  have hlen:(B++(List.replicate j none++[some cs])).length=B.length+j+1:=by simp;omega
  refine⟨[(B.length+j,none),(B.length+j+1+1,some (cs++xs))],[B.length+j,B.length+j+1],_,B++(List.replicate (j+2) none++[some (cs++xs)]),λn0=>?_,rfl,?_,λΓ n0 E hn0=>?_,?_⟩
  ·simp only[zcd,lenA,xC,hel,hj];have e1:¬((none:Option Nat)=some n):=by simp
   have e2:B.length+j≠B.length+j+1+1:=by omega
   rw[hlen];simp only[need,yW,if_false,hl,qD,b1,b2,and_self,if_true,e1,yA,hs,e2,ne_eq,not_false_eq_true];rw[qU (by omega)]
  ·simp only[zaf];have:B++(List.replicate j none++[some cs])++[some xs]++[none]=(B++List.replicate j none)++[some cs,some xs,none]:=by simp
   rw[this,hlen,qA _ _ (by simp),qA _ _ (by simp;omega)];have k1:B.length+j-(B++List.replicate j (none:Option (List AV))).length=0:=by simp
   have k2:B.length+j+1+1-(B++List.replicate j (none:Option (List AV))).length=2:=by simp;omega
   rw[k1,k2];unfold getB;rw[qB (by simp;omega),k2];rfl
  ·have e1:zaf [(B.length+j,none),(B.length+j+1+1,some (cs++xs))] (B++(List.replicate j none++[some cs])++[some xs]++[none])=(B++List.replicate j none)++[none,some xs,some (cs++xs)]:=by
    simp only[zaf];have:B++(List.replicate j none++[some cs])++[some xs]++[none]=(B++List.replicate j none)++[some cs,some xs,none]:=by simp
    rw[this,qA _ _ (by simp),qA _ _ (by simp;omega)];have k1:B.length+j-(B++List.replicate j (none:Option (List AV))).length=0:=by simp
    have k2:B.length+j+1+1-(B++List.replicate j (none:Option (List AV))).length=2:=by simp;omega
    rw[k1,k2];rfl
   rw[e1]
   have e2:B++(List.replicate (j+2) none++[some (cs++xs)])=(B++List.replicate j none)++[none,none,some (cs++xs)]:=by
    rw[<-zuh (j+1) none _ rfl,<-zuh j none _ rfl];simp
   rw[e2];refine zwf (by simp) (λi=>?_);rcases xW i (B++List.replicate j (none:Option (List AV))).length with hi | hi
   ·left;rw[qE hi,qE hi]
   ·rw[qB hi,qB hi];have:n0<=i:=by simp at hi;omega
    generalize i-(B++List.replicate j (none:Option (List AV))).length=k
    match k with
    |0=>exact .inl rfl
    |1=>exact .inr ⟨this,rfl⟩
    |k+2=>exact .inl rfl
  ·refine .inr ⟨by omega,by rw[xD,hl,hx,jZ,yB],j+2,?_,rfl⟩;rw[hlen];rfl
theorem qaj{l:List Nat}{i:Nat}(h:l.length<=i):l.getD i 0=0:=by
 rw[qZ,xS h];rfl
theorem zdn{α:Type}(H:List α)(x:α):(H++[x]).length=H.length+1:=by simp
theorem qwv{x y:Nat}(hx:x<4294967296)(hy:y<=4294967296):IntKind.u32.wrap (IntKind.u64.wrap ((x:Int)-(y:Int)))=(((x+8589934592-y)%4294967296:Nat):Int):=by
 simp[IntKind.wrap,IntKind.bits,IntKind.signed];omega
theorem zsum(m n:List Nat)(c d:Option Nat)(hm:m.length<1048576)(hn:n.length<1048576)(dm:Dig m)(dn:Dig n):
  ∃c',Rt 169 [.vec (u32s m) m.length c,.vec (u32s n) n.length d] [] (.vec (u32s (sumL m n (max m.length n.length) 0 0 [])) (sumL m n (max m.length n.length) 0 0 []).length c') []:=by
 refine⟨none,?_⟩;refine oF o169 ?_;generalize hfin:sumL m n (max m.length n.length) 0 0 []=fin;simp only[c169,r169_0,r169_1,r169_2,r169_3,SS,reduceCtorEq]
 refine zax (λk E H=>∃i cy out a,k+i=max m.length n.length/\out.length=i/\cy<=1/\sumL m n k i cy out=fin/\E 0= .vec (u32s m) m.length c/\E 1= .vec (u32s n) n.length d/\
  E 5=a/\E 6= .int .u64 (cy:Nat)/\E 7= .int .i64 (i:Nat)/\qai [] 1 i (u32s out) a H) (n:=max m.length n.length) ⟨0,0,[],_,by omega,rfl,by omega,hfin,?_,?_,rfl,?_,?_,.inl ⟨rfl,rfl,?_,0,rfl⟩⟩ ?_
 ·rfl
 ·rfl
 ·rfl
 ·rfl
 ·rfl
 rintro k E H ⟨i,cy,out,a,hki,hol,hcy,hf,h0,h1,h5,h6,h7,hO⟩;have hx:∃t,decide ((i:Int)<(m.length:Nat))=t:=⟨_,rfl⟩
 have bm:=dm.getD i;have bn:=dn.getD i;cases k with
 |zero=>
  refine wM ?_;have d1:decide ((i:Int)<(m.length:Nat))=false:=dF;have d2:decide ((i:Int)<(n.length:Nat))=false:=dF;simp only[l169_0,r169_4,SS,fC,reduceCtorEq,reduceIte,qX,h0,h1,h7,d1,d2];simp only[sumL]at hf;obtain⟨e,rd,H4,H5,hap,hH4,hg,hw,hO'⟩:=zqi (bytes:=4) (xs:=[.int .u32 ((cy%4294967296:Nat):Int)]) hO rfl rfl (by omega) (by omega);simp only[r169_12,SS,reduceIte,qX,qJ,h5,h6,wu32,zdn,hap];refine⟨.inl trivial,_,rfl,?_⟩;have e1:u32s out++[.int .u32 ((cy%4294967296:Nat):Int)]=u32s fin:=by rw[<-hf];simp[u32s]
  rw[e1]at hg;have hfl:fin.length=i+1:=by rw[<-hf];simp[hol]
  rw[hfl];refine zuf ?_ hfl.symm;rw[hH4];exact hg
 |succ k=>
  have step9:∀E':Env,E' 0= .vec (u32s m) m.length c->E' 1= .vec (u32s n) n.length d->E' 5=a->E' 6= .int .u64 ((cy+m.getD i 0+n.getD i 0:Nat):Int)->E' 7= .int .i64 (i:Nat)->
    Wg 0 54 (.seq (.reg r169_9 none) (.reg r169_10 none)) E' H (λx E'' H''=>x= .normal/\E'' 0= .vec (u32s m) m.length c/\E'' 1= .vec (u32s n) n.length d/\E'' 7= .int .i64 (i:Nat)/\E'' 6= .int .u64 (((cy+m.getD i 0+n.getD i 0)/4294967296:Nat):Int)/\
     ∃H5,(∀E3,Weak G 0 E3 H'' E3 H5)/\qai [] 1 (i+1) (u32s (out++[(cy+m.getD i 0+n.getD i 0)%4294967296])) (E'' 5) H5):=by
   intro E' g0 g1 g5 g6 g7;obtain⟨e,rd,H4,H5,hap,hH4,hg,hw,hO'⟩:=zqi (bytes:=4) (xs:=[.int .u32 (((cy+m.getD i 0+n.getD i 0)%4294967296:Nat):Int)]) hO rfl rfl (by omega) (by omega);refine wM ?_;simp only[r169_9,SS,reduceIte,qX,qJ,g5,g6,wu32,zdn,hap];simp only[r169_10,SS,reduceCtorEq,reduceIte,qX,xbn,g0,g1,g7,g6];refine⟨by omega,?_⟩;rw[hH4];refine⟨H5,λE3=>hw _ _ _ (by simp),?_⟩;have e1:u32s out++[.int .u32 (((cy+m.getD i 0+n.getD i 0)%4294967296:Nat):Int)]=u32s (out++[(cy+m.getD i 0+n.getD i 0)%4294967296]):=by simp[u32s]
   rw[e1]at hO';exact hO'
  have st1:∀E':Env,E' 0= .vec (u32s m) m.length c->E' 1= .vec (u32s n) n.length d->E' 5=a->E' 6= .int .u64 (cy:Nat)->E' 7= .int .i64 (i:Nat)->
    Wg 0 54 (.seq (.reg r169_5 none) (.cond (.t 23) (.reg r169_6 none) .skip)) E' H (λx E'' H''=>x= .normal/\H''=H/\E'' 0= .vec (u32s m) m.length c/\E'' 1= .vec (u32s n) n.length d/\E'' 5=a/\E'' 6= .int .u64 ((cy+m.getD i 0:Nat):Int)/\E'' 7= .int .i64 (i:Nat)):=by
   intro E' g0 g1 g5 g6 g7;refine wM ?_;simp only[r169_5,SS,reduceCtorEq,reduceIte,qX,g0,g7];refine⟨λhl=>?_,λhl=>?_⟩
   ·have g:=zcp m i (by omega) AV.junk;have w1:IntKind.u64.wrap ((cy:Int)+((m.getD i 0:Nat):Int))=((cy+m.getD i 0:Nat):Int):=by rw[<-xH];exact zhm (by omega)
    simp only[r169_6,SS,fC,reduceCtorEq,reduceIte,qX,g0,g1,g5,g6,g7,qV,g,zbk,zhm (show m.getD i 0<18446744073709551616 by omega),w1];exact⟨⟨by omega,hl⟩,by omega⟩
   ·simp only[g1,g5,g6,qaj (show m.length<=i by omega),yQ,and_self]
  have st2:∀E':Env,E' 0= .vec (u32s m) m.length c->E' 1= .vec (u32s n) n.length d->E' 5=a->E' 6= .int .u64 ((cy+m.getD i 0:Nat):Int)->E' 7= .int .i64 (i:Nat)->
    Wg 0 54 (.seq (.reg r169_7 none) (.cond (.t 34) (.reg r169_8 none) .skip)) E' H (λx E'' H''=>x= .normal/\H''=H/\E'' 0= .vec (u32s m) m.length c/\E'' 1= .vec (u32s n) n.length d/\E'' 5=a/\E'' 6= .int .u64 ((cy+m.getD i 0+n.getD i 0:Nat):Int)/\E'' 7= .int .i64 (i:Nat)):=by
   intro E' g0 g1 g5 g6 g7;refine wM ?_;simp only[r169_7,SS,reduceCtorEq,reduceIte,qX,g1,g7];refine⟨λhl=>?_,λhl=>?_⟩
   ·have g:=zcp n i (by omega) AV.junk;have w1:IntKind.u64.wrap (((cy+m.getD i 0:Nat):Int)+((n.getD i 0:Nat):Int))=((cy+m.getD i 0+n.getD i 0:Nat):Int):=by rw[<-xH];exact zhm (by omega)
    simp only[r169_8,SS,fC,reduceCtorEq,reduceIte,qX,g0,g1,g5,g6,g7,qV,g,zbk,zhm (show n.getD i 0<18446744073709551616 by omega),w1];exact⟨⟨by omega,hl⟩,by omega⟩
   ·simp only[g0,g5,g6,qaj (show n.length<=i by omega),yQ,and_self]
  have hor:(if decide ((i:Int)<(m.length:Nat))=true then AV.bool true else AV.bool (decide ((i:Int)<(n.length:Nat))))= .bool true:=by
   by_cases h:(i:Int)<(m.length:Nat)
   ·rw[if_pos (decide_eq_true h)]
   ·rw[if_neg (by simp at h ⊢;exact h),dT]
  have tail:∀E':Env,E' 0= .vec (u32s m) m.length c->E' 1= .vec (u32s n) n.length d->E' 5=a->E' 6= .int .u64 (cy:Nat)->E' 7= .int .i64 (i:Nat)->
    Wg 0 54 (.seq (.block 1 (.seq (.seq (.reg r169_5 none) (.cond (.t 23) (.reg r169_6 none) .skip)) (.seq (.seq (.reg r169_7 none) (.cond (.t 34) (.reg r169_8 none) .skip)) (.seq (.reg r169_9 none) (.reg r169_10 none))))) (.reg r169_11 none)) E' H
     (λx E'' H''=>x= .normal/\E'' 0= .vec (u32s m) m.length c/\E'' 1= .vec (u32s n) n.length d/\E'' 7= .int .i64 ((i+1:Nat):Int)/\E'' 6= .int .u64 (((cy+m.getD i 0+n.getD i 0)/4294967296:Nat):Int)/\
     ∃H5,(∀E3,Weak G 0 E3 H'' E3 H5)/\qai [] 1 (i+1) (u32s (out++[(cy+m.getD i 0+n.getD i 0)%4294967296])) (E'' 5) H5):=by
   intro E' g0 g1 g5 g6 g7;refine zgr (zdk (zgr ((st1 E' g0 g1 g5 g6 g7).mono ?_)));rintro x E1 H1 ⟨rfl,rfl,a0,a1,a5,a6,a7⟩;refine zgr ((st2 E1 a0 a1 a5 a6 a7).mono ?_);rintro x E2 H2 ⟨rfl,rfl,b0,b1,b5,b6,b7⟩;refine(step9 E2 b0 b1 b5 b6 b7).mono ?_;rintro x E3 H3 ⟨rfl,c0,c1,c7,c6,H5,hw,hO'⟩;refine wM ?_;have w1:=wS1 i (by omega);simp only[r169_11,SS,reduceCtorEq,reduceIte,qX,c0,c1,c7,c6,w1];exact⟨H5,hw,hO'⟩
  simp only[l169_0];refine wW ?_;simp only[r169_4,SS,fC,reduceCtorEq,reduceIte,qX,h0,h1,h7];refine⟨λhnm=>⟨λhn=>?_,λhnn=>absurd hnn (by omega)⟩,λhm=>?_⟩
  all_goals
   refine(tail _ (by simp only[UU,qX,h0]) (by simp only[UU,qX,h1]) (by simp only[UU,qX,h5]) (by simp only[UU,qX,h6]) (by simp only[UU,qX,h7])).mono ?_;rintro x E3 H3 ⟨rfl,c0,c1,c7,c6,H5,hw,hO'⟩;refine⟨k,E3,H5,by omega,⟨i+1,_,_,_,by omega,by simp[hol],?_,hf,c0,c1,rfl,c6,c7,hO'⟩,hw E3⟩;omega
theorem zkj(m n:List Nat)(c d:Option Nat)(hm:m.length<1048576)(hn:n.length<=m.length)(dm:Dig m)(dn:Dig n):
  ∃c',Rt 170 [.vec (u32s m) m.length c,.vec (u32s n) n.length d] [] (.vec (u32s (difL m n m.length 0 0 [])) (difL m n m.length 0 0 []).length c') []:=by
 have hlen:∀k i b out,(difL m n k i b out).length=k+out.length:=by
  intro k
  induction k with
  |zero=>intro i b out;simp[difL]
  |succ k ih=>intro i b out;simp only[difL];rw[ih];simp;omega
 refine⟨if m.length=0 then some 0 else none,?_⟩;refine oF o170 ?_;generalize hfin:difL m n m.length 0 0 []=fin;have hfl:fin.length=m.length:=by rw[<-hfin,hlen];simp
 simp only[c170,r170_0,r170_1,r170_2,r170_3,SS,reduceCtorEq]
 refine zax (λk E H=>∃i b out a,k+i=m.length/\out.length=i/\b<=1/\difL m n k i b out=fin/\E 0= .vec (u32s m) m.length c/\E 1= .vec (u32s n) n.length d/\
  E 5=a/\E 6= .int .u64 (b:Nat)/\E 7= .int .i64 (i:Nat)/\qai [] 1 i (u32s out) a H) (n:=m.length) ⟨0,0,[],_,by omega,rfl,by omega,hfin,?_,?_,rfl,?_,?_,.inl ⟨rfl,rfl,?_,0,rfl⟩⟩ ?_
 ·rfl
 ·rfl
 ·rfl
 ·rfl
 ·rfl
 rintro k E H ⟨i,b,out,a,hki,hol,hb,hf,h0,h1,h5,h6,h7,hO⟩;have bm:=dm.getD i;have bn:=dn.getD i;cases k with
 |zero=>
  refine wM ?_;have d1:decide ((i:Int)<(m.length:Nat))=false:=dF;have hf:out=fin:=hf;subst hf;simp only[l170_0,r170_4,SS,fC,reduceCtorEq,reduceIte,qX,h0,h7,d1];simp only[r170_13,SS,reduceIte,qX,h5];refine⟨.inl trivial,_,rfl,?_⟩;rcases hO with⟨rfl,h9,rfl,j,rfl⟩ | ⟨hi,hl,j,rfl,rfl⟩
  ·have:m.length=0:=by omega
   have:out=[]:=List.length_eq_zero_iff.1 hol;subst this;rw[if_pos (by omega)];exact .drop _ _ rfl (by intro i cs h;omega)
  ·rw[if_neg (by omega),hol];refine zuf ?_ hol.symm;simp[getB]
 |succ k=>
  simp only[difL]at hf
  have st6:∀E':Env,E' 0= .vec (u32s m) m.length c->E' 1= .vec (u32s n) n.length d->E' 5=a->E' 8= .int .u64 (b:Nat)->E' 7= .int .i64 (i:Nat)->
    Wg 0 46 (.seq (.reg r170_6 none) (.cond (.t 19) (.reg r170_7 none) .skip)) E' H (λx E'' H''=>x= .normal/\H''=H/\E'' 0= .vec (u32s m) m.length c/\E'' 1= .vec (u32s n) n.length d/\E'' 5=a/\E'' 8= .int .u64 ((b+n.getD i 0:Nat):Int)/\E'' 7= .int .i64 (i:Nat)):=by
   intro E' g0 g1 g5 g8 g7;refine wM ?_;simp only[r170_6,SS,reduceCtorEq,reduceIte,qX,g1,g7];refine⟨λhl=>?_,λhl=>?_⟩
   ·have g:=zcp n i (by omega) AV.junk;have w1:IntKind.u64.wrap ((b:Int)+((n.getD i 0:Nat):Int))=((b+n.getD i 0:Nat):Int):=by rw[<-xH];exact zhm (by omega)
    simp only[r170_7,SS,fC,reduceCtorEq,reduceIte,qX,g0,g1,g5,g8,g7,qV,g,zbk,zhm (show n.getD i 0<18446744073709551616 by omega),w1];exact⟨⟨by omega,hl⟩,by omega⟩
   ·simp only[g0,g5,g8,qaj (show n.length<=i by omega),yQ,and_self]
  have hi:i<m.length:=by omega
  have gm:=zcp m i hi AV.junk;have wm:IntKind.u64.wrap ((m.getD i 0:Nat):Int)=((m.getD i 0:Nat):Int):=zhm (by omega)
  have wd:IntKind.u32.wrap (IntKind.u64.wrap (((m.getD i 0:Nat):Int)-((b+n.getD i 0:Nat):Int)))=(((m.getD i 0+8589934592-(b+n.getD i 0))%4294967296:Nat):Int):=by
   exact qwv (by omega) (by omega)
  obtain⟨e,rd,H4,H5,hap,hH4,hg,hw,hO'⟩:=zqi (bytes:=4) (xs:=[.int .u32 (((m.getD i 0+8589934592-(b+n.getD i 0))%4294967296:Nat):Int)]) hO rfl rfl (by omega) (by omega);have e1:u32s out++[.int .u32 (((m.getD i 0+8589934592-(b+n.getD i 0))%4294967296:Nat):Int)]=u32s (out++[(m.getD i 0+8589934592-(b+n.getD i 0))%4294967296]):=by simp[u32s]
  rw[e1]at hO';have w1:=wS1 i (by omega);simp only[l170_0];refine wW ?_;simp only[r170_4,SS,reduceCtorEq,reduceIte,qX,h0,h7];refine⟨λ_=>?_,λh=>absurd h (by omega)⟩;refine zgr (zdk (wW ?_));simp only[r170_5,SS,reduceIte,qX,h6];refine zgr ((st6 _ (by simp only[UU,qX,h0]) (by simp only[UU,qX,h1]) (by simp only[UU,qX,h5]) (by rfl) (by simp only[UU,qX,h7])).mono ?_);rintro x E2 H2 ⟨rfl,rfl,b0,b1,b5,b8,b7⟩;refine wM ?_;simp only[r170_8,SS,fC,reduceCtorEq,reduceIte,qX,qJ,b0,b5,b7,b8,qV,gm,zbk,wm,wd,zdn,hap];refine⟨⟨by omega,by omega⟩,by omega,?_⟩;simp only[r170_9,SS];simp only[r170_10,SS,fC,reduceCtorEq,reduceIte,qX,b0,b7,b8,qV,gm,zbk,wm];refine⟨⟨by omega,by omega⟩,by omega,λhlt=>?_,λhlt=>?_⟩
  ·have eb:brw (m.getD i 0) (b+n.getD i 0)=1:=by unfold brw;rw[if_pos (by omega)]
   rw[eb]at hf;simp only[r170_11,SS];refine wM ?_;simp only[r170_12,SS,reduceIte,qX,b7,w1];rw[hH4];refine⟨k,_,H5,by omega,⟨i+1,1,_,_,by omega,by simp[hol],by omega,hf,?_,?_,rfl,?_,?_,?_⟩,hw _ _ _ (by simp)⟩<;>simp only[UU,qX,reduceIte,b0,b1]
   ·rfl
   ·exact hO'
  ·have eb:brw (m.getD i 0) (b+n.getD i 0)=0:=by unfold brw;rw[if_neg (by omega)]
   rw[eb]at hf;refine wM ?_;simp only[r170_12,SS,reduceIte,qX,b7,w1];rw[hH4];refine⟨k,_,H5,by omega,⟨i+1,0,_,_,by omega,by simp[hol],by omega,hf,?_,?_,rfl,?_,?_,?_⟩,hw _ _ _ (by simp)⟩<;>simp only[UU,qX,reduceIte,b0,b1]
   ·rfl
   ·exact hO'
theorem zlo(l:List Nat):(zbd l).length<=l.length:=by rw[zih];exact zjg _ _
theorem zat.closed{z:Int}{a:AV}(h:zat z a):a.closed=true:=by
 obtain⟨l,c,_,_,_,rfl⟩:=h;rfl
theorem zat.fits{z:Int}{a:AV}(h:zat z a):z.natAbs<BIG:=by
 obtain⟨l,c,hc,hl,hv,rfl⟩:=h;rw[<-hv];exact zfn hc.1 hl
theorem zAdd{x y:Int}{a b:AV}(ha:zat x a)(hb:zat y b)(hf:(x+y).natAbs<BIG):∃v,zat (x+y) v/\Rt 98 [a,b] [] v []:=by
 obtain⟨l,c,hc,hl,hv,rfl⟩:=ha;obtain⟨r,d,hd,hlr,hw,rfl⟩:=hb;obtain⟨c1,t1⟩:=znr l c (by omega);obtain⟨c2,t2⟩:=znr r d (by omega);have l1:=zlo l;have l2:=zlo r;have k1:=zbj hc.1;have k2:=zbj hd.1;have v1:=(zco l).trans hv;have v2:=(zco r).trans hw;have t3:=zcmp (zbd l) (zbd r) c1 c2 (by omega) (by omega);rw[zii k1 k2,v1,v2]at t3;by_cases hs:decide (x<0)=decide (y<0)
 ·obtain⟨c3,t4⟩:=zsum (zbd l) (zbd r) c1 c2 (by omega) (by omega) k1.1 k2.1;obtain⟨s1,s2,s3⟩:=qld (zbd l) (zbd r) k1.1 k2.1 (max (zbd l).length (zbd r).length) 0 0 [] (by omega) rfl Dig.nil (by omega) (by omega) rfl;rw[v1,v2]at s1
  have hx:x.natAbs+y.natAbs=(x+y).natAbs:=by
   rcases qS x 0 with h | h | h<;>rcases qS y 0 with h' | h' | h'<;>simp at hs<;>omega
  obtain⟨v,hv1,t5⟩:=zqh (decide (x<0)) _ c3 s2 (by rw[s3];omega) (by rw[s1,hx];exact hf)
  have e:sgnZ (decide (x<0)) (Limb.val (sumL (zbd l) (zbd r) (max (zbd l).length (zbd r).length) 0 0 []))=x+y:=by
   rw[s1];unfold sgnZ;simp only[decide_eq_true_eq];simp at hs;split<;>omega
  rw[e]at hv1;obtain⟨l',c',_,_,_,rfl⟩:=hv1;refine⟨_,⟨l',c',by assumption,by assumption,by assumption,rfl⟩,?_⟩;refine oF o98 ?_;simp only[c98,r98_0,r98_1,SS,fC,reduceCtorEq,reduceIte,qK,qX,qJ];refine zaa t1 ?_;simp only[SS,fC,reduceIte,qK,qX,qJ];refine zaa t2 ?_;simp only[SS,reduceIte,qX];refine⟨rfl,?_⟩;simp only[r98_2,SS,fC,reduceIte,qK,qX,qJ,hs,beq_self_eq_true];simp only[r98_3,SS,fC,reduceIte,qK,qX,qJ];refine zaa t4 ?_;rw[hs]at t5;simp only[SS,reduceIte,qX];refine zaa t5 ?_;simp only[SS,reduceIte,qK,qX,qJ];refine⟨rfl,?_⟩;exact dR
 ·have hs':(decide (x<0) == decide (y<0))=false:=by simpa using hs
  by_cases hcmp:y.natAbs<=x.natAbs
  ·have hsg:decide ((0:Int)<=sgn x.natAbs y.natAbs)=true:=by
    unfold sgn;rw[if_neg (by omega)];split<;>rfl
   have hlen:(zbd r).length<=(zbd l).length:=by
    rcases xW (zbd l).length (zbd r).length with h | h
    ·exfalso;have:=zii k1 k2;unfold cmpL at this;rw[if_neg (by omega),if_pos h,v1,v2]at this;rw[<-this]at hsg;simp at hsg
    ·exact h
   obtain⟨c3,t4⟩:=zkj (zbd l) (zbd r) c1 c2 (by omega) hlen k1.1 k2.1;obtain⟨s1,s2,s3⟩:=zph (zbd l) (zbd r) k1.1 k2.1 hlen (by omega) (zbd l).length 0 0 [] (by omega) rfl Dig.nil (by omega) rfl;rw[v1,v2]at s1;obtain⟨v,hv1,t5⟩:=zqh (decide (x<0)) _ c3 s2 (by rw[s3];omega) (zfn s2 (by rw[s3];omega))
   have e:sgnZ (decide (x<0)) (Limb.val (difL (zbd l) (zbd r) (zbd l).length 0 0 []))=x+y:=by
    unfold sgnZ;simp only[decide_eq_true_eq];simp at hs;split<;>omega
   rw[e]at hv1;obtain⟨l',c',_,_,_,rfl⟩:=hv1;refine⟨_,⟨l',c',by assumption,by assumption,by assumption,rfl⟩,?_⟩;refine oF o98 ?_;simp only[c98,r98_0,r98_1,SS,fC,reduceCtorEq,reduceIte,qK,qX,qJ];refine zaa t1 ?_;simp only[SS,fC,reduceIte,qK,qX,qJ];refine zaa t2 ?_;simp only[SS,reduceIte,qX];refine⟨rfl,?_⟩;simp only[r98_2,SS,fC,reduceIte,qK,qX,qJ,hs'];simp only[r98_4,SS,reduceIte,qX];refine zaa t3 ?_;simp only[SS,fC,reduceIte,qX,hsg];simp only[r98_5,SS,fC,reduceIte,qK,qX,qJ];refine zaa t4 ?_;simp only[SS,reduceIte,qX];refine zaa t5 ?_;simp only[SS,reduceIte,qK,qX,qJ];refine⟨rfl,?_⟩;exact dR
  ·have hsg:decide ((0:Int)<=sgn x.natAbs y.natAbs)=false:=by
    unfold sgn;rw[if_pos (by omega)];rfl
   have hlen:(zbd l).length<=(zbd r).length:=by
    rcases xW (zbd r).length (zbd l).length with h | h
    ·exfalso;have:=zii k1 k2;unfold cmpL at this;rw[if_neg (by omega),if_neg (by omega),v1,v2]at this;rw[<-this]at hsg;simp at hsg
    ·exact h
   obtain⟨c3,t4⟩:=zkj (zbd r) (zbd l) c2 c1 (by omega) hlen k2.1 k1.1;obtain⟨s1,s2,s3⟩:=zph (zbd r) (zbd l) k2.1 k1.1 hlen (by omega) (zbd r).length 0 0 [] (by omega) rfl Dig.nil (by omega) rfl;rw[v1,v2]at s1;obtain⟨v,hv1,t5⟩:=zqh (decide (y<0)) _ c3 s2 (by rw[s3];omega) (zfn s2 (by rw[s3];omega))
   have e:sgnZ (decide (y<0)) (Limb.val (difL (zbd r) (zbd l) (zbd r).length 0 0 []))=x+y:=by
    unfold sgnZ;simp only[decide_eq_true_eq];simp at hs;split<;>omega
   rw[e]at hv1;obtain⟨l',c',_,_,_,rfl⟩:=hv1;refine⟨_,⟨l',c',by assumption,by assumption,by assumption,rfl⟩,?_⟩;refine oF o98 ?_;simp only[c98,r98_0,r98_1,SS,fC,reduceCtorEq,reduceIte,qK,qX,qJ];refine zaa t1 ?_;simp only[SS,fC,reduceIte,qK,qX,qJ];refine zaa t2 ?_;simp only[SS,reduceIte,qX];refine⟨rfl,?_⟩;simp only[r98_2,SS,fC,reduceIte,qK,qX,qJ,hs'];simp only[r98_4,SS,reduceIte,qX];refine zaa t3 ?_;simp only[SS,fC,reduceIte,qX,hsg];simp only[r98_6,SS,fC,reduceIte,qK,qX,qJ];refine zaa t4 ?_;simp only[SS,reduceIte,qX];refine zaa t5 ?_;simp only[SS,reduceIte,qK,qX,qJ];refine⟨rfl,?_⟩;exact dR
theorem zSub{x y:Int}{a b:AV}(ha:zat x a)(hb:zat y b)(hf:(x-y).natAbs<BIG):∃v,zat (x-y) v/\Rt 52 [a,b] [] v []:=by
 obtain⟨n,hn,t1⟩:=zNeg hb;obtain⟨v,hv,t2⟩:=zAdd ha hn (by rwa[<-zO]);rw[<-zO]at hv;obtain⟨l,c,_,_,_,rfl⟩:=ha;obtain⟨r,d,_,_,_,rfl⟩:=hb;obtain⟨l1,c1,_,_,_,rfl⟩:=hn;obtain⟨l',c',_,_,_,rfl⟩:=hv;refine⟨_,⟨l',c',by assumption,by assumption,by assumption,rfl⟩,?_⟩;refine oF o52 ?_;simp only[c52,r52_0,r52_1,SS,reduceCtorEq,reduceIte,qK,qX,qJ];refine zaa t1 ?_;simp only[SS,reduceIte,qX];refine zaa t2 ?_;simp only[SS,reduceIte,qK,qX,qJ];refine⟨rfl,?_⟩;exact dR
structure MulE(m n:List Nat)(sa sb:Bool)(ca cb:Option Nat)(E:Env):Prop where
 e2:E 2= .ptr 0 0
 e3:E 3= .ptr 1 0
 e4:E 4= .ptr 2 0
 e5:E 5= .sl 3 0 (m.length+n.length) 1 (some (m.length+n.length))
 e20:E 20= .vec (u32s m) m.length ca
 e21:E 21= .int .i64 (m.length:Nat)
def mulH(m n out:List Nat)(sa sb:Bool)(ca cb:Option Nat):Heap:=
 [some [.bool sa,.vec (u32s m) m.length ca],some [.bool sb,.vec (u32s n) n.length cb],some [.bool false,.vec [] 0 (some 0)],some (u32s out)]
theorem xbo(m n:List Nat)(sa sb:Bool)(ca cb:Option Nat)(i:Nat)(hi:i<m.length)(dm:Dig m)(dn:Dig n)(hm:m.length<=1100)(hn:n.length<=1100)(out0:List Nat)(ho0:out0.length=m.length+n.length)(do0:Dig out0){E:Env}{Q:Post}
  (hE:MulE m n sa sb ca cb E) (h6:E 6= .int .i64 (i:Nat)) (h7:E 7= .int .u32 (m.getD i 0:Nat)) (h8:E 8= .int .u64 0) (h22:E 22= .int .i64 (i:Nat)) (h28:E 28= .vec (u32s n) n.length cb) (h29:E 29= .int .i64 (n.length:Nat)) (h30:E 30= .int .i64 0)
  (hQ:∀E',MulE m n sa sb ca cb E'->E' 6= .int .i64 (i:Nat)->E' 22= .int .i64 (i:Nat)->E' 8= .int .u64 ((mulR n (m.getD i 0) i n.length 0 0 out0).1:Nat)->Q (.exit 2) E' (mulH m n (mulR n (m.getD i 0) i n.length 0 0 out0).2 sa sb ca cb)):
  Wg 0 77 (.loop l53_1) E (mulH m n out0 sa sb ca cb) Q:=by
 have bx:=dm.getD i
 refine zax (λk E H=>∃j c out,j+k=n.length/\c<4294967296/\out.length=m.length+n.length/\Dig out/\mulR n (m.getD i 0) i k j c out=mulR n (m.getD i 0) i n.length 0 0 out0/\MulE m n sa sb ca cb E/\E 6= .int .i64 (i:Nat)/\E 7= .int .u32 (m.getD i 0:Nat)/\
  E 8= .int .u64 (c:Nat)/\E 22= .int .i64 (i:Nat)/\E 28= .vec (u32s n) n.length cb/\E 29= .int .i64 (n.length:Nat)/\E 30= .int .i64 (j:Nat)/\H=mulH m n out sa sb ca cb) (n:=n.length) ⟨0,0,out0,by omega,by omega,ho0,do0,rfl,hE,h6,h7,h8,h22,h28,h29,h30,rfl⟩ ?_
 rintro k E H ⟨j,c,out,hjk,hc,ho,hd,hr,hE,h6,h7,h8,h22,h28,h29,h30,rfl⟩;obtain⟨e2,e3,e4,e5,e20,e21⟩:=hE;refine wM ?_;simp only[l53_1,r53_7,SS,reduceIte,h29,h30];refine⟨λhlt=>?_,λhge=>?_⟩
 ·obtain⟨k,rfl⟩:∃k',k=k'+1:=⟨k-1,by omega⟩
  have hj:j<n.length:=by omega
  have gn:=zcp n j hj AV.junk;have go:=zcp out (i+j) (by omega) AV.junk;have by1:=dn.getD j;have bo:=hd.getD (i+j);have hxy:m.getD i 0*n.getD j 0<=4294967295*4294967295:=Nat.mul_le_mul (by omega) (by omega);simp only[mulR]at hr;have w1:IntKind.u64.wrap (((m.getD i 0:Nat):Int)*((n.getD j 0:Nat):Int))=((m.getD i 0*n.getD j 0:Nat):Int):=by rw[<-Int.natCast_mul];exact zhm (by omega)
  have w2:IntKind.i64.wrap ((i:Int)+(j:Int))=((i+j:Nat):Int):=by rw[<-xH];exact w64 (by omega) (by omega)
  have w3:IntKind.u64.wrap (((m.getD i 0*n.getD j 0:Nat):Int)+((out.getD (i+j) 0:Nat):Int))=((m.getD i 0*n.getD j 0+out.getD (i+j) 0:Nat):Int):=by rw[<-xH];exact zhm (by omega)
  have w4:IntKind.u64.wrap ((c:Int)+((m.getD i 0*n.getD j 0+out.getD (i+j) 0:Nat):Int))=((c+(m.getD i 0*n.getD j 0+out.getD (i+j) 0):Nat):Int):=by rw[<-xH];exact zhm (by omega)
  have w5:=wS1 j (by omega)
  simp only[r53_8,r53_9,r53_10,r53_11,r53_12,SS,fC,reduceIte,qX,mulH,h6,h7,h8,h28,h30,e5,qV,gn,go,zbk,ho,zhm (show m.getD i 0<18446744073709551616 by omega),zhm (show n.getD j 0<18446744073709551616 by omega),
   zhm (show out.getD (i+j) 0<18446744073709551616 by omega),w1,w2,w3,w4,w5,wu32,xbn,zue]
  refine⟨⟨by omega,by omega⟩,by omega,⟨by omega,by omega⟩,by omega,⟨by omega,by omega⟩,by omega,by omega,?_⟩;refine⟨k,_,_,by omega,⟨j+1,_,_,by omega,?_,?_,?_,hr,⟨?_,?_,?_,?_,?_,?_⟩,?_,?_,?_,?_,?_,?_,?_,rfl⟩,.refl⟩
  ·omega
  ·simpa using ho
  ·exact hd.set (zX _ (by decide))
  all_goals simp only[UU,qX,reduceIte, *]
 ·have hk:k=0:=by omega
  subst hk;simp only[mulR]at hr;rw[<-hr]at hQ;exact hQ _ ⟨by simp only[UU,qX, *],by simp only[UU,qX, *],by simp only[UU,qX, *],by simp only[UU,qX, *],by simp only[UU,qX, *],by simp only[UU,qX, *]⟩ (by simp only[UU,qX, *]) (by simp only[UU,qX, *]) (by simp only[UU,qX, *])
theorem qod{l:List Nat}{n:Nat}{c:Option Nat}(hn:n=l.length):frzI 0 [some (u32s l)] 2 (.sl 0 0 n 1 c)=some (.vec (u32s l) n c):=by
 have e:=qdi l 0 0 [some (u32s l)];rw[frzI];simp only[qT,if_false,zpf,need,qO,xV,hn,zbk,qD,if_true,qM];rw[qU (by rw[zbk];omega),e];rfl
theorem qww{l:List Nat}{n:Nat}{c:Option Nat}{s:Bool}(hn:n=l.length):([.bool s,.sl 0 0 n 1 c]:List AV).mapM (frzI 0 [some (u32s l)] 2)=some [.bool s,.vec (u32s l) n c]:=by
 rw[xK,xK,qod hn];rfl
theorem zfo{E:Env}{H:Heap}{t id:Nat}{u v:AV}(hE:E t= .ptr id 0)(hb:getB H id=some [u,v]):resA Tryz.prog [.cell t 53] E H=some (.agg [u,v]):=by
 have hs:ldSz Tryz.prog 53=some (true,2):=by kernel_rfl
 simp only[resA,zgs,xK,zN,hE,hb,hs];rfl
theorem xbp(x y:Int):sgnZ (decide (x<0) != decide (y<0)) (x*y).natAbs=x*y:=by
 unfold sgnZ;rcases qS x 0 with h | h | h
 ·rcases qS y 0 with h' | h' | h'
  ·have:=Int.mul_pos_of_neg_of_neg h h';rw[decide_eq_true h,decide_eq_true h'];simp only[bne_self_eq_false,yZ,if_false];omega
  ·subst h';simp
  ·have:=Int.mul_neg_of_neg_of_pos h h';rw[decide_eq_true h,dF];simp only[Bool.bne_false,if_true];omega
 ·subst h;simp
 ·rcases qS y 0 with h' | h' | h'
  ·have:=Int.mul_neg_of_pos_of_neg h h';rw[dF,decide_eq_true h'];simp only[Bool.bne_true,Bool.not_false,if_true];omega
  ·subst h';simp
  ·have:=Int.mul_pos h h';rw[dF,dF];simp only[bne_self_eq_false,yZ,if_false];omega
theorem zMul{x y:Int}{a b:AV}(ha:zat x a)(hb:zat y b)(hf:(x*y).natAbs<BIG):∃v,zat (x*y) v/\Rt 53 [a,b] [] v []:=by
 obtain⟨m,ca,hc,hl,hv,rfl⟩:=ha;obtain⟨n,cb,hd,hlr,hw,rfl⟩:=hb
 have hz:val (List.replicate (m.length+n.length) 0)=0/\Dig (List.replicate (m.length+n.length) 0):=by
  constructor
  ·generalize m.length+n.length=k
   induction k with
   |zero=>rfl
   |succ k ih=>rw[xL,Limb.val,ih]
  ·intro z hz;simp at hz;omega
 obtain⟨s1,s2,s3⟩:=qle n hd.1 m 0 (List.replicate (m.length+n.length) 0) hc.1 hz.2 (by simp) (by intro t _;simp[qZ,xE];split<;>rfl);rw[hz.1,hv,hw,Nat.pow_zero,yB,qO,<-Int.natAbs_mul]at s3;rw[yH]at s1;obtain⟨v,hv1,t5⟩:=zqh (decide (x<0) != decide (y<0)) (mulL n m 0 (List.replicate (m.length+n.length) 0)) (some (m.length+n.length)) s2 (by rw[s1];omega) (by rw[s3];exact hf)
 have e:sgnZ (decide (x<0) != decide (y<0)) (Limb.val (mulL n m 0 (List.replicate (m.length+n.length) 0)))=x*y:=by
  rw[s3];exact xbp x y
 rw[e]at hv1;obtain⟨l',c',_,_,_,rfl⟩:=hv1;refine⟨_,⟨l',c',by assumption,by assumption,by assumption,rfl⟩,?_⟩;have w1:IntKind.i64.wrap ((m.length:Int)+(n.length:Int))=((m.length+n.length:Nat):Int):=by rw[<-xH];exact w64 (by omega) (by omega)
 refine oF o53 ?_;simp only[c53,r53_0,r53_1,SS,fC,reduceCtorEq,reduceIte,qK,qX,qJ,w1,qV];refine⟨by omega,⟨by omega,by omega,by omega,by omega⟩,?_⟩;simp only[r53_2,SS,fC,reduceIte,qK,qX,qJ];have hrep:List.replicate (m.length+n.length) (AV.int IntKind.u32 0)=u32s (List.replicate (m.length+n.length) 0):=by simp[u32s]
 rw[hrep]
 refine zax (λk E H=>∃i out,i+k=m.length/\out.length=m.length+n.length/\Dig out/\mulL n (m.drop i) i out=mulL n m 0 (List.replicate (m.length+n.length) 0)/\MulE m n (decide (x<0)) (decide (y<0)) ca cb E/\E 22= .int .i64 (i:Nat)/\
  H=mulH m n out (decide (x<0)) (decide (y<0)) ca cb) (n:=m.length) ⟨0,List.replicate (m.length+n.length) 0,by omega,by simp,hz.2,rfl,⟨by rfl,by rfl,by rfl,by rfl,by rfl,by rfl⟩,by rfl,rfl⟩ ?_
 rintro k E H ⟨i,out,hik,ho,hdo,hr,hE,h22,rfl⟩;have hE':=hE;obtain⟨e2,e3,e4,e5,e20,e21⟩:=hE;refine wM ?_;simp only[l53_0,r53_3,SS,reduceCtorEq,reduceIte,e21,h22];refine⟨λhlt=>?_,λhge=>?_⟩
 ·obtain⟨k,rfl⟩:∃k',k=k'+1:=⟨k-1,by omega⟩
  have hi:i<m.length:=by omega
  have gm:=zcp m i hi AV.junk
  have hdrop:m.drop i=m.getD i 0::m.drop (i+1):=by
   rw[zK hi,qZ,qW hi];rfl
  rw[hdrop,mulL]at hr;have w5:=wS1 i (by omega);have w6:IntKind.i64.wrap ((i:Int)+(n.length:Int))=((i+n.length:Nat):Int):=by rw[<-xH];exact w64 (by omega) (by omega)
  obtain⟨q1,q2,q3,q4,q5⟩:=zwg n hd.1 (m.getD i 0) i (hc.1.getD i) n.length 0 0 out (by decide) (by omega) (by omega) hdo;simp only[r53_4,r53_5,r53_6,SS,fC,reduceIte,qK,qX,qJ,e20,h22,qV,gm,zbk,mulH,e3];refine⟨⟨by omega,hlt⟩,by omega,?_⟩;refine xbo m n (decide (x<0)) (decide (y<0)) ca cb i hi hc.1 hd.1 hl hlr out ho hdo ⟨?_,?_,?_,?_,?_,?_⟩ ?_ ?_ ?_ ?_ ?_ ?_ ?_ (λE1 hE1 f6 f22 f8=>?rest)
  case rest=>
   have hE1':=hE1;obtain⟨f2,f3,f4,f5,f20,f21⟩:=hE1;simp only[r53_13,r53_14,SS,fC,reduceCtorEq,reduceIte,qK,qX,qJ,f3,f5,f6,f8,f22,mulH,qV,zbk,w5,w6,wu32,xP q1,zue,q2,ho];refine⟨⟨by omega,by omega⟩,by omega,?_⟩;refine⟨k,_,_,by omega,⟨i+1,_,by omega,?_,?_,hr,⟨?_,?_,?_,?_,?_,?_⟩,?_,rfl⟩,.refl⟩
   ·simpa using q2.trans ho
   ·exact q3.set q1
   all_goals simp only[UU,qX,reduceIte, *]
  all_goals simp only[UU,qX,reduceIte, *]
 ·have hk:i=m.length:=by omega
  subst hk;rw[jQ]at hr;simp only[mulL]at hr;simp only[r53_15,SS,fC,reduceIte,qK,qX,qJ,e2,e3,e5,mulH];have hb:(!(decide (x<0) == decide (y<0)))=(decide (x<0) != decide (y<0)):=rfl;rw[<-hr,ho]at t5;rw[hb];refine zpg (id:=3) (cs:=u32s out) (d:=2) (args0:=[.bool (decide (x<0) != decide (y<0)),.sl 0 0 (m.length+n.length) 1 (some (m.length+n.length))]) t5 ?_ ?_ ?_ ?_ rfl (zqg _)
  ·rfl
  ·exact qww ho.symm
  ·rfl
  simp only[zcy,zaf,xX,xB,SS,reduceIte,qK,qX,qJ,e4];refine⟨.inl trivial,_,?_,.drop _ _ rfl (by intro i cs h;omega)⟩;exact zfo (id:=2) (by exact e4) rfl
theorem or64{a b:Nat}(ha:a<4294967296)(hb:b<4294967296):IntKind.u64.wrap ((BitVec.ofInt IntKind.u64.bits (a:Int) ||| BitVec.ofInt IntKind.u64.bits ((b*4294967296:Nat):Int)).toNat:Int)=((a+4294967296*b:Nat):Int):=by
 have e1:(BitVec.ofInt IntKind.u64.bits (a:Int) ||| BitVec.ofInt IntKind.u64.bits ((b*4294967296:Nat):Int)).toNat=a+4294967296*b:=by
  rw[BitVec.toNat_or,BitVec.ofInt_natCast,BitVec.ofInt_natCast,BitVec.toNat_ofNat,BitVec.toNat_ofNat]
  show a%18446744073709551616 ||| b*4294967296%18446744073709551616=_
  rw[xP (by omega),xP (by omega),Nat.or_comm,Nat.mul_comm b];have:=yS (i:=32) (b:=a) ha b;rw[show(2:Nat)^32=4294967296 from rfl]at this;rw[<-this];omega
 rw[e1];exact zhm (by omega)
theorem qwx(m:List Nat)(dm:Dig m){i:Nat}(hi:i<m.length)(hi2:i<2):IntKind.u64.wrap ((BitVec.ofInt IntKind.u64.bits ((val (m.take i):Nat):Int) ||| BitVec.ofInt IntKind.u64.bits (IntKind.u64.wrap (((m.getD i 0:Nat):Int)*2^min (32*i) IntKind.u64.bits))).toNat:Int)=(val (m.take (i+1)):Nat):=by
 have bi:=dm.getD i;rw[zdu];rcases(by omega:i=0\/i=1)with rfl | rfl
 ·have e1:IntKind.u64.wrap (((m.getD 0 0:Nat):Int)*2^min (32*0) IntKind.u64.bits)=((m.getD 0 0:Nat):Int):=by
   show IntKind.u64.wrap (((m.getD 0 0:Nat):Int)*1)=_
   rw[jJ];exact zhm (by omega)
  rw[e1];have e2:val (m.take 0)=0:=rfl;rw[e2];have:=or64 (a:=m.getD 0 0) (b:=0) bi (by omega);rw[BitVec.or_comm];simpa using this
 ·have e1:IntKind.u64.wrap (((m.getD 1 0:Nat):Int)*2^min (32*1) IntKind.u64.bits)=((m.getD 1 0*4294967296:Nat):Int):=by
   show IntKind.u64.wrap (((m.getD 1 0:Nat):Int)*4294967296)=_
   rw[show((m.getD 1 0:Nat):Int)*4294967296=((m.getD 1 0*4294967296:Nat):Int) by omega];exact zhm (by omega)
  rw[e1];have hlt:=zlf (dm.take 1);have hlen:(m.take 1).length=1:=by rw[yL];omega
  rw[hlen]at hlt;have:=or64 (a:=val (m.take 1)) (b:=m.getD 1 0) (by omega) bi;rw[this]
theorem zlow(m:List Nat)(c:Option Nat)(dm:Dig m)(hm:m.length<1048576):Rt 48 [.vec (u32s m) m.length c] [] (.int .u64 (val (m.take 2):Nat)) []:=by
 refine oF o48 ?_;simp only[c48,r48_0,r48_1,r48_2,SS,reduceCtorEq];refine zax (λk E H=>∃i,i+k=min 2 m.length/\E 0= .vec (u32s m) m.length c/\E 3= .int .u64 (val (m.take i):Nat)/\E 4= .int .i64 (i:Nat)/\H=[]) (n:=min 2 m.length) ⟨0,by omega,by rfl,by rfl,by rfl,rfl⟩ ?_;rintro k E H ⟨i,hik,h0,h3,h4,rfl⟩;refine wM ?_;have bi:=dm.getD i
 have hv:val (m.take 2)=val (m.take (min 2 m.length)):=by
  rcases Nat.le_total 2 m.length with h | h
  ·rw[Nat.min_eq_left h]
  ·rw[Nat.min_eq_right h,qU h,yM]
 cases k with
 |zero=>
  have hi:i=min 2 m.length:=by omega
  rw[<-hi]at hv;rw[hv];by_cases hl:i<m.length
  ·have d1:decide ((i:Int)<(m.length:Nat))=true:=dT;have d2:decide ((i:Int)<2)=false:=dF;simp only[l48_0,r48_3,SS,fC,reduceCtorEq,reduceIte,qX,h0,h4,d1,d2];simp only[r48_6,SS,reduceIte,qX,h3];exact dR
  ·have d1:decide ((i:Int)<(m.length:Nat))=false:=dF;simp only[l48_0,r48_3,SS,fC,reduceCtorEq,reduceIte,qX,h0,h4,d1];simp only[r48_6,SS,reduceIte,qX,h3];exact dR
 |succ k=>
  have hi:i<m.length:=by omega
  have hi2:i<2:=by omega
  have d1:decide ((i:Int)<(m.length:Nat))=true:=dT;have d2:decide ((i:Int)<2)=true:=dT;have g:=zcp m i hi AV.junk;have w5:=wS1 i (by omega);have w6:IntKind.i64.wrap (32*(i:Int))=((32*i:Nat):Int):=wQ (by omega);have w7:=qwx m dm hi hi2;simp only[l48_0,r48_3,SS,fC,reduceCtorEq,reduceIte,qX,h0,h4,d1,d2];simp only[r48_4,r48_5,SS,fC,reduceCtorEq,reduceIte,qX,h0,h3,h4,qV,g,zbk,w5,w6,zhm (show m.getD i 0<18446744073709551616 by omega),w7];refine⟨⟨by omega,by omega⟩,by omega,by omega,?_⟩;refine⟨k,_,_,by omega,⟨i+1,by omega,?_,?_,?_,rfl⟩,.refl⟩<;>simp only[UU,qX,reduceIte, *]
theorem zkk{l:List Nat}(h:zck l)(hv:val l<18446744073709551616):l.length<=2:=by
 rcases xW 2 l.length with h1 | h1
 ·exfalso;have h2:=zmp h.2 (by intro e;rw[e]at h1;simp at h1);have h3:4294967296^2<=4294967296^(l.length-1):=Nat.pow_le_pow_right (by decide) (by omega);omega
 ·exact h1
theorem zui(m n:List Nat)(c d:Option Nat)(cm:zck m)(cn:zck n)(hm:val m<18446744073709551616)(hn:val n<18446744073709551616)(hn0:val n≠0):
  ∃q r c1 c2,zck q/\zck r/\q.length<=1100/\r.length<=1100/\val q=val m/val n/\val r=val m%val n/\
   Rt 168 [.vec (u32s m) m.length c,.vec (u32s n) n.length d] [] (.tup [.vec (u32s q) q.length c1,.vec (u32s r) r.length c2]) []:=by
 have lm:=zkk cm hm;have ln:=zkk cn hn;have t1:=zlow m c cm.1 (by omega);have t2:=zlow n d cn.1 (by omega);rw[qU lm]at t1;rw[qU ln]at t2;have hq:val m/val n<18446744073709551616:=zP (Nat.div_le_self _ _) hm;have hr:val m%val n<18446744073709551616:=zP (Nat.mod_le _ _) hm;obtain⟨vq,hq1,t3⟩:=qwu false (val m/val n) hq;obtain⟨vr,hr1,t4⟩:=qwu false (val m%val n) hr;obtain⟨q,c1,q1,q2,q3,rfl⟩:=hq1;obtain⟨r,c2,r1,r2,r3,rfl⟩:=hr1;refine⟨q,r,c1,c2,q1,r1,q2,r2,q3.trans (zug _ _),r3.trans (zug _ _),?_⟩;have d1:decide ((m.length:Int)<=2)=true:=dT;have d2:decide ((n.length:Int)<=2)=true:=dT
 have w1:IntKind.u64.wrap (Int.tdiv (val m:Nat) (val n:Nat))=((val m/val n:Nat):Int):=by
  show IntKind.u64.wrap ((val m/val n:Nat):Int)=_
  exact zhm hq
 have w2:Int.tmod (val m:Nat) (val n:Nat)=((val m%val n:Nat):Int):=rfl;refine oF o168 ?_;simp only[c168,r168_0,r168_1,SS,fC,reduceCtorEq,reduceIte,qX,d1,d2];simp only[r168_2,SS,reduceCtorEq,reduceIte,qX];refine zaa t1 ?_;simp only[SS,reduceIte,qX];refine zaa t2 ?_;simp only[SS,reduceIte,qX];simp only[r168_3,SS,reduceIte,qX,w1];refine⟨by omega,?_⟩;refine zaa t3 ?_;simp only[SS,fC,reduceIte,qK,qX,qJ];refine⟨by omega,?_⟩;refine zaa t4 ?_;simp only[SS,fC,reduceIte,qK,qX,qJ];refine⟨rfl,?_⟩;exact dR
theorem qhd{x y:Int}(hy:y≠0):x/y=(if x.natAbs%y.natAbs≠0/\x<0 then(if y<0 then sgnZ (decide (x<0) != decide (y<0)) (x.natAbs/y.natAbs)+1 else sgnZ (decide (x<0) != decide (y<0)) (x.natAbs/y.natAbs)-1)else sgnZ (decide (x<0) != decide (y<0)) (x.natAbs/y.natAbs))/\
  x%y=(if x.natAbs%y.natAbs≠0/\x<0 then sgnZ (decide (x<0)) (x.natAbs%y.natAbs)+(y.natAbs:Int)else sgnZ (decide (x<0)) (x.natAbs%y.natAbs)):=by
 have h:=jW x.natAbs y.natAbs;have hR:=zX x.natAbs (show 0<y.natAbs by omega);generalize x.natAbs/y.natAbs=Q at*;generalize x.natAbs%y.natAbs=R at*;have h':(y.natAbs:Int)*Q+R=x.natAbs:=by exact_mod_cast h
 rcases Int.lt_or_lt_of_ne hy with hy1 | hy1
 ·rw[Int.ediv_emod_unique' hy1];have ey:(y.natAbs:Int)= -y:=by omega
  rw[ey]at h' ⊢;unfold sgnZ;rw[decide_eq_true hy1];by_cases hx:x<0
  ·have ex:(x.natAbs:Int)= -x:=by omega
   rw[ex]at h';rw[decide_eq_true hx];simp only[bne_self_eq_false,yZ,if_false,if_true,hy1,hx,and_true];rw[zC]at h';by_cases h0:R=0
   ·subst h0;simp only[ne_eq,not_true_eq_false,if_false];refine⟨by omega,by omega,by omega⟩
   ·simp only[ne_eq,h0,not_false_eq_true,if_true];rw[Int.mul_add,jJ];refine⟨by omega,by omega,by omega⟩
  ·have ex:(x.natAbs:Int)=x:=by omega
   rw[ex]at h';rw[decide_eq_false hx];simp only[Bool.bne_true,Bool.not_false,if_true,hx,and_false,if_false,yZ];rw[zC]at h';rw[jK];refine⟨by omega,by omega,by omega⟩
 ·rw[Int.ediv_emod_unique hy1];have ey:(y.natAbs:Int)=y:=by omega
  rw[ey]at h' ⊢;unfold sgnZ;rw[decide_eq_false (show¬y<0 by omega)];by_cases hx:x<0
  ·have ex:(x.natAbs:Int)= -x:=by omega
   rw[ex]at h';rw[decide_eq_true hx];simp only[Bool.bne_false,if_true,hx,and_true,show¬y<0 by omega,if_false];by_cases h0:R=0
   ·subst h0;simp only[ne_eq,not_true_eq_false,if_false];rw[jK];refine⟨by omega,by omega,by omega⟩
   ·simp only[ne_eq,h0,not_false_eq_true,if_true];rw[Int.mul_sub,jK,jJ];refine⟨by omega,by omega,by omega⟩
  ·have ex:(x.natAbs:Int)=x:=by omega
   rw[ex]at h';rw[decide_eq_false hx];simp only[bne_self_eq_false,yZ,if_false,hx,and_false];refine⟨by omega,by omega,by omega⟩
def DivC(m n:List Nat)(c d:Option Nat):Prop:= ∃q r c1 c2,zck q/\zck r/\q.length<=1100/\r.length<=1100/\val q=val m/val n/\val r=val m%val n/\
   Rt 168 [.vec (u32s m) m.length c,.vec (u32s n) n.length d] [] (.tup [.vec (u32s q) q.length c1,.vec (u32s r) r.length c2]) []
theorem qoe{x y:Int}{a b:AV}(ha:zat x a)(hb:zat y b)(hy:y≠0)(hdiv:∀m n c d,zck m->zck n->m.length<=1100->n.length<=1100->val m=x.natAbs->val n=y.natAbs->DivC m n c d)(hf:(x/y).natAbs<BIG):
  ∃v w,zat (x/y) v/\zat (x%y) w/\Rt 97 [a,b] [] (.tup [v,w,.bool true]) []:=by
 have hb0:=hb;obtain⟨hq0,hr0⟩:=qhd (x:=x) hy;obtain⟨l,ca,hc,hl,hv,rfl⟩:=ha;obtain⟨n,cb,hd,hlr,hw,rfl⟩:=hb;obtain⟨c1,t1⟩:=znr l ca (by omega);obtain⟨c2,t2⟩:=znr n cb (by omega);have l1:=zlo l;have l2:=zlo n;have k1:=zbj hc.1;have k2:=zbj hd.1;have v1:=(zco l).trans hv;have v2:=(zco n).trans hw
 have hn0:(zbd n).length≠0:=by
  intro e;have:=List.length_eq_zero_iff.1 e;rw[this]at v2;have:Limb.val []=0:=rfl;omega
 obtain⟨q,r,cq,cr,q1,r1,q2,r2,q3,r3,t3⟩:=hdiv (zbd l) (zbd n) c1 c2 k1 k2 (by omega) (by omega) v1 v2;rw[v1,v2]at q3 r3;obtain⟨vq,hvq,t4⟩:=zqh (decide (x<0) != decide (y<0)) q cq q1.1 (by omega) (zfn q1.1 q2);obtain⟨vr,hvr,t5⟩:=zqh (decide (x<0)) r cr r1.1 (by omega) (zfn r1.1 r2);rw[q3]at hvq;rw[r3]at hvr;have s1:=zxd hvr
 have hneg:decide ((sgnZ (decide (x<0)) (x.natAbs%y.natAbs)).sign<0)=decide (x.natAbs%y.natAbs≠0/\x<0):=by
  have:(sgnZ (decide (x<0)) (x.natAbs%y.natAbs)).sign<0↔sgnZ (decide (x<0)) (x.natAbs%y.natAbs)<0:=Int.sign_neg_iff;rw[decide_eq_decide,this];unfold sgnZ;simp only[decide_eq_true_eq];split<;>omega
 have hclo:vq.closed=true/\vr.closed=true:=⟨hvq.closed,hvr.closed⟩
 have hvq0:=hvq;have hvr0:=hvr;obtain⟨lq,dq,iq1,iq2,iq3,rfl⟩:=hvq;obtain⟨lr,dr,ir1,ir2,ir3,rfl⟩:=hvr;have hb3:(!(decide (x<0) == decide (y<0)))=(decide (x<0) != decide (y<0)):=rfl;by_cases hcase:x.natAbs%y.natAbs≠0/\x<0
 ·rw[if_pos hcase]at hq0 hr0;rw[decide_eq_true hcase]at hneg;obtain⟨vn,hvn,t6⟩:=zqh false (zbd n) c2 k2.1 (by omega) (zfn k2.1 (by omega));have en:sgnZ false (Limb.val (zbd n))=(y.natAbs:Int):=by rw[v2];rfl
  rw[en]at hvn
  have hrf:(x%y).natAbs<BIG:=by
   have h1:=jV x hy;have h2:=Int.emod_lt x hy;have h3:=hb0.fits;omega
  obtain⟨vs,hvs,t7⟩:=zAdd hvr0 hvn (by rw[<-hr0];exact hrf);rw[<-hr0]at hvs;obtain⟨v1',hv1',t8⟩:=zgv 1 (by omega) (by omega);have s2:=zxd hb0;obtain⟨ln,dn,_,_,_,rfl⟩:=hvn;have hvs0:=hvs;obtain⟨ls,ds,_,_,_,rfl⟩:=hvs;by_cases hyn:y<0
  ·rw[if_pos hyn]at hq0;obtain⟨vt,hvt,t9⟩:=zAdd hvq0 hv1' (by rw[<-hq0];exact hf);rw[<-hq0]at hvt;have hvt0:=hvt;obtain⟨lt,dt,_,_,_,rfl⟩:=hvt;obtain⟨lo,dO,_,_,_,rfl⟩:=hv1';refine⟨_,_,hvt0,hvs0,?_⟩;have hsy:decide (y.sign<0)=true:=decide_eq_true (Int.sign_neg_iff.2 hyn);refine oF o97 ?_;simp only[c97,r97_0,r97_1,SS,fC,reduceCtorEq,reduceIte,qK,qX,qJ];refine zaa t1 ?_;simp only[SS,fC,reduceIte,qK,qX,qJ];refine zaa t2 ?_;simp only[SS,reduceIte,qX];refine⟨rfl,?_⟩;simp only[r97_2,SS,reduceIte,qX];refine⟨λh=>absurd h (by omega),λ_=>?_⟩;simp only[r97_4,SS,reduceIte,qX];refine zaa t3 ?_;simp only[SS,reduceIte,qX,qH,qC];simp only[r97_5,SS,fC,reduceIte,qK,qX,qJ,hb3];refine zaa t4 ?_;simp only[SS,fC,reduceIte,qK,qX,qJ];refine zaa t5 ?_;simp only[SS,reduceIte,qK,qX,qJ];refine⟨rfl,?_⟩;simp only[r97_6,SS,reduceIte,qK,qX,qJ];refine zaa s1 ?_;simp only[SS,fC,reduceIte,qX,hneg];simp only[r97_7,SS,reduceIte,qK,qX,qJ];refine zaa t6 ?_;simp only[SS,reduceIte,qX];refine zaa t7 ?_;simp only[SS,reduceIte,qK,qX,qJ];refine⟨rfl,?_⟩;simp only[r97_8,SS,reduceIte,qK,qX,qJ];refine zaa s2 ?_;simp only[SS,fC,reduceIte,qX,hsy];simp only[r97_9,SS,reduceIte,qK,qX,qJ];refine zaa t8 ?_;simp only[SS,reduceIte,qX];refine zaa t9 ?_;simp only[SS,reduceIte,qK,qX,qJ];refine⟨rfl,?_⟩;exact dR
  ·rw[if_neg hyn]at hq0;obtain⟨vt,hvt,t9⟩:=zSub hvq0 hv1' (by rw[<-hq0];exact hf);rw[<-hq0]at hvt;have hvt0:=hvt;obtain⟨lt,dt,_,_,_,rfl⟩:=hvt;obtain⟨lo,dO,_,_,_,rfl⟩:=hv1';refine⟨_,_,hvt0,hvs0,?_⟩;have hsy:decide (y.sign<0)=false:=decide_eq_false (λh=>hyn (Int.sign_neg_iff.1 h));refine oF o97 ?_;simp only[c97,r97_0,r97_1,SS,fC,reduceCtorEq,reduceIte,qK,qX,qJ];refine zaa t1 ?_;simp only[SS,fC,reduceIte,qK,qX,qJ];refine zaa t2 ?_;simp only[SS,reduceIte,qX];refine⟨rfl,?_⟩;simp only[r97_2,SS,reduceIte,qX];refine⟨λh=>absurd h (by omega),λ_=>?_⟩;simp only[r97_4,SS,reduceIte,qX];refine zaa t3 ?_;simp only[SS,reduceIte,qX,qH,qC];simp only[r97_5,SS,fC,reduceIte,qK,qX,qJ,hb3];refine zaa t4 ?_;simp only[SS,fC,reduceIte,qK,qX,qJ];refine zaa t5 ?_;simp only[SS,reduceIte,qK,qX,qJ];refine⟨rfl,?_⟩;simp only[r97_6,SS,reduceIte,qK,qX,qJ];refine zaa s1 ?_;simp only[SS,fC,reduceIte,qX,hneg];simp only[r97_7,SS,reduceIte,qK,qX,qJ];refine zaa t6 ?_;simp only[SS,reduceIte,qX];refine zaa t7 ?_;simp only[SS,reduceIte,qK,qX,qJ];refine⟨rfl,?_⟩;simp only[r97_8,SS,reduceIte,qK,qX,qJ];refine zaa s2 ?_;simp only[SS,fC,reduceIte,qX,hsy];simp only[r97_10,SS,reduceIte,qK,qX,qJ];refine zaa t8 ?_;simp only[SS,reduceIte,qX];refine zaa t9 ?_;simp only[SS,reduceIte,qK,qX,qJ];refine⟨rfl,?_⟩;exact dR
 ·rw[if_neg hcase]at hq0 hr0;rw[decide_eq_false hcase]at hneg;rw[<-hq0]at hvq0;rw[<-hr0]at hvr0;refine⟨_,_,hvq0,hvr0,?_⟩;rw[hq0,hr0];refine oF o97 ?_;simp only[c97,r97_0,r97_1,SS,fC,reduceCtorEq,reduceIte,qK,qX,qJ];refine zaa t1 ?_;simp only[SS,fC,reduceIte,qK,qX,qJ];refine zaa t2 ?_;simp only[SS,reduceIte,qX];refine⟨rfl,?_⟩;simp only[r97_2,SS,reduceIte,qX];refine⟨λh=>absurd h (by omega),λ_=>?_⟩;simp only[r97_4,SS,reduceIte,qX];refine zaa t3 ?_;simp only[SS,reduceIte,qX,qH,qC];simp only[r97_5,SS,fC,reduceIte,qK,qX,qJ,hb3];refine zaa t4 ?_;simp only[SS,fC,reduceIte,qK,qX,qJ];refine zaa t5 ?_;simp only[SS,reduceIte,qK,qX,qJ];refine⟨rfl,?_⟩;simp only[r97_6,SS,reduceIte,qK,qX,qJ];refine zaa s1 ?_;simp only[SS,fC,reduceIte,qX,hneg];simp only[r97_11,SS,reduceIte,qK,qX,qJ];refine⟨rfl,?_⟩;exact dR
theorem zQuo{x y:Int}{a b:AV}(ha:zat x a)(hb:zat y b)(hy:y≠0)(hdiv:∀m n c d,zck m->zck n->m.length<=1100->n.length<=1100->val m=x.natAbs->val n=y.natAbs->DivC m n c d)(hf:(x/y).natAbs<BIG):
  ∃v,zat (x/y) v/\Rt 51 [a,b] [] v []:=by
 obtain⟨v,w,hv,hw,t⟩:=qoe ha hb hy hdiv hf;obtain⟨l,ca,_,_,_,rfl⟩:=ha;obtain⟨n,cb,_,_,_,rfl⟩:=hb;have hv0:=hv;obtain⟨lv,cv,_,_,_,rfl⟩:=hv;obtain⟨lw,cw,_,_,_,rfl⟩:=hw;refine⟨_,hv0,?_⟩;refine oF o51 ?_;simp only[c51,r51_0,r51_1,SS,reduceCtorEq,reduceIte,qK,qX,qJ];refine zaa t ?_;simp only[SS,reduceIte,qK,qX,qJ,qH,qC];simp only[r51_2,SS,reduceIte,qK,qX,qJ];exact dR
def RowC:List Int->List AV->Prop
 | [],[]=>True
 |z::r,u::v::cs=>zat z (.agg [u,v])/\RowC r cs
 |_,_=>False
theorem zda:∀{r:List Int} {cs:List AV},RowC r cs->cs.length=r.length*2
 | [],[],_=>rfl
 |_::_,_::_::_,h=>by have:=zda h.2;simp[this];omega
 | [],_::_,h=>h.elim
 |_::_,[],h=>h.elim
 |_::_,[_],h=>h.elim
theorem zez:∀{r:List Int} {cs:List AV},RowC r cs->∀j,j<r.length->∃u v,(cs.drop (j*2)).take 2=[u,v]/\zat (r.getD j 0) (.agg [u,v])
 | [],[],_,j,hj=>absurd hj (by simp)
 |z::r,u::v::cs,h,0,_=>⟨u,v,rfl,h.1⟩
 |z::r,u::v::cs,h,j+1,hj=>by
  obtain⟨a,b,h1,h2⟩:=zez h.2 j (by simpa using hj);refine⟨a,b,?_,by simpa using h2⟩;rw[show(j+1)*2=j*2+2 by omega];exact h1
 | [],_::_,h,_,_=>h.elim
 |_::_,[],h,_,_=>h.elim
 |_::_,[_],h,_,_=>h.elim
theorem qdj:∀{r:List Int} {cs:List AV},RowC r cs->∀j z u v,j<r.length->zat z (.agg [u,v])->RowC (r.set j z) (setL cs (j*2) [u,v])
 | [],[],_,j,_,_,_,hj,_=>absurd hj (by simp)
 |z::r,u::v::cs,h,0,y,a,b,_,hy=>⟨hy,h.2⟩
 |z::r,u::v::cs,h,j+1,y,a,b,hj,hy=>by
  have:=qdj h.2 j y a b (by simpa using hj) hy;rw[show(j+1)*2=j*2+2 by omega];exact⟨h.1,this⟩
 | [],_::_,h,_,_,_,_,_,_=>h.elim
 |_::_,[],h,_,_,_,_,_,_=>h.elim
 |_::_,[_],h,_,_,_,_,_,_=>h.elim
theorem zlp:∀{r:List Int} {cs:List AV},RowC r cs->∀z u v,zat z (.agg [u,v])->RowC (r++[z]) (cs++[u,v])
 | [],[],_,z,u,v,h=>⟨h,trivial⟩
 |_::_,_::_::_,h,z,u,v,hz=>⟨h.1,zlp h.2 z u v hz⟩
 | [],_::_,h,_,_,_,_=>h.elim
 |_::_,[],h,_,_,_,_=>h.elim
 |_::_,[_],h,_,_,_,_=>h.elim
theorem qdk:∀{r:List Int} {cs:List AV},RowC r cs->∀m d H,cs.mapM (frzI m H (d+1))=some cs:=by
 intro r cs h m d H;refine zny (λa ha=>?_)
 induction r generalizing cs with
 |nil=>
  cases cs with
  |nil=>simp at ha
  |cons _ _=>exact h.elim
 |cons z r ih=>
  match cs,h with
  |u::v::cs,h=>
   obtain⟨⟨l,c,_,_,_,e⟩,h2⟩:=h;injection e with e
   injection e with e1 e2
   injection e2 with e2 _
   rcases List.mem_cons.1 ha with h | h
   ·rw[h,e1];rfl
   ·rcases List.mem_cons.1 h with h | h
    ·rw[h,e2];rfl
    ·exact ih h2 h
theorem qak:∀{r:List Int} {cs:List AV},RowC r cs->qY cs=true:=by
 intro r
 induction r with
 |nil=>
  intro cs h;cases cs with
  |nil=>rfl
  |cons _ _=>exact h.elim
 |cons z r ih=>
  intro cs h
  match cs,h with
  |u::v::cs,h=>
   obtain⟨⟨l,c,_,_,_,e⟩,h2⟩:=h;injection e with e
   injection e with e1 e2
   injection e2 with e2 _
   rw[e1,e2]
   show qY cs=true
   exact ih h2
theorem zlq:∀{r:List Int} {cs:List AV},RowC r cs->AV.scalL cs=true:=by
 intro r
 induction r with
 |nil=>
  intro cs h;cases cs with
  |nil=>rfl
  |cons _ _=>exact h.elim
 |cons z r ih=>
  intro cs h
  match cs,h with
  |u::v::cs,h=>
   obtain⟨⟨l,c,_,_,_,e⟩,h2⟩:=h;injection e with e
   injection e with e1 e2
   injection e2 with e2 _
   rw[e1,e2]
   show AV.scalL cs=true
   exact ih h2
def zgh(r:List Int)(a:AV):Prop:= ∃cs c,a= .vec cs r.length c/\RowC r cs
def MatV(M:List (List Int))(a:AV):Prop:= ∃rows c,a= .vec rows M.length c/\rows.length=M.length/\∀i,i<M.length->zgh (M.getD i []) (rows.getD i .junk)
def qof(M:List (List Int)):Prop:=1<=M.length/\M.length<=16/\∀i,i<M.length->1<=(M.getD i []).length/\(M.getD i []).length<=16/\(M.getD i []).length=(M.getD 0 []).length
theorem qdl{M:List (List Int)}{a:AV}(h:MatV M a)(hs:qof M):Rt 92 [a] [] (.tup [.int .i64 (M.length:Nat),.int .i64 ((M.getD 0 []).length:Nat),.bool true]) []:=by
 obtain⟨rows,c,rfl,hl,hr⟩:=h;obtain⟨h1,h2,h3⟩:=hs;have d1:decide ((M.length:Int)<1)=false:=dF;have d2:decide ((16:Int)<(M.length:Nat))=false:=dF;obtain⟨cs0,c0,e0,r0⟩:=hr 0 (by omega);refine oF o92 ?_;simp only[c92,r92_0,r92_1,SS,fC,reduceCtorEq,reduceIte,qX,d1,d2];simp only[r92_3,SS,reduceCtorEq,reduceIte,qX];refine zax (λk E H=>∃i,i+k=M.length/\E 0= .vec rows M.length c/\E 15= .vec rows M.length c/\E 16= .int .i64 (M.length:Nat)/\E 17= .int .i64 (i:Nat)/\H=[]) (n:=M.length) ⟨0,by omega,by rfl,by rfl,by rfl,by rfl,rfl⟩ ?_;rintro k E H ⟨i,hik,h0,h15,h16,h17,rfl⟩;refine wM ?_;simp only[l92_0,r92_4,SS,reduceCtorEq,reduceIte,h16,h17];refine⟨λhlt=>?_,λhge=>?_⟩
 ·obtain⟨k,rfl⟩:∃k',k=k'+1:=⟨k-1,by omega⟩
  obtain⟨csi,ci,ei,ri⟩:=hr i (by omega);obtain⟨g1,g2,g3⟩:=h3 i (by omega);have d3:decide (((M.getD i []).length:Int)<1)=false:=dF;have d4:decide ((16:Int)<((M.getD i []).length:Nat))=false:=dF;have d5:decide (((M.getD i []).length:Int)≠((M.getD 0 []).length:Nat))=false:=dF;have w5:=wS1 i (by omega);simp only[r92_5,r92_6,r92_8,SS,fC,reduceCtorEq,reduceIte,qX,h0,h15,h17,qV,zZ,ei,e0,hl,d3,d4,d5,w5];refine⟨⟨by omega,by omega⟩,by omega,⟨by omega,by omega⟩,by omega,?_⟩;refine⟨k,_,_,by omega,⟨i+1,by omega,?_,?_,?_,?_,rfl⟩,.refl⟩<;>simp only[UU,qX,reduceIte, *]
 ·simp only[r92_9,SS,fC,reduceCtorEq,reduceIte,qX,h0,zZ,e0,hl];refine⟨⟨by omega,by omega⟩,by omega,rfl,?_⟩;exact dR
theorem zfa{H X:Heap}{i:Nat}(h:i<H.length):getB (H++X) i=getB H i:=by
 unfold getB;rw[qE h]
theorem zxe{H:Heap}{cs:List AV}{X:Heap}:getB (H++some cs::X) H.length=some cs:=by
 unfold getB;rw[qB (qD _)];simp
theorem zar{H:Heap}{i j:Nat}{x:Option (List AV)}(h:i≠j):getB (H.set i x) j=getB H j:=by
 unfold getB;rw[zD h]
theorem zbl{H:Heap}{i:Nat}{cs:List AV}(h:i<H.length):getB (H.set i (some cs)) i=some cs:=by
 unfold getB;rw[yD h]
theorem zas{H:Heap}{i:Nat}{cs:List AV}(h:getB H i=some cs):i<H.length:=zfy h
def zcl(n:Nat)(p:Nat×Option Nat):AV:= .sl p.1 0 n 2 p.2
structure MatH(H:Heap)(o:Nat)(ps:List (Nat×Option Nat))(n:Nat)(M:List (List Int)):Prop where
 outer:getB H o=some (ps.map (zcl n))
 len:ps.length=M.length
 cols:∀i,i<M.length->(M.getD i []).length=n
 rows:∀i,i<M.length->∃cs,getB H (ps.getD i (0,none)).1=some cs/\RowC (M.getD i []) cs
 nodup:(o::ps.map (·.1)).Nodup
def qal(H:Heap)(r:List Int)(a:AV)(bad:List Nat):Prop:=
 (r=[]/\a= .vec [] 0 (some 0))\/(r≠[]/\∃id cs,a= .sl id 0 r.length 2 none/\getB H id=some cs/\RowC r cs/\id∉bad)
theorem xbq{H:Heap}{r:List Int}{a:AV}{bad:List Nat}{z:Int}{u v:AV}{t fr n0:Nat}(h:qal H r a bad)(hz:zat z (.agg [u,v]))(ht:getB H t=some [u,v])(hr:r.length<1100)(hfr:fr∉bad)(hfr2:H.length=fr):
  ∃e rd cs,zcd n0 fr H 2 32 a (.sl t 0 1 2 (some 1))=some (.sl fr 0 (r.length+1) 2 none,e,rd)/\RowC (r++[z]) cs/\getB (zaf e (H++[none])) fr=some cs/\(zaf e (H++[none])).length=H.length+1/\
   (∀i∈bad,i<H.length->getB (zaf e (H++[none])) i=getB H i)/\(∀i∈keys e,i=fr\/∃n c,a= .sl i 0 n 2 c)/\(∀i∈rd,i=t\/∃n c,a= .sl i 0 n 2 c):=by
 have hs:AV.scalL [u,v]=true:=zlq (r:=[z]) (cs:=[u,v]) ⟨hz,trivial⟩
 have hel:zdz H 2 1 (.sl t 0 1 2 (some 1))=some ([u,v],[t]):=by
  simp[zdz,ht,need]
 rcases h with⟨rfl,rfl⟩ | ⟨hne,id,cs,rfl,hg,hc,hb⟩
 ·refine⟨[(fr,some [u,v])],[t],[u,v],?_,⟨hz,trivial⟩,?_,?_,?_,?_,?_⟩
  ·simp only[zcd,lenA,xC,hel];simp[need]
  ·simp only[zaf];rw[qA _ _ (by omega),<-hfr2,xZ];exact zxe
  ·simp[zaf]
  ·intro i hi hlt;simp only[zaf];rw[zar (by intro e;exact hfr (e ▸ hi)),zfa hlt]
  ·intro i hi;simp[keys]at hi;exact .inl hi
  ·intro i hi;simp at hi;exact .inl hi
 ·have hlt:=zas hg;have hl:=zda hc;refine⟨[(id,none),(fr,some (cs++[u,v]))],[id,t],cs++[u,v],?_,zlp hc z u v hz,?_,?_,?_,?_,?_⟩
  ·have e1:¬((none:Option Nat)=some r.length):=by simp
   have e2:id≠fr:=by omega
   have b1:4*(r.length+1)*32<=2^48:=by
    have:(2:Nat)^48=281474976710656:=rfl;omega
   have b2:r.length+1<2^62:=by
    have:(2:Nat)^62=4611686018427387904:=rfl;omega
   simp only[zcd,lenA,xC,hel,hg,need,yW,if_false,true_and,hl,qD,b1,b2,and_self,if_true,e1,yA,hs,e2,ne_eq,not_false_eq_true];rw[qU (by omega)]
  ·simp only[zaf];rw[zbl (by simp;omega)]
  ·simp[zaf]
  ·intro i hi hlt2;simp only[zaf];rw[zar (by intro e;exact hfr (e ▸ hi)),zar (by intro e;exact hb (e ▸ hi)),zfa hlt2]
  ·intro i hi;simp[keys]at hi;rcases hi with h | h
   ·exact .inr ⟨_,_,by rw[h]⟩
   ·exact .inl h
  ·intro i hi;simp at hi;rcases hi with h | h
   ·exact .inr ⟨_,_,by rw[h]⟩
   ·exact .inl h
theorem set_snoc{α:Type}{H:List α}{x y:α}:(H++[x]).set H.length y=H++[y]:=by
 rw[qA _ _ (qD _),xZ];rfl
theorem zef{H:Heap}{cs:List AV}:getB (H++[some cs]) H.length=some cs:=zxe
def zuj(i:Nat)(st:Heap×AV)(p:List AV×List AV):Heap×AV:=
 match zcd 0 (st.1.length+1+1) (st.1++[some p.1]++[some p.2]) 2 32 st.2 (.sl (st.1.length+1) 0 1 2 (some 1))with
 |some (v,e,_)=>((zaf e (st.1++[some p.1]++[some p.2]++[none])).set 0 (some (((getB (zaf e (st.1++[some p.1]++[some p.2]++[none])) 0).getD []).set i v)),v)
 |none=>st
structure CpOK(i:Nat)(oc:List AV)(ids:List Nat)(H0:Heap)(r:List Int)(st:Heap×AV):Prop where
 part:qal st.1 r st.2 (0::ids)
 outer:getB st.1 0=some (oc.set i st.2)
 keep:∀id∈ids,getB st.1 id=getB H0 id
 len:H0.length<=st.1.length
theorem qdm{i:Nat}{oc:List AV}{ids:List Nat}{H0:Heap}{r:List Int}{st:Heap×AV}{x:List AV}{u v:AV}{z:Int}(hids:∀id∈ids,id<H0.length/\id≠0)(h:CpOK i oc ids H0 r st)(hi:i<oc.length)(hz:zat z (.agg [u,v]))(hr:r.length<1100):
  CpOK i oc ids H0 (r++[z]) (zuj i st (x,[u,v]))/\∃e rd,zcd 0 (st.1.length+1+1) (st.1++[some x]++[some [u,v]]) 2 32 st.2 (.sl (st.1.length+1) 0 1 2 (some 1))=some ((zuj i st (x,[u,v])).2,e,rd)/\
   getB (zaf e (st.1++[some x]++[some [u,v]]++[none])) 0=some (oc.set i st.2)/\(zuj i st (x,[u,v])).1=(zaf e (st.1++[some x]++[some [u,v]]++[none])).set 0 (some (oc.set i (zuj i st (x,[u,v])).2))/\∃id n,(zuj i st (x,[u,v])).2= .sl id 0 n 2 none:=by
 obtain⟨hp,hg,hkeep,hlen⟩:=h;have h0lt:0<st.1.length:=zas hg;have hl2:(st.1++[some x]++[some [u,v]]).length=st.1.length+1+1:=by simp
 have hk2:∀y,y<st.1.length->getB (st.1++[some x]++[some [u,v]]) y=getB st.1 y:=by
  intro y hy;rw[xT,zfa hy]
 have hp2:qal (st.1++[some x]++[some [u,v]]) r st.2 (0::ids):=by
  rcases hp with⟨h1,h2⟩ | ⟨h1,id,cs',h2,h3,h4,h5⟩
  ·exact .inl ⟨h1,h2⟩
  ·exact .inr ⟨h1,id,cs',h2,by rw[hk2 _ (zas h3)];exact h3,h4,h5⟩
 have ht2:getB (st.1++[some x]++[some [u,v]]) (st.1.length+1)=some [u,v]:=by
  have:st.1.length+1=(st.1++[some x]).length:=by simp
  rw[this];exact zef
 have hfb:st.1.length+1+1∉0::ids:=by
  intro hm;rcases List.mem_cons.1 hm with h | h
  ·omega
  ·have:=(hids _ h).1;omega
 obtain⟨e,rd,cs',hap,hrow,hfr,hl3,hsame,hke,hrd⟩:=xbq (n0:=0) (fr:=st.1.length+1+1) hp2 hz ht2 hr hfb hl2
 have g3:getB (zaf e (st.1++[some x]++[some [u,v]]++[none])) 0=some (oc.set i st.2):=by
  rw[hsame 0 (by simp) (by omega),hk2 0 h0lt];exact hg
 have hc:zuj i st (x,[u,v])=((zaf e (st.1++[some x]++[some [u,v]]++[none])).set 0 (some (oc.set i (.sl (st.1.length+1+1) 0 (r.length+1) 2 none))),.sl (st.1.length+1+1) 0 (r.length+1) 2 none):=by
  unfold zuj;rw[hap];simp only[g3,yX,zT]
 rw[hc];refine⟨⟨.inr ⟨by simp,_,cs',by simp,?_,hrow,hfb⟩,?_,?_,?_⟩,e,rd,hap,g3,rfl,_,_,rfl⟩
 ·show getB (List.set _ 0 _) _=_
  rw[zar (by omega)];exact hfr
 ·show getB (List.set _ 0 _) _=_
  rw[zbl (by omega)]
 ·intro id hid
  show getB (List.set _ 0 _) _=_
  have:=hids id hid;rw[zar (by omega),hsame id (by simp[hid]) (by omega),hk2 id (by omega)];exact hkeep id hid
 ·show _<=(List.set _ 0 _).length
  rw[xI];omega
def zuk:List Int->List AV->List (List AV×List AV)->Prop
 | [],[],[]=>True
 |z::r,a::b::cs,(x,y)::l=>x=[a,b]/\(∃u v,y=[u,v]/\zat z (.agg [u,v]))/\zat z (.agg [a,b])/\Rt 87 [.agg x] [] (.agg y) []/\zuk r cs l
 |_,_,_=>False
theorem qwy:∀{r:List Int} {cs:List AV},RowC r cs->∃l,zuk r cs l:=by
 intro r
 induction r with
 |nil=>
  intro cs h;cases cs with
  |nil=>exact⟨[],trivial⟩
  |cons _ _=>exact h.elim
 |cons z r ih=>
  intro cs h
  match cs,h with
  |a::b::cs,h=>
   obtain⟨l,hl⟩:=ih h.2;obtain⟨w,hw,t⟩:=zse h.1;have hw0:=hw;obtain⟨lw,cw,_,_,_,rfl⟩:=hw0;exact⟨([a,b],_)::l,rfl,⟨_,_,rfl,hw⟩,h.1,t,hl⟩
theorem zqj:∀{r:List Int} {cs:List AV} {l:List (List AV×List AV)},zuk r cs l->l.length=r.length
 | [],[],[],_=>rfl
 |_::_,_::_::_,(_,_)::_,h=>by have:=zqj h.2.2.2.2;simp[this]
 | [],[],_::_,h=>h.elim
 | [],_::_,_,h=>by cases ‹List (List AV×List AV)› <;> exact h.elim
 |_::_,[],_,h=>by cases ‹List (List AV×List AV)› <;> exact h.elim
 |_::_,[_],_,h=>by cases ‹List (List AV×List AV)› <;> exact h.elim
 |_::_,_::_::_,[],h=>h.elim
theorem zxf:∀{r:List Int} {cs:List AV} {l:List (List AV×List AV)},zuk r cs l->∀j,j<r.length->∃a b u v,(cs.drop (j*2)).take 2=[a,b]/\l[j]?=some ([a,b],[u,v])/\zat (r.getD j 0) (.agg [a,b])/\zat (r.getD j 0) (.agg [u,v])/\
  Rt 87 [.agg [a,b]] [] (.agg [u,v]) []:=by
 intro r
 induction r with
 |nil=>intro cs l _ j hj;exact absurd hj (by simp)
 |cons z r ih=>
  intro cs l h j hj
  match cs,l,h with
  |a::b::cs,(x,y)::l,h=>
   obtain⟨rfl,⟨u,v,rfl,hu⟩,ha,t,hl⟩:=h;cases j with
   |zero=>exact⟨a,b,u,v,rfl,rfl,ha,hu,t⟩
   |succ j=>
    obtain⟨a',b',u',v',h1,h2,h3,h4,h5⟩:=ih hl j (by simpa using hj);refine⟨a',b',u',v',?_,by simpa using h2,by simpa using h3,by simpa using h4,h5⟩;rw[show(j+1)*2=j*2+2 by omega];exact h1
def zrh(i:Nat)(st:Heap×AV)(l:List (List AV×List AV)):Heap×AV:=l.foldl (zuj i) st
theorem zsf{α β:Type}(f:β->α->β)(b:β)(l:List α)(j:Nat)(x:α)(h:l[j]?=some x):(l.take (j+1)).foldl f b=f ((l.take j).foldl f b) x:=by
 rw[yJ,h];simp
theorem qdn{i:Nat}{oc:List AV}{ids:List Nat}{H0:Heap}{r:List Int}{cs:List AV}{l:List (List AV×List AV)}(hids:∀id∈ids,id<H0.length/\id≠0)(h00:getB H0 0=some oc)(hi:i<oc.length)(hoci:oc.getD i .junk= .vec [] 0 (some 0))
  (hp:zuk r cs l) (hr:r.length<1100):∀j,j<=r.length->CpOK i oc ids H0 (r.take j) (zrh i (H0,.vec [] 0 (some 0)) (l.take j)):=by
 intro j
 induction j with
 |zero=>
  intro _;refine⟨.inl ⟨rfl,rfl⟩,?_,λ_ _=>rfl,qD _⟩
  show getB H0 0=some (oc.set i (.vec [] 0 (some 0)))
  rw[h00]
  have:oc.set i (.vec [] 0 (some 0))=oc:=by
   rw[<-hoci,qZ,qW hi];simp
  rw[this]
 |succ j ih=>
  intro hj;obtain⟨a,b,u,v,_,h2,_,h4,_⟩:=zxf hp j (by omega);have:=(qdm (x:=[a,b]) hids (ih (by omega)) hi h4 (by rw[yL];omega)).1;unfold zrh at this ⊢;rw[zsf _ _ _ _ _ h2]
  have htk:r.take j++[r.getD j 0]=r.take (j+1):=by
   rw[yJ,qZ,qW (by omega)];rfl
  rw[htk]at this;exact this
theorem qwz{r:List Int}{cs:List AV}{c:Option Nat}{l:List (List AV×List AV)}(hpr:zuk r cs l)(hr:RowC r cs)(hn:r.length<=16){arg:AV}{i N:Nat}{oc:List AV}(hoc:oc.length=N)(hi:i<N)(hN:N<=16){ids:List Nat}{H0:Heap}(h00:getB H0 0=some oc)
  (hoci:oc.getD i .junk= .vec [] 0 (some 0)) (hids:∀id∈ids,id<H0.length/\id≠0) {v10:AV} {E:Env} {Q:Post} (e0:E 0=arg) (e3:E 3= .sl 0 0 N 1 (some N)) (e4:E 4= .int .i64 (i:Nat)) (e10:E 10=v10) (e11:E 11= .int .i64 (N:Nat))
  (e12:E 12= .int .i64 (i:Nat)) (e18:E 18= .vec cs r.length c) (e19:E 19= .int .i64 (r.length:Nat)) (e20:E 20= .int .i64 0)
  (hQ:∀E',E' 0=arg->E' 3= .sl 0 0 N 1 (some N)->E' 10=v10->E' 11= .int .i64 (N:Nat)->E' 12= .int .i64 (i:Nat)->Q (.exit 2) E' (zrh i (H0,.vec [] 0 (some 0)) l).1):
  Wg 0 38 (.loop l36_1) E H0 Q:=by
 have hall:=qdn hids h00 (by omega) hoci hpr (by omega)
 refine zax (λk E H=>∃j,j+k=r.length/\H=(zrh i (H0,.vec [] 0 (some 0)) (l.take j)).1/\E 0=arg/\E 3= .sl 0 0 N 1 (some N)/\E 4= .int .i64 (i:Nat)/\E 10=v10/\
  E 11= .int .i64 (N:Nat)/\E 12= .int .i64 (i:Nat)/\E 18= .vec cs r.length c/\E 19= .int .i64 (r.length:Nat)/\E 20= .int .i64 (j:Nat)) (n:=r.length) ⟨0,by omega,rfl,e0,e3,e4,e10,e11,e12,e18,e19,e20⟩ ?_
 rintro k E H ⟨j,hjk,hH,e0,e3,e4,e10,e11,e12,e18,e19,e20⟩;refine wM ?_;simp only[l36_1,r36_6,SS,reduceIte,e19,e20];refine⟨λhlt=>?_,λhge=>?_⟩
 ·obtain⟨k,rfl⟩:∃k',k=k'+1:=⟨k-1,by omega⟩
  obtain⟨u,v,x,y,hu,hl,hz,hw,tn⟩:=zxf hpr j (by omega);have hok:=hall j (by omega);obtain⟨hok2,e,rd,hap,g3,hH4,idn,nn,hv2⟩:=qdm (x:=[u,v]) hids hok (by omega) hw (by rw[yL];omega);have hnext:zrh i (H0,.vec [] 0 (some 0)) (l.take (j+1))=zuj i (zrh i (H0,.vec [] 0 (some 0)) (l.take j)) ([u,v],[x,y]):=zsf _ _ _ _ _ hl;generalize zrh i (H0,.vec [] 0 (some 0)) (l.take j)=st at*;subst hH;obtain⟨hp,hg,hkeep,hlen⟩:=hok;have hscz:AV.scalL [u,v]=true:=zlq (r:=[r.getD j 0]) (cs:=[u,v]) ⟨hz,trivial⟩;obtain⟨lz,cz,_,_,_,ez⟩:=hz;injection ez with ez
  injection ez with ez1 ez2
  injection ez2 with ez2 _
  obtain⟨lw,cw,_,_,_,ew⟩:=hw;injection ew with ew
  injection ew with ew1 ew2
  injection ew2 with ew2 _
  subst ez1 ez2 ew1 ew2;have hcl:=zda hr;have h0lt:0<st.1.length:=zas hg;have w5:=wS1 j (by omega);simp only[r36_7,SS,reduceIte,qK,qX,qJ,e18,e20,qV,hcl,hu,zef,set_snoc];refine⟨⟨by omega,by omega⟩,by omega,?_⟩;have g0:getB (st.1++[some [AV.bool (decide (r.getD j 0<0)),AV.vec (u32s lz) lz.length cz]]) 0=some (oc.set i st.2):=by rw[zfa h0lt];exact hg
  have ga:(oc.set i st.2).getD i AV.junk=st.2:=by
   rw[qZ,yD (by omega)];rfl
  simp only[r36_8,SS,fC,reduceIte,qK,qX,qJ,e3,e4,qV,g0,ga,xI,hoc,zef];refine⟨⟨by omega,by omega⟩,by omega,?_⟩;refine zaa tn ?_;simp only[SS,reduceIte,qK,qX,qJ,zdn];rw[hap];simp only[SS,g3,qV,xI,hoc,hv2];refine⟨⟨by omega,by omega⟩,by omega,by simp[dynB,zhg],?_⟩;simp only[r36_9,SS,reduceIte,qX,e20,w5];refine⟨k,_,_,by omega,⟨j+1,by omega,?_,?_,?_,?_,?_,?_,?_,?_,?_,?_⟩,.refl⟩
  ·rw[hnext,hH4,hv2,zT]
  all_goals simp only[UU,qX,reduceIte, *]
 ·have hk:j=r.length:=by omega
  subst hk;have hl:=zqj hpr;rw[qU (by omega)]at hH;rw[hH];exact hQ _ (by simp only[UU,qX, *]) (by simp only[UU,qX, *]) (by simp only[UU,qX, *]) (by simp only[UU,qX, *]) (by simp only[UU,qX, *])
abbrev nilV:AV:= .vec [] 0 (some 0)
def cpM(N:Nat)(ls:List (List (List AV×List AV))):Nat->Heap
 |0=>[some (List.replicate N nilV)]
 |i+1=>(zrh i (cpM N ls i,nilV) (ls.getD i [])).1
structure CpM(N n:Nat)(M:List (List Int))(H:Heap)(i:Nat)(ps:List (Nat×Option Nat)):Prop where
 len:ps.length=i
 outer:getB H 0=some (ps.map (zcl n)++List.replicate (N-i) nilV)
 rows:∀i',i'<i->∃cs,getB H (ps.getD i' (0,none)).1=some cs/\RowC (M.getD i' []) cs
 nodup:(0::ps.map (·.1)).Nodup
 lt:∀p∈ps,p.1<H.length
theorem jwo{N n i:Nat}{ps:List (Nat×Option Nat)}(hl:ps.length=i)(hi:i<N):(ps.map (zcl n)++List.replicate (N-i) nilV).getD i .junk=nilV:=by
 rw[qZ,qB (by simp;omega),xE,if_pos (by simp;omega)];rfl
theorem qog{N n i:Nat}{M:List (List Int)}{H:Heap}{ps:List (Nat×Option Nat)}(h:CpM N n M H i ps):∀id∈ps.map (·.1),id<H.length/\id≠0:=by
 intro id hid;have hn:=h.nodup;rw[qN]at hn;refine⟨?_,λe=>hn.1 (e ▸ hid)⟩;obtain⟨p,hp,rfl⟩:=List.mem_map.1 hid;exact h.lt p hp
theorem xyz{N n:Nat}{M:List (List Int)}{cf:Nat->List AV}{ls:List (List (List AV×List AV))}(hn:1<=n/\n<=16)(hc:∀i,i<N->(M.getD i []).length=n)(hls:∀i,i<N->zuk (M.getD i []) (cf i) (ls.getD i [])):
  ∀i,i<=N->∃ps,CpM N n M (cpM N ls i) i ps:=by
 intro i
 induction i with
 |zero=>
  intro _;refine⟨[],rfl,?_,λ_ h=>absurd h (by omega),by simp,by simp⟩;simp[cpM,getB]
 |succ i ih=>
  intro hi;obtain⟨ps,h⟩:=ih (by omega);have hri:=hc i (by omega);have hok:=qdn (qog h) h.outer (by simp[h.len];omega) (jwo h.len (by omega)) (hls i (by omega)) (by omega) (M.getD i []).length (qD _);rw[yM,qU (by rw[zqj (hls i (by omega))];omega)]at hok;obtain⟨hp,hg,hkeep,hlen⟩:=hok;rcases hp with⟨h1,_⟩ | ⟨_,id,cs,hid,hb,hrow,hnm⟩
  ·rw[h1]at hri;simp at hri;omega
  ·rw[hri]at hid;have hnm2:id≠0/\id∉ps.map (·.1):=⟨λe=>hnm (by simp[e]),λhm=>hnm (by simp only[xO];exact .inr hm)⟩
   refine⟨ps++[(id,none)],by simp[h.len],?_,?_,?_,?_⟩
   ·show getB (zrh i (cpM N ls i,nilV) (ls.getD i [])).1 0=_
    rw[hg,hid]
    have e:List.replicate (N-i) nilV=nilV::List.replicate (N-(i+1)) nilV:=by
     rw[<-xL];congr 1;omega
    rw[e,qA _ _ (by simp[h.len])];simp[h.len,zcl]
   ·intro i' hi';show∃cs,getB (zrh i (cpM N ls i,nilV) (ls.getD i [])).1 _=some cs/\_
    rcases xW i' i with hlt | hge
    ·obtain⟨cs',h1,h2⟩:=h.rows i' hlt;refine⟨cs',?_,h2⟩
     have e:(ps++[(id,none)]).getD i' (0,none)=ps.getD i' (0,none):=by
      rw[qZ,qE (by rw[h.len];exact hlt),qZ]
     rw[e,hkeep _ (by
      rw[qZ,qW (by rw[h.len];exact hlt)];exact List.mem_map.2 ⟨_,xJ _,rfl⟩)]
     exact h1
    ·have e:i'=i:=by omega
     subst e;refine⟨cs,?_,hrow⟩
     have e:(ps++[(id,(none:Option Nat))]).getD i' (0,none)=(id,none):=by
      rw[qZ,qB (by rw[h.len];exact qD _),h.len,xZ];rfl
     rw[e];exact hb
   ·rw[yV];have hn0:=h.nodup;rw[qN]at hn0 ⊢;refine⟨?_,?_⟩
    ·intro hm;rcases List.mem_append.1 hm with hm | hm
     ·exact hn0.1 hm
     ·simp at hm;exact hnm2.1 hm.symm
    ·rw[List.nodup_append];refine⟨hn0.2,by simp,?_⟩;intro x hx y hy;simp at hy;subst hy;intro e;exact hnm2.2 (e ▸ hx)
   ·intro p hp;rcases List.mem_append.1 hp with hp | hp
    ·have:=h.lt p hp;exact qL this hlen
    ·simp at hp;subst hp;exact zas hb
theorem xza{M:List (List Int)}{a:AV}{n:Nat}(h:MatV M a)(hn:1<=n/\n<=16)(hN:M.length<=16)(hc:∀i,i<M.length->(M.getD i []).length=n):
  ∃ps H',MatH H' 0 ps n M/\Rt 36 [a] [] (.sl 0 0 M.length 1 (some M.length)) H':=by
 obtain⟨rows,c,rfl,hl,hr⟩:=h
 have hex:∀i,i<M.length->∃l cs c,rows.getD i .junk= .vec cs (M.getD i []).length c/\RowC (M.getD i []) cs/\zuk (M.getD i []) cs l:=by
  intro i hi;obtain⟨cs,c,h1,h2⟩:=hr i hi;obtain⟨l,hl⟩:=qwy h2;exact⟨l,cs,c,h1,h2,hl⟩
 have hch:∃(ls:List (List (List AV×List AV))) (cf:Nat->List AV),∀i,i<M.length->(∃c,rows.getD i .junk= .vec (cf i) (M.getD i []).length c)/\RowC (M.getD i []) (cf i)/\zuk (M.getD i []) (cf i) (ls.getD i []):=by
  refine⟨(List.range M.length).map λi=>if h:i<M.length then Classical.choose (hex i h)else[],λi=>if h:i<M.length then Classical.choose (Classical.choose_spec (hex i h))else[],λi hi=>?_⟩;obtain⟨c,h1,h2,h3⟩:=Classical.choose_spec (Classical.choose_spec (hex i hi))
  have e:((List.range M.length).map λi=>if h:i<M.length then Classical.choose (hex i h)else[]).getD i []=Classical.choose (hex i hi):=by
   rw[qZ,qG,yR hi];simp[hi]
  rw[e];simp only[hi,dif_pos];exact⟨⟨c,h1⟩,h2,h3⟩
 obtain⟨ls,cf,hls⟩:=hch;have hall:=xyz (N:=M.length) (cf:=cf) hn hc (λi hi=>(hls i hi).2.2);obtain⟨ps,hps⟩:=hall M.length (qD _);refine⟨ps,cpM M.length ls M.length,⟨?_,hps.len,hc,hps.rows,hps.nodup⟩,?_⟩
 ·have:=hps.outer;rw[xZ,xX,xB]at this;exact this
 refine oF o36 ?_;simp only[c36,r36_0,r36_1,SS,reduceCtorEq,reduceIte,qX,qV];refine⟨by omega,⟨by omega,by omega,by omega,by omega⟩,?_⟩;simp only[r36_2,SS,reduceCtorEq,reduceIte,qX];refine zax (λk E H=>∃i,i+k=M.length/\H=cpM M.length ls i/\E 0= .vec rows M.length c/\E 3= .sl 0 0 M.length 1 (some M.length)/\E 10= .vec rows M.length c/\E 11= .int .i64 (M.length:Nat)/\E 12= .int .i64 (i:Nat)) (n:=M.length) ⟨0,by omega,rfl,?_,?_,?_,?_,?_⟩ ?_
 ·rfl
 ·rfl
 ·rfl
 ·rfl
 ·rfl
 rintro k E H ⟨i,hik,rfl,e0,e3,e10,e11,e12⟩;refine wM ?_;simp only[l36_0,r36_3,SS,reduceCtorEq,reduceIte,e11,e12];refine⟨λhlt=>?_,λhge=>?_⟩
 ·obtain⟨k,rfl⟩:∃k',k=k'+1:=⟨k-1,by omega⟩
  obtain⟨⟨ci,hci⟩,hrow,hpi⟩:=hls i (by omega);obtain⟨qs,hqs⟩:=hall i (by omega);have w5:=wS1 i (by omega);simp only[r36_4,r36_5,SS,fC,reduceCtorEq,reduceIte,qX,e0,e12,qV,hci,hl];refine⟨⟨by omega,by omega⟩,by omega,?_⟩;refine qwz (c:=ci) hpi hrow (by rw[hc i (by omega)];omega) (N:=M.length) (i:=i) (by simp[hqs.len];omega) (by omega) hN hqs.outer (jwo hqs.len (by omega)) (qog hqs) (v10:= .vec rows M.length c) (arg:= .vec rows M.length c) ?_ ?_ ?_ ?_ ?_ ?_ ?_ ?_ ?_ (λE1 f0 f3 f10 f11 f12=>?rest)
  case rest=>
   simp only[r36_10,SS,reduceCtorEq,reduceIte,qX,f12,w5];refine⟨k,_,_,by omega,⟨i+1,by omega,rfl,?_,?_,?_,?_,?_⟩,.refl⟩<;>simp only[UU,qX,reduceIte, *]
  all_goals simp only[UU,qX,reduceIte, *]
 ·have hk:i=M.length:=by omega
  subst hk;simp only[r36_11,SS,reduceIte,qX,e3];exact kR
def DivB(B:Nat):Prop:=B<=BIG/\∀x y:Int,x.natAbs<B->y.natAbs<B->y≠0->∀m n c d,zck m->zck n->m.length<=1100->n.length<=1100->val m=x.natAbs->val n=y.natAbs->DivC m n c d
def pid(ps:List (Nat×Option Nat))(i:Nat):Nat:=(ps.getD i (0,none)).1
theorem zci{ps:List (Nat×Option Nat)}{n i:Nat}(hi:i<ps.length):(ps.map (zcl n)).getD i .junk= .sl (pid ps i) 0 n 2 (ps.getD i (0,none)).2:=by
 rw[qZ,qG,qW hi];simp[zcl,pid,qZ,hi]
theorem zfk{H:Heap}{o n:Nat}{ps:List (Nat×Option Nat)}{M:List (List Int)}(h:MatH H o ps n M){i:Nat}(hi:i<M.length):∃cs,getB H (pid ps i)=some cs/\cs.length=n*2/\RowC (M.getD i []) cs/\
  ∀j,j<n->∃u v,(cs.drop (j*2)).take 2=[u,v]/\zat (ent M i j) (.agg [u,v]):=by
 obtain⟨cs,h1,h2⟩:=h.rows i hi;have hl:=zda h2;rw[h.cols i hi]at hl;refine⟨cs,h1,hl,h2,λj hj=>?_⟩;exact zez h2 j (by rw[h.cols i hi];exact hj)
theorem zim{ps:List (Nat×Option Nat)}{i:Nat}(hi:i<ps.length):pid ps i∈ps.map (·.1):=by
 unfold pid;rw[qZ,qW hi];exact List.mem_map.2 ⟨_,xJ _,rfl⟩
theorem qoh{ps:List (Nat×Option Nat)}(hn:(ps.map (·.1)).Nodup){i j:Nat}(hi:i<ps.length)(hj:j<ps.length)(h:pid ps i=pid ps j):i=j:=by
 unfold pid at h;rw[qZ,qW hi,qZ,qW hj]at h;have key:=List.pairwise_iff_getElem.1 hn;rcases Nat.lt_trichotomy i j with hlt | he | hlt
 ·exact absurd (by rw[qP,qP];exact h) (key i j (by simpa using hi) (by simpa using hj) hlt)
 ·exact he
 ·exact absurd (by rw[qP,qP];exact h.symm) (key j i (by simpa using hj) (by simpa using hi) hlt)
theorem zkl{H:Heap}{o n:Nat}{ps:List (Nat×Option Nat)}{M:List (List Int)}(h:MatH H o ps n M){i j:Nat}(hi:i<M.length)(hj:j<n){z:Int}{u v:AV}(hz:zat z (.agg [u,v])){cs:List AV}(hcs:getB H (pid ps i)=some cs):
  MatH (H.set (pid ps i) (some (setL cs (j*2) [u,v]))) o ps n (setM M i j z):=by
 have hnd:=h.nodup;rw[qN]at hnd;have hoi:pid ps i≠o:=λe=>hnd.1 (e ▸ zim (by rw[h.len];exact hi))
 refine⟨by rw[zar hoi];exact h.outer,by rw[zcq];exact h.len,?_,?_,h.nodup⟩
 ·intro i' hi';rw[zcq]at hi';unfold setM;rw[qZ,yE];split
  ·rename_i e;subst e;show((M.getD i []).set j z).length=n
   rw[xI];exact h.cols i hi
  ·rw[<-qZ];exact h.cols i' hi'
 ·intro i' hi';rw[zcq]at hi';by_cases e:i=i'
  ·subst e;obtain⟨cs',h1,h2⟩:=h.rows i hi
   have:cs'=cs:=by
    have:=h1.symm.trans hcs;simpa using this
   subst this;refine⟨_,zbl (zas hcs),?_⟩;unfold setM;rw[qZ,yD hi];exact qdj h2 j z u v (by rw[h.cols i hi];exact hj) hz
  ·obtain⟨cs',h1,h2⟩:=h.rows i' hi';refine⟨cs',?_,?_⟩
   ·show getB (List.set H (pid ps i) _) (pid ps i')=_
    rw[zar (λe'=>e (qoh hnd.2 (by rw[h.len];exact hi) (by rw[h.len];exact hi') e'))];exact h1
   ·unfold setM;rw[qZ,zD e,<-qZ];exact h2
structure DS(n:Nat)(M:List (List Int))(last:Int)(neg:Bool)(k:Nat)(E:Env)(H:Heap)(ps:List (Nat×Option Nat))(b:Nat):Prop where
 mat:MatH H 1 ps n M
 rows:M.length=n
 e2:E 2= .ptr 0 0
 e3:E 3= .sl 1 0 n 1 (some n)
 e4:E 4= .int .i64 (n:Nat)
 e5:E 5= .ptr b 0
 e6:E 6= .bool neg
 e7:E 7= .int .i64 (k:Nat)
 last:∃u v,getB H b=some [u,v]/\zat last (.agg [u,v])
 res:∃u v,getB H 0=some [u,v]
 nodup:(0::b::1::ps.map (·.1)).Nodup
theorem DS.frame{n k b:Nat}{M:List (List Int)}{last:Int}{neg:Bool}{E E':Env}{H:Heap}{ps:List (Nat×Option Nat)}(h:DS n M last neg k E H ps b)(hE:∀t,t<8->E' t=E t):DS n M last neg k E' H ps b:=
 ⟨h.mat,h.rows,(hE 2 (by omega)).trans h.e2,(hE 3 (by omega)).trans h.e3,(hE 4 (by omega)).trans h.e4,(hE 5 (by omega)).trans h.e5,(hE 6 (by omega)).trans h.e6,(hE 7 (by omega)).trans h.e7,h.last,h.res,h.nodup⟩
theorem zlr{E:Env}{d:Nat}{v:AV}{t:Nat}(ht:t<8)(hd:8<=d):upd E d v t=E t:=by
 unfold upd;rw[if_neg (by omega)]
theorem zaj{z:Int}{u v:AV}(h:zat z (.agg [u,v])):∃l c,u= .bool (decide (z<0))/\v= .vec (u32s l) l.length c:=by
 obtain⟨l,c,_,_,_,e⟩:=h;injection e with e
 injection e with e1 e2
 injection e2 with e2 _
 exact⟨l,c,e1,e2⟩
theorem kqn{B n k i b:Nat}{last:Int}{neg:Bool}(hB:DivB B)(hn:n<=16)(hk:k<n)(hi:k<i/\i<n){fin:List (List Int)}{Q:Post}:∀{E:Env} {H:Heap} {ps:List (Nat×Option Nat)} {M:List (List Int)},
  DS n M last neg k E H ps b->E 9= .int .i64 (i:Nat)->E 10= .int .i64 ((k+1:Nat):Int)->elJ B k i last (n-(k+1)) (k+1) M=some fin->
  (∀E' H',DS n fin last neg k E' H' ps b->E' 9= .int .i64 (i:Nat)->Q (.exit 6) E' H')->Wg 0 125 (.loop l19_3) E H Q:=by
 intro E H ps M hD h9 h10 hf hQ;refine zax (λm E H=>∃j M,j+m=n/\k<j/\DS n M last neg k E H ps b/\E 9= .int .i64 (i:Nat)/\E 10= .int .i64 (j:Nat)/\elJ B k i last m j M=some fin) (n:=n-(k+1)) ⟨k+1,M,by omega,by omega,hD,h9,h10,hf⟩ ?_;clear hD h9 h10 hf M E H;rintro m E H ⟨j,M,hjm,hkj,hD,h9,h10,hf⟩;refine wM ?_;obtain⟨hM,hrows,e2,e3,e4,e5,e6,e7,⟨lu,lv,hlast,hl⟩,⟨ru,rv,hres⟩,hnd⟩:=hD;simp only[l19_3,r19_17,SS,reduceIte,qX,e4,h10];refine⟨λhlt=>?_,λhge=>?_⟩
 ·obtain⟨m,rfl⟩:∃m',m=m'+1:=⟨m-1,by omega⟩
  have hj:j<n:=by omega
  simp only[elJ,xU]at hf;obtain⟨z,hz,hf⟩:=hf;obtain⟨b0,b1,b2,b3,b4,hzz,b5⟩:=zxg hz;obtain⟨csi,gi,li,ri,fi⟩:=zfk hM (i:=i) (by omega);obtain⟨csk,gk,lk,rk,fk⟩:=zfk hM (i:=k) (by omega);obtain⟨u1,v1,x1,y1⟩:=fk k hk;obtain⟨u2,v2,x2,y2⟩:=fi j hj;obtain⟨u3,v3,x3,y3⟩:=fi k hk;obtain⟨u4,v4,x4,y4⟩:=fk j hj;obtain⟨p,hp,t1⟩:=zMul y1 y2 (qL b2 hB.1);obtain⟨q,hq,t2⟩:=zMul y3 y4 (qL b3 hB.1);obtain⟨s,hs,t3⟩:=zSub hp hq (qL b4 hB.1);obtain⟨d,hd,t4⟩:=zQuo hs hl b0 (hB.2 _ _ b4 b1 b0) (by rw[<-hzz];exact qL b5 hB.1);rw[<-hzz]at hd;have oi:=zci (ps:=ps) (n:=n) (i:=i) (by rw[hM.len];omega);have ok:=zci (ps:=ps) (n:=n) (i:=k) (by rw[hM.len];omega);have hol:(ps.map (zcl n)).length=n:=by rw[xQ,hM.len];exact hrows
  have hou:=hM.outer;have hpc:=hp.closed;have hqc:=hq.closed;have hsc:=hs.closed;have w5:=wS1 j (by omega);have hd0:=hd;obtain⟨ld,cd,_,_,_,rfl⟩:=hd0;have hdr:(lu,lv)=(lu,lv):=rfl;have hlast2:([lu,lv].drop 0).take 2=[lu,lv]:=rfl
  have c1:qY [.agg [u1,v1],.agg [u2,v2]]=true:=by
   simp only[qY,y1.closed,y2.closed,qI]
  have c2:qY [.agg [u3,v3],.agg [u4,v4]]=true:=by
   simp only[qY,y3.closed,y4.closed,qI]
  have c3:qY [p,q]=true:=by simp only[qY,hpc,hqc,qI]
  have c4:qY [s,.agg [lu,lv]]=true:=by simp only[qY,hsc,hl.closed,qI]
  simp only[r19_18,SS,fC,reduceIte,qX,e3,e7,h9,h10,qV,hou,hol,oi,ok,gi,gk,li,lk,x1,x2];refine⟨⟨by omega,by omega⟩,by omega,⟨by omega,by omega⟩,by omega,⟨by omega,by omega⟩,by omega,⟨by omega,by omega⟩,by omega,⟨by omega,by omega⟩,by omega,?_⟩;refine zaa t1 ?_ c1 hpc;simp only[SS,fC,reduceIte,qX,e3,e7,h9,h10,qV,hou,hol,oi,ok,gi,gk,li,lk,x3,x4];refine⟨⟨by omega,by omega⟩,by omega,⟨by omega,by omega⟩,by omega,⟨by omega,by omega⟩,by omega,⟨by omega,by omega⟩,by omega,?_⟩;refine zaa t2 ?_ c2 hqc;simp only[SS,reduceIte,qX];refine zaa t3 ?_ c3 hsc;simp only[SS,reduceIte,qK,qX,qJ,e5,hlast];refine zaa t4 ?_ c4;simp only[SS,reduceIte,qK,qX,qV,gi,li];refine⟨⟨by omega,by omega⟩,by omega,rfl,?_⟩;have hs2:((csi.set (j*2) (AV.bool (decide (z<0)))).set (j*2+1) (AV.vec (u32s ld) ld.length cd))=setL csi (j*2) [AV.bool (decide (z<0)),AV.vec (u32s ld) ld.length cd]:=rfl;rw[hs2];simp only[r19_19,SS,reduceIte,qX,h10,w5];have hnd2:=hnd;simp only[qN,xO,not_or]at hnd2;have hpi:pid ps i∈ps.map (·.1):=zim (by rw[hM.len];omega);have hpi0:pid ps i≠0:=λe=>hnd2.1.2.2 (e ▸ hpi)
  have hpib:pid ps i≠b:=λe=>hnd2.2.1.2 (e ▸ hpi)
  refine⟨m,_,_,by omega,⟨j+1,setM M i j z,by omega,by omega,⟨zkl hM (by omega) hj hd gi,by rw[zcq];exact hrows,?_,?_,?_,?_,?_,?_,⟨lu,lv,?_,hl⟩,⟨ru,rv,?_⟩,hnd⟩,?_,?_,hf⟩,.refl⟩
  ·exact e2
  ·exact e3
  ·exact e4
  ·exact e5
  ·exact e6
  ·exact e7
  ·rw[zar hpib];exact hlast
  ·rw[zar hpi0];exact hres
  ·simp only[UU,qX,h9]
  ·rfl
 ·have hk2:m=0:=by omega
  subst hk2;simp only[elJ,xG]at hf;subst hf;refine hQ _ _ (DS.frame (E:=E) ⟨hM,hrows,e2,e3,e4,e5,e6,e7,⟨lu,lv,hlast,hl⟩,⟨ru,rv,hres⟩,hnd⟩ (λt ht=>?_)) ?_
  ·repeat rw[zlr ht (by decide)]
  ·simp only[UU,qX,h9]
theorem xzc{B n k b:Nat}{last:Int}{neg:Bool}(hB:DivB B)(hn:n<=16)(hk:k<n){fin:List (List Int)}{Q:Post}{E:Env}{H:Heap}{ps:List (Nat×Option Nat)}{M:List (List Int)}
  (hD:DS n M last neg k E H ps b) (h9:E 9= .int .i64 ((k+1:Nat):Int)) (hf:elI B n k last (n-(k+1)) (k+1) M=some fin)
  (hQ:∀E' H',DS n fin last neg k E' H' ps b->Q (.exit 4) E' H'):Wg 0 125 (.loop l19_2) E H Q:=by
 refine zax (λm E H=>∃i M,i+m=n/\k<i/\DS n M last neg k E H ps b/\E 9= .int .i64 (i:Nat)/\elI B n k last m i M=some fin) (n:=n-(k+1)) ⟨k+1,M,by omega,by omega,hD,h9,hf⟩ ?_;clear hD h9 hf M E H;rintro m E H ⟨i,M,him,hki,hD,h9,hf⟩;refine wM ?_;have hD0:=hD;obtain⟨hM,hrows,e2,e3,e4,e5,e6,e7,hlast,hres,hnd⟩:=hD;simp only[l19_2,r19_15,SS,reduceIte,qX,e4,h9];refine⟨λhlt=>?_,λhge=>?_⟩
 ·obtain⟨m,rfl⟩:∃m',m=m'+1:=⟨m-1,by omega⟩
  simp only[elI,xU]at hf;obtain⟨M',hf1,hf2⟩:=hf;have w5:=wS1 i (by omega);have w6:=wS1 k (by omega);simp only[r19_16,SS,reduceIte,qX,e7,w6];refine kqn hB hn hk ⟨hki,by omega⟩ (ps:=ps) (b:=b) (last:=last) (neg:=neg) (i:=i) (hD0.frame (λt ht=>?_)) ?_ ?_ hf1 (λE1 H1 hD1 f9=>?rest)
  case rest=>
   simp only[r19_20,SS,reduceIte,qX,f9,w5];refine⟨m,_,_,by omega,⟨i+1,M',by omega,by omega,hD1.frame (λt ht=>?_),?_,hf2⟩,.refl⟩
   ·repeat rw[zlr ht (by decide)]
   ·rfl
  ·repeat rw[zlr ht (by decide)]
  ·simp only[UU,qX,h9]
  ·rfl
 ·have hk2:m=0:=by omega
  subst hk2;simp only[elI,xG]at hf;subst hf;refine hQ _ _ (hD0.frame (λt ht=>?_))
  repeat rw[zlr ht (by decide)]
theorem kqo{n k b:Nat}{last:Int}{neg:Bool}(hn:n<=16)(hk:k<n){Q:Post}{E:Env}{H:Heap}{ps:List (Nat×Option Nat)}{M:List (List Int)}
  (hD:DS n M last neg k E H ps b) (h8:E 8= .int .i64 (k:Nat))
  (hQ:∀E',DS n M last neg k E' H ps b->E' 8= .int .i64 (piv M k (n-k) k:Nat)->Q (.exit 2) E' H):Wg 0 125 (.loop l19_1) E H Q:=by
 refine zax (λm E H'=>∃p,p+m=n/\k<=p/\H'=H/\DS n M last neg k E H ps b/\E 8= .int .i64 (p:Nat)/\piv M k m p=piv M k (n-k) k) (n:=n-k) ⟨k,by omega,by omega,rfl,hD,h8,rfl⟩ ?_;clear hD h8 E;rintro m E H' ⟨p,hpm,hkp,rfl,hD,h8,hp⟩;refine wM ?_;have hD0:=hD;obtain⟨hM,hrows,e2,e3,e4,e5,e6,e7,hlast,hres,hnd⟩:=hD;cases m with
 |zero=>
  have d1:decide ((p:Int)<(n:Nat))=false:=dF;simp only[l19_1,r19_7,SS,fC,reduceIte,qX,e4,h8,d1];simp only[piv]at hp;refine hQ _ (hD0.frame (λt ht=>?_)) ?_
  ·repeat rw[zlr ht (by decide)]
  ·simp only[UU,qX,h8,hp]
 |succ m=>
  have d1:decide ((p:Int)<(n:Nat))=true:=dT;obtain⟨csp,gp,lp,rp,fp⟩:=zfk hM (i:=p) (by omega);obtain⟨u,v,x,y⟩:=fp k hk;have op:=zci (ps:=ps) (n:=n) (i:=p) (by rw[hM.len];omega);have hol:(ps.map (zcl n)).length=n:=by rw[xQ,hM.len];exact hrows
  have hou:=hM.outer;have t:=zxd y;have c1:qY [.agg [u,v]]=true:=by simp only[qY,y.closed,qI]
  have w5:=wS1 p (by omega);simp only[l19_1,r19_7,SS,fC,reduceIte,qX,e3,e4,e7,h8,d1,qV,hou,hol,op,gp,lp,x];refine⟨⟨by omega,by omega⟩,by omega,⟨by omega,by omega⟩,by omega,?_⟩;refine zaa t ?_ c1;simp only[SS,fC,reduceIte,qX];simp only[piv]at hp;refine⟨λh0=>?_,λh0=>?_⟩
  ·have h0:ent M p k=0:=Int.sign_eq_zero_iff_zero.1 h0;rw[if_pos h0]at hp;simp only[r19_8,SS,reduceIte,qX,h8,w5];refine⟨m,_,_,by omega,⟨p+1,by omega,by omega,rfl,hD0.frame (λt ht=>?_),?_,hp⟩,.refl⟩
   ·repeat rw[zlr ht (by decide)]
   ·rfl
  ·have h0:¬ent M p k=0:=λe=>h0 (by rw[e];rfl)
   rw[if_neg h0]at hp;refine hQ _ (hD0.frame (λt ht=>?_)) ?_
   ·repeat rw[zlr ht (by decide)]
   ·simp only[UU,qX,h8,hp]
def zgd(ps:List (Nat×Option Nat))(p k:Nat):List (Nat×Option Nat):=(ps.set p (ps.getD k (0,none))).set k (ps.getD p (0,none))
theorem zqo{α:Type}{l:List α}{p k i:Nat}{d:α}(hp:p<l.length)(hk:k<l.length):((l.set p (l.getD k d)).set k (l.getD p d)).getD i d=l.getD (if i=k then p else if i=p then k else i) d:=by
 rw[qZ,yE];by_cases h1:k=i
 ·subst h1;rw[if_pos rfl,if_pos (by simpa using hk),if_pos rfl];rfl
 ·rw[if_neg h1,if_neg (λe=>h1 e.symm),yE];by_cases h2:p=i
  ·subst h2;rw[if_pos rfl,if_pos hp,if_pos rfl];rfl
  ·rw[if_neg h2,if_neg (λe=>h2 e.symm),qZ]
theorem qdo{H:Heap}{o n:Nat}{ps:List (Nat×Option Nat)}{M:List (List Int)}(h:MatH H o ps n M){p k:Nat}(hp:p<M.length)(hk:k<M.length):
  MatH (H.set o (some (((ps.map (zcl n)).set p (.sl (pid ps k) 0 n 2 (ps.getD k (0,none)).2)).set k (.sl (pid ps p) 0 n 2 (ps.getD p (0,none)).2)))) o (zgd ps p k) n (zdb M p k)/\(∀x,x∈(zgd ps p k).map (·.1)↔x∈ps.map (·.1))/\((zgd ps p k).map (·.1)).Nodup:=by
 have hnd:=h.nodup;rw[qN]at hnd;have hlen:=h.len
 have hidx:∀i,i<M.length->(if i=k then p else if i=p then k else i)<M.length:=by
  intro i hi;split
  ·exact hp
  ·split<;>omega
 have hpid:∀i,pid (zgd ps p k) i=pid ps (if i=k then p else if i=p then k else i):=by
  intro i;unfold pid zgd;rw[zqo (by omega) (by omega)]
 have hsl:(zgd ps p k).length=ps.length:=by simp[zgd]
 have hmem:∀x,x∈(zgd ps p k).map (·.1)↔x∈ps.map (·.1):=by
  intro x;constructor
  ·intro hx;obtain⟨q,hq,rfl⟩:=List.mem_map.1 hx;unfold zgd at hq;rcases zW hq with hq | rfl
   ·rcases zW hq with hq | rfl
    ·exact List.mem_map.2 ⟨q,hq,rfl⟩
    ·exact zim (i:=k) (by omega)
   ·exact zim (i:=p) (by omega)
  ·intro hx;obtain⟨q,hq,rfl⟩:=List.mem_map.1 hx;obtain⟨i,hi,rfl⟩:=List.mem_iff_getElem.1 hq;have e:=hpid (if i=k then p else if i=p then k else i)
   have e2:(if(if i=k then p else if i=p then k else i)=k then p else if(if i=k then p else if i=p then k else i)=p then k else(if i=k then p else if i=p then k else i))=i:=by
    by_cases h1:i=k
    ·subst h1;rw[if_pos rfl];by_cases h2:p=i
     ·rw[if_pos h2];exact h2
     ·rw[if_neg h2,if_pos rfl]
    ·rw[if_neg h1];by_cases h2:i=p
     ·subst h2;rw[if_pos rfl,if_pos rfl]
     ·rw[if_neg h2,if_neg h1,if_neg h2]
   rw[e2]at e;have e3:pid ps i=ps[i].1:=by unfold pid;rw[qZ,qW hi];rfl
   rw[<-e3,<-e];exact zim (by rw[hsl,hlen];exact hidx i (by omega))
 have hnd2:((zgd ps p k).map (·.1)).Nodup:=by
  refine List.pairwise_iff_getElem.2 (λi j hi hj hij=>?_);rw[qP,qP];simp only[xQ,hsl]at hi hj;have e1:(zgd ps p k)[i]'(by rw[hsl];exact hi)=(zgd ps p k).getD i (0,none):=by rw[qZ,qW (by rw[hsl];exact hi)];rfl
  have e2:(zgd ps p k)[j]'(by rw[hsl];exact hj)=(zgd ps p k).getD j (0,none):=by rw[qZ,qW (by rw[hsl];exact hj)];rfl
  rw[e1,e2];intro e;have e':pid (zgd ps p k) i=pid (zgd ps p k) j:=e;rw[hpid,hpid]at e';have:=qoh hnd.2 (by rw[hlen];exact hidx i (by omega)) (by rw[hlen];exact hidx j (by omega)) e';revert this;by_cases h1:i=k
  ·by_cases h3:j=p
   ·rw[if_pos h1,if_neg (show¬j=k by omega),if_pos h3];omega
   ·rw[if_pos h1,if_neg (show¬j=k by omega),if_neg h3];omega
  ·by_cases h2:i=p
   ·by_cases h3:j=k
    ·rw[if_neg h1,if_pos h2,if_pos h3];omega
    ·rw[if_neg h1,if_pos h2,if_neg h3,if_neg (show¬j=p by omega)];omega
   ·by_cases h3:j=k
    ·rw[if_neg h1,if_neg h2,if_pos h3];omega
    ·by_cases h4:j=p
     ·rw[if_neg h1,if_neg h2,if_neg h3,if_pos h4];omega
     ·rw[if_neg h1,if_neg h2,if_neg h3,if_neg h4];omega
 refine⟨⟨?_,?_,?_,?_,?_⟩,hmem,hnd2⟩
 ·rw[zbl (zas h.outer)];have e1:AV.sl (pid ps k) 0 n 2 (ps.getD k (0,none)).2=zcl n (ps.getD k (0,none)):=rfl;have e2:AV.sl (pid ps p) 0 n 2 (ps.getD p (0,none)).2=zcl n (ps.getD p (0,none)):=rfl;rw[e1,e2,<-yC,<-yC];rfl
 ·rw[hsl,hlen];simp[zdb]
 ·intro i hi;have hi:i<M.length:=by simpa[zdb]using hi
  unfold zdb;rw[zqo hp hk];exact h.cols _ (hidx i hi)
 ·intro i hi;have hi:i<M.length:=by simpa[zdb]using hi
  obtain⟨cs,h1,h2⟩:=h.rows _ (hidx i hi);refine⟨cs,?_,?_⟩
  ·show getB _ (pid (zgd ps p k) i)=_
   have hne:o≠pid ps (if i=k then p else if i=p then k else i):=λe=>hnd.1 (by rw[e];exact zim (by rw[hlen];exact hidx i hi))
   rw[hpid,zar hne];exact h1
  ·unfold zdb;rw[zqo hp hk];exact h2
 ·rw[qN];exact⟨λhm=>hnd.1 ((hmem _).1 hm),hnd2⟩
def zsh:Nat->Nat->List Nat
 |0,_=>[]
 |f+1,n=>if n=0 then[]else n%4294967296::zsh f (n/4294967296)
def zcn(n:Nat):List Nat:=zsh n n
theorem zxh:∀f n,n<=f->zck (zsh f n)/\val (zsh f n)=n:=by
 intro f
 induction f with
 |zero=>
  intro n h;have:n=0:=by omega
  subst this;exact⟨zck.nil,rfl⟩
 |succ f ih=>
  intro n h;unfold zsh;by_cases h0:n=0
  ·rw[if_pos h0,h0];exact⟨zck.nil,rfl⟩
  ·rw[if_neg h0];obtain⟨h1,h2⟩:=ih (n/4294967296) (by omega);refine⟨⟨Dig.cons (zX _ (by decide)) h1.1,?_⟩,?_⟩
   ·cases e:zsh f (n/4294967296)with
    |nil=>
     rw[e]at h2;have:n/4294967296=0:=h2.symm
     show n%4294967296≠0
     omega
    |cons d r=>
     have:=h1.2;rw[e]at this;exact this
   ·rw[Limb.val,h2];omega
theorem zcf(n:Nat):zck (zcn n):=(zxh n n (qD _)).1
theorem zdc(n:Nat):val (zcn n)=n:=(zxh n n (qD _)).2
def intV(z:Int):AV:= .agg [.bool (decide (z<0)),.vec (u32s (zcn z.natAbs)) (zcn z.natAbs).length none]
theorem qoi(l:List Nat):AV.wk.wkL (u32s l)=u32s l:=by
 induction l with
 |nil=>rfl
 |cons d l ih=>show AV.wk (.int .u32 d)::AV.wk.wkL (u32s l)=_;rw[ih];rfl
theorem zat.wk{z:Int}{a:AV}(h:zat z a):a.wk=intV z:=by
 obtain⟨l,c,hc,_,hv,rfl⟩:=h;have:l=zcn z.natAbs:=zlg hc (zcf _) (hv.trans (zdc _).symm);subst this;simp only[AV.wk,AV.wk.wkL,qoi,intV]
theorem zbp{z:Int}(h:z.natAbs<BIG):zat z (intV z):=
 ⟨zcn z.natAbs,none,zcf _,canon_len (zcf _) (by rw[zdc];exact h),zdc _,rfl⟩
theorem zbn(k i:Nat):zag [] k i=k+i:=by simp[zag]
theorem zhn{H:Heap}(σ:Nat->Nat)(hσ:∀i,σ i=H.length+i):∀(L X:Heap),zaf (effs σ X.length L) (H++(X++List.replicate L.length none))=H++(X++L.map (renB σ)):=by
 intro L
 induction L with
 |nil=>intro X;simp[effs,zaf]
 |cons c L ih=>
  intro X;simp only[effs,zaf,zY,xL]
  have e:(H++(X++none::List.replicate L.length none)).set (σ X.length) (renB σ c)=H++((X++[renB σ c])++List.replicate L.length none):=by
   rw[hσ,qA _ _ (by omega),xY,qA _ _ (qD _),xZ];simp
  rw[e];have:=ih (X++[renB σ c]);rw[xD,yI]at this;rw[this];simp
theorem zeb{f:FuncId}{args:List AV}{v:AV}{H H0:Heap}{K:AV->Eff->List Nat->Nat->Prop}(h:Rt f args [] v H0)(ha:qY args=true)
  (hk:K (v.ren (zag [] H.length)) (effs (zag [] H.length) 0 H0) [] H0.length):ztp Tryz.prog G f args H K:=by
 refine⟨_,_,_,_,?_,hk⟩;have:=CallR0.mk (P:= Tryz.prog) (Γ:=G) (f:=f) (args:=args) (k:=H.length) (H:=H++List.replicate H0.length none) [] args [] v H0 h rfl .nil (by simp) (zaq _ _ ha).symm (zbs _ _ ha) (by intro i c h;simp at h);exact .base this
theorem qdp{H L:Heap}{σ:Nat->Nat}{i:Nat}{cs:List AV}(h:getB L i=some cs):getB (H++L.map (renB σ)) (H.length+i)=some (cs.map (AV.ren σ)):=by
 unfold getB at h ⊢;rw[qB (by omega),xY,qG];cases hx:L[i]? with
 |none=>rw[hx]at h;simp at h
 |some c=>
  rw[hx]at h;cases c with
  |none=>simp at h
  |some c=>simp at h;subst h;rfl
theorem zls{H L:Heap}{n:Nat}{ps:List (Nat×Option Nat)}{M:List (List Int)}(h:MatH L 0 ps n M):MatH (H++L.map (renB (zag [] H.length))) H.length (ps.map λp=>(H.length+p.1,p.2)) n M:=by
 have hp:∀i,i<ps.length->pid (ps.map λp=>(H.length+p.1,p.2)) i=H.length+pid ps i:=by
  intro i hi;unfold pid;rw[qZ,qG,qW hi,qZ,qW hi];rfl
 refine⟨?_,by rw[xQ];exact h.len,h.cols,?_,?_⟩
 ·have:=qdp (H:=H) (σ:=zag [] H.length) h.outer;rw[yQ]at this;rw[this,yG,yG]
  have e:(AV.ren (zag [] H.length) ∘ zcl n)=(zcl n ∘ λp=>(H.length+p.1,p.2)):=by
   funext p;simp[zcl,AV.ren,zbn]
  rw[e]
 ·intro i hi;obtain⟨cs,h1,h2⟩:=h.rows i hi;refine⟨cs,?_,h2⟩
  show getB _ (pid _ i)=_
  have h1':getB L (pid ps i)=some cs:=h1;rw[hp i (by rw[h.len];exact hi),qdp h1',zaq _ _ (qak h2)]
 ·have hnd:=h.nodup;rw[qN]at hnd ⊢;rw[yG];refine⟨?_,?_⟩
  ·intro hm;obtain⟨p,hp,e⟩:=List.mem_map.1 hm;have e:H.length+p.1=H.length:=e;exact hnd.1 (List.mem_map.2 ⟨p,hp,by omega⟩)
  ·refine List.pairwise_iff_getElem.2 (λi j hi hj hij=>?_);have:=List.pairwise_iff_getElem.1 hnd.2 i j (by simpa using hi) (by simpa using hj) hij;rw[qP,qP]at this ⊢;simp only[Function.comp];omega
theorem xbr{H X:Heap}{o n:Nat}{ps:List (Nat×Option Nat)}{M:List (List Int)}(h:MatH H o ps n M):MatH (H++X) o ps n M:=
 ⟨by rw[zfa (zas h.outer)];exact h.outer,h.len,h.cols,λi hi=>by
  obtain⟨cs,h1,h2⟩:=h.rows i hi;exact⟨cs,by rw[zfa (zas h1)];exact h1,h2⟩,h.nodup⟩
theorem zxi{H:Heap}{o n x:Nat}{y:Option (List AV)}{ps:List (Nat×Option Nat)}{M:List (List Int)}(h:MatH H o ps n M)(h1:x≠o)(h2:x∉ps.map (·.1)):MatH (H.set x y) o ps n M:=
 ⟨by rw[zar h1];exact h.outer,h.len,h.cols,λi hi=>by
  obtain⟨cs,g1,g2⟩:=h.rows i hi;refine⟨cs,?_,g2⟩;have hne:x≠(ps.getD i (0,none)).1:=λe=>h2 (by rw[e];exact zim (ps:=ps) (by rw[h.len];exact hi))
  rw[zar hne];exact g1,h.nodup⟩
theorem mDet{B:Nat}{M:List (List Int)}{a:AV}{d:Int}(hB:DivB B)(h:MatV M a)(hN:1<=M.length/\M.length<=16)(hc:∀i,i<M.length->(M.getD i []).length=M.length)(hd:detO B M=some d):
  Rt 19 [a] [] (intV d) []:=by
 obtain⟨ps0,L,hL,tc⟩:=xza h ⟨hN.1,hN.2⟩ hN.2 hc;obtain⟨v1,hv1,ts⟩:=zgv 1 (by omega) (by omega)
 have ha:qY [a]=true:=by
  obtain⟨rows,c,rfl,_⟩:=h;rfl
 have hv1':=hv1;obtain⟨l1,c1,_,_,_,rfl⟩:=hv1';refine oFw o19 ?_;simp only[c19,r19_0,r19_1,SS,reduceCtorEq,reduceIte];refine zeb tc ha ?_;simp only[zcy,SS,reduceIte,qX,AV.ren,zbn,yQ]
 have hH1:zaf (effs (zag [] 1) 0 L) (some [AV.bool false,AV.vec [] 0 (some 0)]::List.replicate (List.length L) none)=some [AV.bool false,AV.vec [] 0 (some 0)]::L.map (renB (zag [] 1)):=
  zhn (H:=[some [AV.bool false,AV.vec [] 0 (some 0)]]) (zag [] 1) (λi=>zbn 1 i) L []
 rw[hH1];have hM1:MatH (some [AV.bool false,AV.vec [] 0 (some 0)]::L.map (renB (zag [] 1))) 1 (ps0.map λp=>(1+p.1,p.2)) M.length M:=zls (H:=[some [AV.bool false,AV.vec [] 0 (some 0)]]) hL;generalize hHH:(some [AV.bool false,AV.vec [] 0 (some 0)]::L.map (renB (zag [] 1)):Heap)=H1 at*;have g0:getB H1 0=some [AV.bool false,AV.vec [] 0 (some 0)]:=by rw[<-hHH];rfl
 have hlt0:=zas g0;simp only[r19_2,r19_3,SS,reduceIte,qX];refine zaa ts ?_;simp only[SS,reduceIte,qK,qX,qJ,zef,set_snoc];simp only[r19_4,SS];have hlast0:=hv1;have hM2:=xbr (X:=[some [AV.bool (decide ((1:Int)<0)),AV.vec (u32s l1) l1.length c1]]) hM1
 have hids:∀x∈(ps0.map λp=>(1+p.1,p.2)).map (·.1),2<=x/\x<H1.length:=by
  intro x hx;have hnd:=hL.nodup;rw[qN]at hnd;rw[yG]at hx;obtain⟨p,hp,rfl⟩:=List.mem_map.1 hx;have hp0:p.1≠0:=λe=>hnd.1 (List.mem_map.2 ⟨p,hp,e⟩)
  refine⟨by show 2<=1+p.1;omega,?_⟩;obtain⟨i,hi,e⟩:=List.mem_iff_getElem.1 hp;obtain⟨cs,h1,_⟩:=hM1.rows i (by rw[<-hL.len];exact hi);have:=zas h1;rw[qZ,qG,qW hi,e]at this;exact this
 have hnd0:(0::H1.length::1::(ps0.map λp=>(1+p.1,p.2)).map (·.1)).Nodup:=by
  have hn1:=hM1.nodup;have h1lt:=zas hM1.outer;rw[qN,qN];refine⟨?_,?_,hn1⟩
  ·intro hm;rcases List.mem_cons.1 hm with e | hm
   ·omega
   ·rcases List.mem_cons.1 hm with e | hm
    ·omega
    ·have:=hids _ hm;omega
  ·intro hm;rcases List.mem_cons.1 hm with e | hm
   ·omega
   ·have:=hids _ hm;omega
 refine zax (λm E H=>∃k M' last neg ps,k+m=M.length/\DS M.length M' last neg k E H ps H1.length/\detG B M.length m k M' last neg=some d) (n:=M.length) ⟨0,M,1,false,_,by omega,⟨hM2,rfl,?_,?_,?_,?_,?_,?_,⟨_,_,zef,hlast0⟩,⟨_,_,(zfa hlt0).trans g0⟩,hnd0⟩,hd⟩ ?_
 ·rfl
 ·rfl
 ·rfl
 ·rfl
 ·rfl
 ·rfl
 rintro m E H ⟨k,M',last,neg,ps,hkm,hD,hdet⟩;have hD0:=hD;obtain⟨hM,hrows,e2,e3,e4,e5,e6,e7,⟨lu,lv,hlast,hl⟩,⟨ru,rv,hres⟩,hnd⟩:=hD;refine wM ?_;simp only[l19_0,r19_5,SS,reduceCtorEq,reduceIte,qX,e4,e7];refine⟨λhlt=>?_,λhge=>?_⟩
 ·obtain⟨m,rfl⟩:∃m',m=m'+1:=⟨m-1,by omega⟩
  have hk:k<M.length:=by omega
  simp only[detG]at hdet;have hpl:=jwp (M:=M') (k:=k) (m:=M.length-k) (p:=k);have w6:=wS1 k (by omega);simp only[r19_6,SS,reduceIte,qX,e7];refine kqo hN.2 hk (hD0.frame (λt ht=>?_)) ?_ (λE1 hD1 f8=>?rest)
  case rest=>
   generalize hpv:piv M' k (M.length-k) k=p at*;have hD10:=hD1;obtain⟨hM3,hrows3,f2,f3,f4,f5,f6,f7,⟨lu3,lv3,hlast3,hl3⟩,⟨ru3,rv3,hres3⟩,hnd3⟩:=hD1;simp only[r19_9,SS,reduceCtorEq,reduceIte,qX,f4,f8];refine⟨λhpn=>?_,λhpn=>?_⟩
   ·have hpn:p=M.length:=by omega
    rw[if_pos hpn,xG]at hdet;subst hdet;simp only[r19_10,SS,reduceIte,qK,qX,qJ,f2,hres3];refine⟨.inl trivial,_,_,zfo (id:=0) (by exact f2) (zbl (zas hres3)),.drop _ _ rfl (by intro i cs h;omega),rfl⟩
   ·have hpn:p≠M.length:=by omega
    rw[if_neg hpn,xU]at hdet;obtain⟨M2,hel,hdet⟩:=hdet;by_cases hkp:k<p
    ·rw[if_pos hkp]at hel hdet;have d1:decide ((k:Int)<(p:Nat))=true:=dT;have ok3:=zci (ps:=ps) (n:=M.length) (i:=k) (by rw[hM3.len];omega);have op3:=zci (ps:=ps) (n:=M.length) (i:=p) (by rw[hM3.len];omega);have hol3:(ps.map (zcl M.length)).length=M.length:=by rw[xQ,hM3.len];exact hrows3
     have hou3:=hM3.outer;obtain⟨hMs,hmem,hnds⟩:=qdo hM3 (p:=p) (k:=k) (by omega) (by omega);simp only[r19_11,SS,fC,reduceIte,qX,f7,f8,d1];simp only[r19_12,SS,fC,reduceIte,qX,f3,f7,f8,qV,hou3,hol3,ok3,op3];have gs:getB (List.set H 1 (some ((List.map (zcl M.length) ps).set p (AV.sl (pid ps k) 0 M.length 2 (ps.getD k (0,none)).snd)))) 1=some ((List.map (zcl M.length) ps).set p (AV.sl (pid ps k) 0 M.length 2 (ps.getD k (0,none)).snd)):=zbl (zas hou3);simp only[SS,gs,xI,hol3,zT];refine⟨⟨by omega,by omega⟩,by omega,⟨by omega,by omega⟩,by omega,⟨by omega,by omega⟩,by omega,⟨by omega,by omega⟩,by omega,rfl,?_⟩;simp only[r19_13,SS,reduceIte,qX,f6];simp only[r19_14,SS,reduceIte,qX,f7,w6];have hnd6:=hnd3;simp only[qN,xO,not_or]at hnd6
     have hnd7:(0::H1.length::1::(zgd ps p k).map (·.1)).Nodup:=by
      simp only[qN,xO,not_or];exact⟨⟨hnd6.1.1,hnd6.1.2.1,λhm=>hnd6.1.2.2 ((hmem _).1 hm)⟩,⟨hnd6.2.1.1,λhm=>hnd6.2.1.2 ((hmem _).1 hm)⟩,λhm=>hnd6.2.2.1 ((hmem _).1 hm),hnds⟩
     refine xzc hB hN.2 hk (ps:=zgd ps p k) (b:=H1.length) (last:=last) (neg:=!neg) (M:=zdb M' p k) ⟨hMs,by simp[zdb,hrows3],?_,?_,?_,?_,?_,?_,⟨lu3,lv3,?_,hl3⟩,⟨ru3,rv3,?_⟩,hnd7⟩ ?_ hel (λE3 H3 hD3=>?rest2)
     case rest2=>
      obtain⟨hM4,hrows4,g2,g3,g4,g5,g6,g7,⟨lu4,lv4,hlast4,hl4⟩,⟨ru4,rv4,hres4⟩,hnd4⟩:=hD3;obtain⟨csk,gk,lk,rk,fk⟩:=zfk hM4 (i:=k) (by omega);obtain⟨u,v,hx,hy⟩:=fk k hk;have ok:=zci (ps:=zgd ps p k) (n:=M.length) (i:=k) (by rw[hM4.len];omega);have hol:((zgd ps p k).map (zcl M.length)).length=M.length:=by rw[xQ,hM4.len];exact hrows4
      have hou:=hM4.outer;obtain⟨ly,cy,hy1,hy2⟩:=zaj hy;subst hy1 hy2;simp only[r19_21,SS,fC,reduceCtorEq,reduceIte,qK,qX,qJ,g3,g5,g7,qV,hou,hol,ok,gk,lk,hx,hlast4];refine⟨⟨by omega,by omega⟩,by omega,⟨by omega,by omega⟩,by omega,?_⟩;simp only[r19_22,SS,reduceIte,qX,g7,w6];have hnd5:=hnd4;simp only[qN,xO,not_or]at hnd5;refine⟨m,_,_,by omega,⟨k+1,M2,_,(!neg),zgd ps p k,by omega,⟨zxi hM4 (λe=>hnd5.2.1.1 e) (λhm=>hnd5.2.1.2 hm),hrows4,?_,?_,?_,?_,?_,?_,⟨_,_,zbl (zas hlast4),hy⟩,⟨ru4,rv4,?_⟩,hnd4⟩,hdet⟩,.refl⟩
      ·simp only[UU,qX,g2]
      ·simp only[UU,qX,g3]
      ·simp only[UU,qX,g4]
      ·simp only[UU,qX,g5]
      ·simp only[UU,qX,g6]
      ·rfl
      ·rw[zar (λe=>hnd5.1.1 e.symm)];exact hres4
     ·exact f2
     ·exact f3
     ·exact f4
     ·exact f5
     ·rfl
     ·exact f7
     ·rw[zar (λe=>hnd6.2.1.1 e.symm)];exact hlast3
     ·rw[zar (by decide)];exact hres3
     ·rfl
    ·rw[if_neg hkp]at hel hdet;have d1:decide ((k:Int)<(p:Nat))=false:=dF;simp only[r19_11,SS,fC,reduceIte,qX,f7,f8,d1];simp only[r19_14,SS,reduceIte,qX,f7,w6];refine xzc hB hN.2 hk (hD10.frame (λt ht=>?_)) ?_ hel (λE3 H3 hD3=>?rest2)
     case rest2=>
      obtain⟨hM4,hrows4,g2,g3,g4,g5,g6,g7,⟨lu4,lv4,hlast4,hl4⟩,⟨ru4,rv4,hres4⟩,hnd4⟩:=hD3;obtain⟨csk,gk,lk,rk,fk⟩:=zfk hM4 (i:=k) (by omega);obtain⟨u,v,hx,hy⟩:=fk k hk;have ok:=zci (ps:=ps) (n:=M.length) (i:=k) (by rw[hM4.len];omega);have hol:((ps).map (zcl M.length)).length=M.length:=by rw[xQ,hM4.len];exact hrows4
      have hou:=hM4.outer;obtain⟨ly,cy,hy1,hy2⟩:=zaj hy;subst hy1 hy2;simp only[r19_21,SS,fC,reduceCtorEq,reduceIte,qK,qX,qJ,g3,g5,g7,qV,hou,hol,ok,gk,lk,hx,hlast4];refine⟨⟨by omega,by omega⟩,by omega,⟨by omega,by omega⟩,by omega,?_⟩;simp only[r19_22,SS,reduceIte,qX,g7,w6];have hnd5:=hnd4;simp only[qN,xO,not_or]at hnd5;refine⟨m,_,_,by omega,⟨k+1,M2,_,neg,ps,by omega,⟨zxi hM4 (λe=>hnd5.2.1.1 e) (λhm=>hnd5.2.1.2 hm),hrows4,?_,?_,?_,?_,?_,?_,⟨_,_,zbl (zas hlast4),hy⟩,⟨ru4,rv4,?_⟩,hnd4⟩,hdet⟩,.refl⟩
      ·simp only[UU,qX,g2]
      ·simp only[UU,qX,g3]
      ·simp only[UU,qX,g4]
      ·simp only[UU,qX,g5]
      ·simp only[UU,qX,g6]
      ·rfl
      ·rw[zar (λe=>hnd5.1.1 e.symm)];exact hres4
     ·repeat rw[zlr ht (by decide)]
     ·rfl
  ·repeat rw[zlr ht (by decide)]
  ·rfl
 ·have hm:m=0:=by omega
  subst hm;simp only[detG,xG]at hdet;have c4:qY [.agg [lu,lv]]=true:=by simp only[qY,hl.closed,qI]
  simp only[r19_23,SS,reduceIte,qX,e6];refine⟨λhn=>?_,λhn=>?_⟩
  ·rw[if_pos hn]at hdet;obtain⟨w,hw,tn⟩:=zNeg hl;rw[hdet]at hw;have hw0:=hw;obtain⟨lw,cw,_,_,_,rfl⟩:=hw0;simp only[r19_24,SS,reduceIte,qK,qX,qJ,e5,hlast];refine zaa tn ?_ c4;simp only[SS,reduceIte,qK,qX,qJ,e2,hres];refine⟨.inl trivial,_,_,zfo (id:=0) (by exact e2) (zbl (zas hres)),.drop _ _ rfl (by intro i cs h;omega),hw.wk⟩
  ·rw[if_neg (by rw[hn];simp)]at hdet;subst hdet;obtain⟨lw,cw,h1,h2⟩:=zaj hl;subst h1 h2;simp only[r19_25,SS,reduceIte,qK,qX,qJ,e5,hlast,e2,hres];refine⟨.inl trivial,_,_,zfo (id:=0) (by exact e2) (zbl (zas hres)),.drop _ _ rfl (by intro i cs h;omega),hl.wk⟩
def zxj:List Int->List AV
 | []=>[]
 |z::r=> .bool (decide (z<0)):: .vec (u32s (zcn z.natAbs)) (zcn z.natAbs).length none::zxj r
def rowV(r:List Int):AV:= .vec (zxj r) r.length none
def matC(M:List (List Int)):AV:= .vec (M.map rowV) M.length none
theorem qoj:∀{r:List Int} {cs:List AV},RowC r cs->AV.wk.wkL cs=zxj r:=by
 intro r
 induction r with
 |nil=>
  intro cs h;cases cs with
  |nil=>rfl
  |cons _ _=>exact h.elim
 |cons z r ih=>
  intro cs h
  match cs,h with
  |u::v::cs,h=>
   have hw:=h.1.wk;simp only[AV.wk,AV.wk.wkL,intV,AV.agg.injEq,List.cons.injEq,and_true]at hw
   show u.wk::v.wk::AV.wk.wkL cs=_
   rw[ih h.2,hw.1,hw.2];rfl
theorem qok{r:List Int}{a:AV}(h:zgh r a):a.wk=rowV r:=by
 obtain⟨cs,c,rfl,hc⟩:=h;simp only[AV.wk,qoj hc,rowV]
def qol(r:List Int):Prop:= ∀z∈r,z.natAbs<BIG
theorem zlt:∀{r:List Int},qol r->RowC r (zxj r)
 | [],_=>trivial
 |z::r,h=>⟨zbp (h z (by simp)),zlt (λy hy=>h y (by simp[hy]))⟩
theorem xbs{r:List Int}(h:qol r):zgh r (rowV r):=⟨_,_,rfl,zlt h⟩
theorem qom:∀{r:List Int} {cs:List AV},RowC r cs->qol r:=by
 intro r
 induction r with
 |nil=>intro cs _ z hz;simp at hz
 |cons z r ih=>
  intro cs h y hy
  match cs,h with
  |u::v::cs,h=>
   rcases List.mem_cons.1 hy with e | e
   ·rw[e];exact h.1.fits
   ·exact ih h.2 y e
def xbt(M:List (List Int)):Prop:= ∀r∈M,qol r
theorem zxk{M:List (List Int)}{a:AV}(h:MatV M a):xbt M:=by
 obtain⟨rows,c,_,_,hr⟩:=h;intro r hr';obtain⟨i,hi,rfl⟩:=List.mem_iff_getElem.1 hr';obtain⟨cs,c,_,h2⟩:=hr i hi;rw[qZ,qW hi]at h2;exact qom h2
theorem zul{M:List (List Int)}(h:xbt M):MatV M (matC M):=by
 refine⟨M.map rowV,none,rfl,by simp,λi hi=>?_⟩;rw[qZ,qZ,qG,qW hi];exact xbs (h _ (xJ _))
theorem qon{M:List (List Int)}{a:AV}(h:MatV M a):a.wk=matC M:=by
 obtain⟨rows,c,rfl,hl,hr⟩:=h;simp only[AV.wk,matC,zmz];congr 1;refine List.ext_getElem? (λi=>?_);rw[qG,qG];rcases xW i M.length with hi | hi
 ·have:=qok (hr i hi);rw[qZ,qZ,qW hi,qW (by omega)]at this;rw[qW hi,qW (by omega)];simpa using this
 ·rw[xS hi,xS (by omega)];rfl
def Grow(H:Heap)(sz n:Nat)(cs:List AV)(a:AV)(bad:List Nat):Prop:=
 (n=0/\cs=[]/\a= .vec [] 0 (some 0))\/(0<n/\cs.length=n*sz/\∃id,a= .sl id 0 n sz none/\getB H id=some cs/\id∉bad)
theorem Grow.mono{H H':Heap}{sz n:Nat}{cs:List AV}{a:AV}{bad bad':List Nat}(h:Grow H sz n cs a bad)(hH:∀id,getB H id=some cs->a= .sl id 0 n sz none->getB H' id=some cs)(hb:∀id,a= .sl id 0 n sz none->id∉bad->id∉bad'):Grow H' sz n cs a bad':=by
 rcases h with h | ⟨h1,h2,id,h3,h4,h5⟩
 ·exact .inl h
 ·exact .inr ⟨h1,h2,id,h3,hH id h4 h3,hb id h3 h5⟩
theorem zho{H:Heap}{sz n:Nat}{cs xs:List AV}{a:AV}{bad:List Nat}{bytes:Nat}(h:Grow H sz n cs a bad)(hx:xs.length=sz)(hs:AV.scalL xs=true)(hb:bytes<=64)(hn:n<1100)(hfr:H.length+1∉bad):
  ∃e rd,(∀n0,zcd n0 (H.length+1) (H++[some xs]) sz bytes a (.sl H.length 0 1 sz (some 1))=some (.sl (H.length+1) 0 (n+1) sz none,e,rd))/\Grow (zaf e (H++[some xs]++[none])) sz (n+1) (cs++xs) (.sl (H.length+1) 0 (n+1) sz none) bad/\
   (zaf e (H++[some xs]++[none])).length=H.length+2/\(∀i,i<H.length->(∀m c,a≠ .sl i 0 m sz c)->getB (zaf e (H++[some xs]++[none])) i=getB H i)/\(∀i∈keys e,i=H.length+1\/∃m,a= .sl i 0 m sz none)/\(∀i∈rd,i=H.length\/∃m,a= .sl i 0 m sz none):=by
 have hg:getB (H++[some xs]) H.length=some xs:=zef
 have b1:4*(n+1)*bytes<=2^48:=by
  have:4*(n+1)*bytes<=4*1100*64:=Nat.mul_le_mul (by omega) hb;have:(2:Nat)^48=281474976710656:=rfl;omega
 have b2:n+1<2^62:=by
  have:(2:Nat)^62=4611686018427387904:=rfl;omega
 have hel:zdz (H++[some xs]) sz 1 (.sl H.length 0 1 sz (some 1))=some (xs,[H.length]):=by
  simp only[zdz,hg,need,qD,qO,yB,hx,and_self,if_true];rw[qM,qU (by omega)]
 rcases h with⟨rfl,rfl,rfl⟩ | ⟨h0,hl,id,rfl,hc,hnb⟩
 ·refine⟨[(H.length+1,some xs)],[H.length],λn0=>?_,.inr ⟨by omega,by simp;omega,H.length+1,rfl,?_,hfr⟩,by simp[zaf],?_,?_,?_⟩
  ·simp only[zcd,lenA,xC,hel];have b1':4*(0+1)*bytes<=2^48:=b1;simp only[need,yW,if_false,zS,yA,b1',b2,and_self,if_true,List.take_zero,yP]
  ·simp only[zaf];rw[zbl (by simp)];rfl
  ·intro i hi _;simp only[zaf];rw[zar (by omega),xT,zfa hi]
  ·intro i hi;simp[keys]at hi;exact .inl hi
  ·intro i hi;simp at hi;exact .inl hi
 ·have hid:=zas hc;have hc2:getB (H++[some xs]) id=some cs:=by rw[zfa hid];exact hc
  refine⟨[(id,none),(H.length+1,some (cs++xs))],[id,H.length],λn0=>?_,.inr ⟨by omega,by rw[xD,hl,hx,jZ,yB],H.length+1,rfl,?_,hfr⟩,by simp[zaf],?_,?_,?_⟩
  ·simp only[zcd,lenA,xC,hel,hc2];have e1:¬((none:Option Nat)=some n):=by simp
   have e2:id≠H.length+1:=by omega
   simp only[need,yW,if_false,hl,qD,b1,b2,and_self,if_true,e1,yA,hs,e2,ne_eq,not_false_eq_true];rw[qU (by omega)]
  ·simp only[zaf];rw[zbl (by simp)]
  ·intro i hi ha;simp only[zaf];rw[zar (by omega),zar (λe=>ha n none (by rw[e])),xT,zfa hi]
  ·intro i hi;simp[keys]at hi;rcases hi with e | e
   ·exact .inr ⟨n,by rw[e]⟩
   ·exact .inl e
  ·intro i hi;simp at hi;rcases hi with e | e
   ·exact .inr ⟨n,by rw[e]⟩
   ·exact .inl e
def i64n(l:List Nat):List AV:=l.map λ(n:Nat)=>AV.int .i64 (n:Int)
theorem zgi(l:List Nat):(i64n l).length=l.length:=by simp[i64n]
theorem zxl(l:List Nat)(i:Nat)(h:i<l.length)(d:AV):(i64n l).getD i d= .int .i64 ((l.getD i 0:Nat):Int):=by simp[i64n,h]
theorem zum(l:List Nat)(m d:Nat)(H:Heap):(i64n l).mapM (frzI m H (d+1))=some (i64n l):=by
 refine zny (λa ha=>?_);simp only[i64n,List.mem_map]at ha;obtain⟨n,_,rfl⟩:=ha;rfl
theorem qxa{H:Heap}{id n:Nat}{c:Option Nat}{l:List Nat}(hb:getB H id=some (i64n l))(hn:n=l.length):AL.Fin 0 (.sl id 0 n 1 c) H (.vec (i64n l) n c) []:=by
 refine .freeze 2 _ _ _ ?_ (by intro i cs h;omega);have e:=zum l 0 0 H;rw[frzI];simp only[qT,if_false,hb,need,qO,xV,hn,zgi,qD,if_true,qM];rw[qU (by rw[zgi];omega),e];rfl
theorem xzd(k more:Nat)(hk:k<=16):Rt 146 [.int .i64 (k:Nat),.int .i64 (more:Nat)] [] (.vec (i64n (List.range k++[more])) (k+1) none) []:=by
 refine oF o146 ?_;simp only[c146,r146_0,r146_1,r146_2,SS,reduceCtorEq];refine zax (λm E H=>∃i a,i+m=k/\E 0= .int .i64 (k:Nat)/\E 1= .int .i64 (more:Nat)/\E 5=a/\E 6= .int .i64 (i:Nat)/\Grow H 1 i (i64n (List.range i)) a []) (n:=k) ⟨0,_,by omega,by rfl,by rfl,rfl,by rfl,.inl ⟨rfl,rfl,by rfl⟩⟩ ?_;rintro m E H ⟨i,a,him,e0,e1,e5,e6,hG⟩;refine wM ?_;simp only[l146_0,r146_3,SS,reduceCtorEq,reduceIte,qX,e0,e6];refine⟨λhlt=>?_,λhge=>?_⟩
 ·obtain⟨m,rfl⟩:∃m',m=m'+1:=⟨m-1,by omega⟩
  have w5:=wS1 i (by omega);obtain⟨e,rd,hap,hG2,hl2,hk2,_,_⟩:=zho (bytes:=8) (xs:=[.int .i64 (i:Nat)]) hG rfl rfl (by omega) (by omega) (by simp);simp only[r146_4,r146_5,SS,reduceIte,qX,qJ,e5,e6,zdn,hap,w5];refine⟨m,_,_,by omega,⟨i+1,_,by omega,?_,?_,rfl,?_,?_⟩,.refl⟩
  ·exact e0
  ·exact e1
  ·rfl
  ·have:i64n (List.range i)++[.int .i64 ((i:Nat):Int)]=i64n (List.range (i+1)):=by simp[i64n,yY]
   rw[this]at hG2;simp only[UU,qX,reduceIte];exact hG2
 ·have hm:i=k:=by omega
  subst hm;obtain⟨e,rd,hap,hG2,hl2,hk2,_,_⟩:=zho (bytes:=8) (xs:=[.int .i64 (more:Nat)]) hG rfl rfl (by omega) (by omega) (by simp);simp only[r146_6,SS,reduceIte,qX,qJ,e5,e1,zdn,hap];refine⟨.inl trivial,_,rfl,?_⟩;rcases hG2 with⟨h,_⟩ | ⟨_,_,id,h1,h2,_⟩
  ·omega
  ·have:i64n (List.range i)++[.int .i64 ((more:Nat):Int)]=i64n (List.range i++[more]):=by simp[i64n]
   rw[this]at h2;injection h1 with h1
   rw[h1];exact qxa h2 (by simp)
def zxm(H:Heap)(n:Nat)(ps:List (Nat×Option Nat))(M:List (List Int)):Prop:=ps.length=M.length/\∀i,i<M.length->(M.getD i []).length=n/\∃cs,getB H (pid ps i)=some cs/\RowC (M.getD i []) cs
theorem xbu{H:Heap}{r:List Int}{cs:List AV}{a:AV}{bad:List Nat}(h:Grow H 2 r.length cs a bad)(hr:RowC r cs)(h0:r≠[]):∃id,a= .sl id 0 r.length 2 none/\getB H id=some cs/\id∉bad:=by
 rcases h with⟨h,_⟩ | ⟨_,_,id,h1,h2,h3⟩
 ·exact absurd (List.length_eq_zero_iff.1 h) h0
 ·exact⟨id,h1,h2,h3⟩
theorem qoo{m:Nat}{H:Heap}{n:Nat}{ps:List (Nat×Option Nat)}{M:List (List Int)}(h:zxm H n ps M)(hm:∀q∈ps,m<=q.1):∃vs,(ps.map (zcl n)).mapM (frzI m H 2)=some vs/\vs.length=M.length/\∀i,i<M.length->zgh (M.getD i []) (vs.getD i .junk):=by
 obtain⟨hl,hr⟩:=h
 have key:∀(qs:List (Nat×Option Nat)) (N:List (List Int)),qs.length=N.length->(∀q∈qs,m<=q.1)->(∀i,i<N.length->(N.getD i []).length=n/\∃cs,getB H (pid qs i)=some cs/\RowC (N.getD i []) cs)->
   ∃vs,(qs.map (zcl n)).mapM (frzI m H 2)=some vs/\vs.length=N.length/\∀i,i<N.length->zgh (N.getD i []) (vs.getD i .junk):=by
  intro qs
  induction qs with
  |nil=>
   intro N hN _ _;exact⟨[],rfl,hN,λi hi=>absurd hi (by rw[<-hN];simp)⟩
  |cons q qs ih=>
   intro N hN hm hr
   match N,hN with
   |r::N,hN=>
    obtain⟨vs,h1,h2,h3⟩:=ih N (by simpa using hN) (λq hq=>hm q (by simp[hq])) (λi hi=>by
     have:=hr (i+1) (by simpa using hi);simpa[pid]using this)
    obtain⟨hn,cs,hb,hc⟩:=hr 0 (by simp);have hb:getB H q.1=some cs:=hb;have hn:r.length=n:=hn;have hc:RowC r cs:=hc;have hcl:=zda hc
    have e1:frzI m H 2 (zcl n q)=some (.vec cs n q.2):=by
     have e:=qdk hc m 0 H;unfold zcl;rw[frzI];simp only[Nat.not_lt.2 (hm q (by simp)),if_false,hb,need,qO,hcl,hn,qD,if_true,qM];rw[qU (by omega),e];rfl
    refine⟨.vec cs n q.2::vs,?_,by simp[h2],?_⟩
    ·rw[List.map_cons,xK,e1,h1];rfl
    ·intro i hi;cases i with
     |zero=>exact⟨cs,q.2,by rw[<-hn];rfl,hc⟩
     |succ i=>simpa using h3 i (by simpa using hi)
 exact key ps M hl hm hr
theorem zun{H:Heap}{n:Nat}{ps:List (Nat×Option Nat)}{M:List (List Int)}(h:zxm H n ps M):∃vs,(ps.map (zcl n)).mapM (frzI 0 H 2)=some vs/\vs.length=M.length/\∀i,i<M.length->zgh (M.getD i []) (vs.getD i .junk):=
 qoo h λ_ _=>yA _
theorem qxb{H:Heap}{n:Nat}{ps:List (Nat×Option Nat)}{M:List (List Int)}{o:Nat}(ho:getB H o=some (ps.map (zcl n)))(h:zxm H n ps M):∃v,AL.Fin 0 (.sl o 0 M.length 1 none) H v []/\v.wk=matC M:=by
 obtain⟨vs,h1,h2,h3⟩:=zun h;have hl:=h.1;refine⟨.vec vs M.length none,.freeze 3 _ _ _ ?_ (by intro i cs h;omega),qon ⟨vs,none,rfl,h2,h3⟩⟩;rw[frzI];simp only[qT,if_false,ho,need,qO,xV,xQ,hl,qD,if_true,qM];rw[qU (by simp[hl]),h1];rfl
theorem zkm{H:Heap}{sz n:Nat}{cs:List AV}{a:AV}{bad:List Nat}(h:Grow H sz n cs a bad){x:Nat}(hx:x∈bad):∀m c,a≠ .sl x 0 m sz c:=by
 intro m c e;rcases h with⟨_,_,h⟩ | ⟨_,_,id,h1,_,h3⟩
 ·rw[h]at e;simp at e
 ·rw[h1]at e;injection e with e1
  exact h3 (e1 ▸ hx)
theorem xbv{M:List (List Int)}{n:Nat}{rows:List AV}{c c2:Option Nat}{ks:List Nat}(hl:rows.length=M.length)(hr:∀i,i<M.length->zgh (M.getD i []) (rows.getD i .junk))(hc:∀i,i<M.length->(M.getD i []).length=n){i:Nat}(hi:i<M.length)(hks:∀k∈ks,k<n)(hkl:ks.length<=16)(hn:n<=16)(hN:M.length<=16)
  {v7 v13 v14 v15:AV} {bad:List Nat} {H0:Heap} (hbad:∀x∈bad,x<H0.length) {E:Env} {Q:Post} (e0:E 0= .vec rows M.length c) (e2:E 2= .vec (i64n ks) ks.length c2) (e7:E 7=v7) (e9:E 9= .int .i64 (i:Nat)) (e10:E 10= .vec [] 0 (some 0)) (e13:E 13=v13) (e14:E 14=v14) (e15:E 15=v15)
  (e19:E 19= .vec (i64n ks) ks.length c2) (e20:E 20= .int .i64 (ks.length:Nat)) (e21:E 21= .int .i64 0)
  (hQ:∀E' H' cs,E' 0= .vec rows M.length c->E' 2= .vec (i64n ks) ks.length c2->E' 7=v7->E' 13=v13->E' 14=v14->E' 15=v15->RowC (selR M i ks) cs->Grow H' 2 ks.length cs (E' 10) bad->(∀x∈bad,getB H' x=getB H0 x)->H0.length<=H'.length->Q (.exit 2) E' H'):
  Wg 0 42 (.loop l145_1) E H0 Q:=by
 refine zax (λm E H=>∃j cs,j+m=ks.length/\E 0= .vec rows M.length c/\E 2= .vec (i64n ks) ks.length c2/\E 7=v7/\E 9= .int .i64 (i:Nat)/\E 13=v13/\E 14=v14/\E 15=v15/\E 19= .vec (i64n ks) ks.length c2/\E 20= .int .i64 (ks.length:Nat)/\E 21= .int .i64 (j:Nat)/\
  RowC (selR M i (ks.take j)) cs/\Grow H 2 j cs (E 10) bad/\(∀x∈bad,getB H x=getB H0 x)/\H0.length<=H.length) (n:=ks.length) ⟨0,[],by omega,e0,e2,e7,e9,e13,e14,e15,e19,e20,e21,trivial,.inl ⟨rfl,rfl,e10⟩,λ_ _=>rfl,qD _⟩ ?_
 clear e0 e2 e7 e9 e10 e13 e14 e15 e19 e20 e21 E;rintro m E H ⟨j,cs,hjm,e0,e2,e7,e9,e13,e14,e15,e19,e20,e21,hrc,hG,hkeep,hlen⟩;refine wM ?_;simp only[l145_1,r145_7,SS,reduceIte,e20,e21];refine⟨λhlt=>?_,λhge=>?_⟩
 ·obtain⟨m,rfl⟩:∃m',m=m'+1:=⟨m-1,by omega⟩
  have hj:j<ks.length:=by omega
  have gk:=zxl ks j hj AV.junk
  have hkj:ks.getD j 0<n:=by
   rw[qZ,qW hj];exact hks _ (xJ _)
  obtain⟨csi,ci,hei,hci⟩:=hr i hi;have hcl:=zda hci;obtain⟨u,v,hu,hz⟩:=zez hci (ks.getD j 0) (by rw[hc i hi];exact hkj);have w5:=wS1 j (by omega);have hs:=zlq (r:=[(M.getD i []).getD (ks.getD j 0) 0]) (cs:=[u,v]) ⟨hz,trivial⟩;obtain⟨e,rd,hap,hG2,hl2,hk2,_,_⟩:=zho (bytes:=32) (xs:=[u,v]) hG rfl hs (by omega) (by omega) (by intro hm;have:=hbad _ hm;omega);obtain⟨lz,cz,hz1,hz2⟩:=zaj hz;subst hz1 hz2;simp only[r145_8,r145_9,r145_10,SS,fC,reduceCtorEq,reduceIte,qK,qX,qJ,e0,e9,e19,e21,qV,gk,zgi,hl,hei,hcl,hc i hi,hu,zdn,hap,w5];refine⟨⟨by omega,by omega⟩,by omega,⟨by omega,by omega⟩,by omega,⟨by omega,by omega⟩,by omega,?_⟩
  have htk:ks.take (j+1)=ks.take j++[ks.getD j 0]:=by
   rw[yJ,qZ,qW hj];rfl
  refine⟨m,_,_,by omega,⟨j+1,cs++[AV.bool (decide ((M.getD i []).getD (ks.getD j 0) 0<0)),AV.vec (u32s lz) lz.length cz],by omega,?_,?_,?_,?_,?_,?_,?_,?_,?_,?_,?_,?_,?_,?_⟩,.refl⟩
  ·exact e0
  ·exact e2
  ·exact e7
  ·exact e9
  ·exact e13
  ·exact e14
  ·exact e15
  ·exact e19
  ·exact e20
  ·rfl
  ·rw[htk];unfold selR;rw[yV];exact zlp hrc _ _ _ hz
  ·simp only[UU,qX,reduceIte];exact hG2
  ·intro x hx;have hxl:=hbad x hx;rw[hk2 x (by omega) (zkm hG hx)];exact hkeep x hx
  ·omega
 ·have hm:j=ks.length:=by omega
  subst hm;rw[yM]at hrc;exact hQ _ _ cs (by exact e0) (by exact e2) (by exact e7) (by exact e13) (by exact e14) (by exact e15) hrc (by simp only[UU,qX];exact hG) hkeep hlen
theorem qop{M:List (List Int)}{a:AV}{n:Nat}{rs ks:List Nat}{c1 c2:Option Nat}(h:MatV M a)(hN:M.length<=16)(hn:n<=16)(hc:∀i,i<M.length->(M.getD i []).length=n)(hrs:∀i∈rs,i<M.length)(hrl:1<=rs.length/\rs.length<=16)(hks:∀k∈ks,k<n)(hkl:1<=ks.length/\ks.length<=16):
  Rt 145 [a,.vec (i64n rs) rs.length c1,.vec (i64n ks) ks.length c2] [] (matC (selM M rs ks)) []:=by
 obtain⟨rows,c,rfl,hl,hr⟩:=h;refine oFw o145 ?_;simp only[c145,r145_0,r145_1,r145_2,SS,reduceCtorEq,reduceIte,qX]
 refine zax (λm E H=>∃i ps,i+m=rs.length/\E 0= .vec rows M.length c/\E 2= .vec (i64n ks) ks.length c2/\E 13= .vec (i64n rs) rs.length c1/\E 14= .int .i64 (rs.length:Nat)/\E 15= .int .i64 (i:Nat)/\
  Grow H 1 i (ps.map (zcl ks.length)) (E 7) (ps.map (·.1))/\zxm H ks.length ps (selM M (rs.take i) ks)/\∀x∈ps.map (·.1),x<H.length) (n:=rs.length) ⟨0,[],by omega,?_,?_,?_,?_,?_,.inl ⟨rfl,rfl,?_⟩,⟨rfl,λi hi=>absurd hi (by simp[selM])⟩,by simp⟩ ?_
 ·rfl
 ·rfl
 ·rfl
 ·rfl
 ·rfl
 ·rfl
 rintro m E H ⟨i,ps,him,e0,e2,e13,e14,e15,hG,hR,hlt⟩;refine wM ?_;simp only[l145_0,r145_3,SS,reduceCtorEq,reduceIte,e14,e15];refine⟨λhlt2=>?_,λhge=>?_⟩
 ·obtain⟨m,rfl⟩:∃m',m=m'+1:=⟨m-1,by omega⟩
  have hi:i<rs.length:=by omega
  have gr:=zxl rs i hi AV.junk
  have hri:rs.getD i 0<M.length:=by
   rw[qZ,qW hi];exact hrs _ (xJ _)
  have w5:=wS1 i (by omega);simp only[r145_4,r145_5,r145_6,SS,fC,reduceIte,qX,e2,e13,e15,qV,gr,zgi];refine⟨⟨by omega,by omega⟩,by omega,?_⟩
  have hbad:∃bad:List Nat,(∀x∈bad,x<H.length)/\(∀x∈ps.map (·.1),x∈bad)/\(∀id,E 7= .sl id 0 i 1 none->id∈bad):=by
   rcases hG with⟨_,_,h7⟩ | ⟨_,_,id,h7,hb,_⟩
   ·exact⟨ps.map (·.1),hlt,λx hx=>hx,λid hid=>by rw[h7]at hid;simp at hid⟩
   ·refine⟨id::ps.map (·.1),?_,λx hx=>by simp only[xO];exact .inr hx,λid' hid=>?_⟩
    ·intro x hx;rcases List.mem_cons.1 hx with e | e
     ·rw[e];exact zas hb
     ·exact hlt x e
    ·rw[h7]at hid;injection hid with hid
     rw[<-hid];simp
  obtain⟨bad,hb1,hb2,hb3⟩:=hbad;refine xbv (c:=c) (c2:=c2) (bad:=bad) (v7:=E 7) (v13:= .vec (i64n rs) rs.length c1) (v14:= .int .i64 (rs.length:Nat)) (v15:= .int .i64 (i:Nat)) hl hr hc hri hks hkl.2 hn hN hb1 ?_ ?_ ?_ ?_ ?_ ?_ ?_ ?_ ?_ ?_ ?_ (λE1 H1 cs f0 f2 f7 f13 f14 f15 hrc hG1 hkeep hlen=>?rest)
  case rest=>
   have hsl:(selR M (rs.getD i 0) ks).length=ks.length:=by simp[selR]
   rw[<-hsl]at hG1;obtain⟨id,hid,hgb,hnb⟩:=xbu hG1 hrc (by intro e;rw[e]at hsl;simp at hsl;omega);rw[hsl]at hid;have hidlt:=zas hgb
   have hG7:Grow H1 1 i (ps.map (zcl ks.length)) (E1 7) (id::ps.map (·.1)):=by
    rw[f7];refine hG.mono (λid' h1 h2=>by rw[hkeep id' (hb3 id' h2)];exact h1) (λid' h2 h3=>?_);intro hm;rcases List.mem_cons.1 hm with e | e
    ·exact hnb (e ▸ hb3 id' h2)
    ·exact h3 e
   obtain⟨e,rd,hap,hG2,hl2,hk2,_,_⟩:=zho (bytes:=24) (xs:=[.sl id 0 ks.length 2 none]) hG7 rfl rfl (by omega) (by omega) (by
    intro hm;rcases List.mem_cons.1 hm with e | e
    ·omega
    ·have:=hlt _ e;omega)
   simp only[r145_11,r145_12,SS,reduceCtorEq,reduceIte,qX,qJ,hid,f15,zdn,hap,w5];refine⟨m,_,_,by omega,⟨i+1,ps++[(id,none)],by omega,?_,?_,?_,?_,?_,?_,?_,?_⟩,.refl⟩
   ·exact f0
   ·exact f2
   ·exact f13
   ·exact f14
   ·rfl
   ·simp only[UU,qX,reduceIte];have e3:(ps++[(id,none)]).map (zcl ks.length)=ps.map (zcl ks.length)++[.sl id 0 ks.length 2 none]:=by simp[zcl]
    rw[e3];refine hG2.mono (λ_ h _=>h) (λid' _ h3 hm=>h3 ?_);rw[yV]at hm;rcases List.mem_append.1 hm with e | e
    ·simp only[xO];exact .inr e
    ·simp at e;simp[e]
   ·have hps:=hR.1
    have htk:rs.take (i+1)=rs.take i++[rs.getD i 0]:=by
     rw[yJ,qZ,qW hi];rfl
    have hml:(selM M (rs.take i) ks).length=i:=by simp[selM];omega
    refine⟨by rw[htk];simp[selM]at hps ⊢;omega,λi' hi'=>?_⟩;rw[htk]at hi' ⊢;have hsm:selM M (rs.take i++[rs.getD i 0]) ks=selM M (rs.take i) ks++[selR M (rs.getD i 0) ks]:=by simp[selM]
    rw[hsm]at hi' ⊢;rw[xD,yI,hml]at hi';rcases xW i' i with hii | hii
    ·have e4:(selM M (rs.take i) ks++[selR M (rs.getD i 0) ks]).getD i' []=(selM M (rs.take i) ks).getD i' []:=by
      rw[qZ,qE (by omega),<-qZ]
     have e5:pid (ps++[(id,none)]) i'=pid ps i':=by
      unfold pid;rw[qZ,qE (by omega),<-qZ]
     rw[e4,e5];obtain⟨g1,cs',g2,g3⟩:=hR.2 i' (by omega);have hpm:=zim (ps:=ps) (i:=i') (by omega);refine⟨g1,cs',?_,g3⟩;rw[hk2 _ (by have:=hlt _ hpm;omega) (zkm hG7 (by simp only[xO];exact .inr hpm)),hkeep _ (hb2 _ hpm)];exact g2
    ·have e4:(selM M (rs.take i) ks++[selR M (rs.getD i 0) ks]).getD i' []=selR M (rs.getD i 0) ks:=by
      rw[qZ,qB (by omega),show i'-(selM M (rs.take i) ks).length=0 by omega];rfl
     have e5:pid (ps++[(id,none)]) i'=id:=by
      unfold pid;rw[qZ,qB (by omega),show i'-ps.length=0 by omega];rfl
     rw[e4,e5];refine⟨hsl,cs,?_,hrc⟩;rw[hk2 _ hidlt (zkm hG7 (by simp))];exact hgb
   ·intro x hx;rw[yV]at hx;rcases List.mem_append.1 hx with e | e
    ·have:=hlt x e;omega
    ·simp at e;omega
  all_goals simp only[UU,qX,reduceIte, *]
 ·have hm:i=rs.length:=by omega
  subst hm;rw[yM]at hR;simp only[r145_13,SS,reduceIte,qX];rcases hG with⟨h0,_⟩ | ⟨_,_,id,h7,hb,_⟩
  ·omega
  ·obtain⟨v,hv1,hv2⟩:=qxb hb hR;have hml:(selM M rs ks).length=rs.length:=by simp[selM]
   rw[hml]at hv1;exact⟨.inl trivial,_,v,rfl,by rw[h7];exact hv1,hv2⟩
structure Sq(n:Nat)(M:List (List Int))(a:AV):Prop where
 mat:MatV M a
 len:M.length=n
 cols:∀i,i<n->(M.getD i []).length=n
 lo:1<=n
 hi:n<=8
theorem Sq.shape{n:Nat}{M:List (List Int)}{a:AV}(h:Sq n M a):qof M:=by
 refine⟨by rw[h.len];exact h.lo,by rw[h.len];have:=h.hi;omega,λi hi=>?_⟩;rw[h.len]at hi;rw[h.cols i hi,h.cols 0 h.lo];have:=h.lo;have:=h.hi;omega
theorem Sq.closed{n:Nat}{M:List (List Int)}{a:AV}(h:Sq n M a):a.closed=true:=by
 obtain⟨rows,c,rfl,_⟩:=h.mat;rfl
theorem qoq{n:Nat}{M:List (List Int)}{a:AV}(h:Sq n M a):Rt 74 [a] [] (.tup [.int .i64 (n:Nat),.bool true]) []:=by
 have t:=qdl h.mat h.shape;rw[h.len,h.cols 0 h.lo]at t;have c1:qY [a]=true:=by simp only[qY,h.closed,qI]
 refine oF o74 ?_;simp only[c74,r74_0,r74_1,SS,reduceCtorEq,reduceIte];refine zaa t ?_ c1;simp only[SS,reduceIte,qX,qH,qC];have d1:decide (((n:Nat):Int)≠(n:Nat))=false:=by simp
 simp only[r74_2,SS,fC,reduceIte,qX,d1];simp only[r74_4,SS,reduceIte,qX];exact dR
theorem xbw{n:Nat}{M:List (List Int)}{a:AV}(h:Sq n M a){k:Nat}(hk:k<n):Sq (k+1) (minK M k) (matC (minK M k))/\(minK M k).length=k+1:=by
 have hl:(minK M k).length=k+1:=by simp[minK,selM]
 have hf:=zxk h.mat
 have hent:∀i j,i<n->j<n->(ent M i j).natAbs<BIG:=by
  intro i j hi hj;have hc:=h.cols i hi;unfold ent;rw[qZ (l:=M.getD i []),qW (by omega)];have hm:M.getD i []∈M:=by rw[qZ,qW (by rw[h.len];exact hi)];exact xJ _
  exact hf _ hm _ (xJ _)
 refine⟨⟨zul ?_,hl,?_,by omega,by have:=h.hi;omega⟩,hl⟩
 ·intro r hr z hz;obtain⟨i,hi,rfl⟩:=List.mem_map.1 hr;obtain⟨j,hj,rfl⟩:=List.mem_map.1 hz
  have hb:∀x∈List.range k++[k],x<n:=by
   intro x hx;rcases List.mem_append.1 hx with e | e
   ·have:=List.mem_range.1 e;omega
   ·simp at e;omega
  exact hent i j (hb i hi) (hb j hj)
 ·intro i hi;unfold minK selM;rw[qZ,qG,qW (by simp;omega)];simp[selR]
theorem zna(z:Int):(intV z).cells=[.bool (decide (z<0)),.vec (u32s (zcn z.natAbs)) (zcn z.natAbs).length none]:=rfl
theorem qxc{H:Heap}{id n:Nat}{r:List Int}{cs:List AV}{b:Bool}(hb:getB H id=some cs)(hr:RowC r cs)(hn:n=r.length):AL.Fin 0 (.tup [.sl id 0 n 2 none,.bool b]) H (.tup [.vec cs n none,.bool b]) []:=by
 refine .freeze 3 _ _ _ ?_ (by intro i cs h;omega);have e:=qdk hr 0 0 H;have hl:=zda hr
 have e1:frzI 0 H 2 (.sl id 0 n 2 none)=some (.vec cs n none):=by
  rw[frzI];simp only[qT,if_false,hb,need,qO,hn,hl,qD,if_true,qM];rw[qU (by omega),e];rfl
 rw[frzI];simp only[xK,zN,e1];rfl
theorem qdq{B n:Nat}{M:List (List Int)}{a:AV}{ds:List Int}(hB:DivB B)(h:Sq n M a)(hd:zqk B M=some ds):Rt 78 [a] [] (.tup [rowV ds,.bool true]) []:=by
 have hl:ds.length=n:=by rw[<-h.len];exact zea hd
 have ts:=qoq h;have c1:qY [a]=true:=by simp only[qY,h.closed,qI]
 have hn8:=h.hi;have hn1:=h.lo;refine oFw o78 ?_;simp only[c78,r78_0,r78_1,SS,reduceCtorEq,reduceIte];refine zaa ts ?_ c1;simp only[SS,reduceIte,qX,qH,qC];simp only[r78_2,SS,fC,reduceIte,qX];simp only[r78_4,r78_5,SS];refine zax (λm E H=>∃k cs,k+m=n/\E 0=a/\E 4= .int .i64 (n:Nat)/\E 7= .int .i64 (k:Nat)/\RowC (ds.take k) cs/\Grow H 2 k cs (E 6) []) (n:=n) ⟨0,[],by omega,?_,?_,?_,trivial,.inl ⟨rfl,rfl,?_⟩⟩ ?_
 ·rfl
 ·rfl
 ·rfl
 ·rfl
 rintro m E H ⟨k,cs,hkm,e0,e4,e7,hrc,hG⟩;refine wM ?_;simp only[l78_0,r78_6,SS,reduceCtorEq,reduceIte,qX,e4,e7];refine⟨λhlt=>?_,λhge=>?_⟩
 ·obtain⟨m,rfl⟩:∃m',m=m'+1:=⟨m-1,by omega⟩
  have hk:k<n:=by omega
  have hpre:zeg B M (k+1)=some (ds.take (k+1)):=by
   have:zeg B M ((k+1)+m)=some ds:=by rw[show(k+1)+m=M.length by rw[h.len];omega];exact hd
   exact zql this
  have hpre0:zeg B M k=some (ds.take k):=by
   have:zeg B M (k+(m+1))=some ds:=by rw[show k+(m+1)=M.length by rw[h.len];omega];exact hd
   exact zql this
  simp only[zeg,hpre0,xC,xU,xG]at hpre;obtain⟨d,hdet,d',hck,htake⟩:=hpre;obtain⟨rfl,hfit⟩:=zcm hck;obtain⟨hsq,hml⟩:=xbw h hk;have hrl:(List.range k++[k]).length=k+1:=by simp
  have tf:=xzd k k (by omega);rw[<-hrl]at tf
  have hb:∀x∈List.range k++[k],x<n:=by
   intro x hx;rcases List.mem_append.1 hx with e | e
   ·have:=List.mem_range.1 e;omega
   ·simp at e;omega
  have tsel:=qop (n:=n) (rs:=List.range k++[k]) (ks:=List.range k++[k]) (c1:=none) (c2:=none) h.mat (by rw[h.len];omega) (by omega) (λi hi=>h.cols i (by rw[<-h.len];exact hi)) (λx hx=>by rw[h.len];exact hb x hx) (by omega) hb (by omega);have tdet:=mDet hB hsq.mat (by rw[hml];omega) (λi hi=>by rw[hml]at hi ⊢;exact hsq.cols i hi) hdet;have c2:qY [a,.vec (i64n (List.range k++[k])) (List.range k++[k]).length none,.vec (i64n (List.range k++[k])) (List.range k++[k]).length none]=true:=by simp only[qY,h.closed,AV.closed,qI]
  have hz:zat d' (intV d'):=zbp (qL hfit hB.1);have w5:=wS1 k (by omega);obtain⟨e,rd,hap,hG2,hl2,hk2,_,_⟩:=zho (bytes:=32) (xs:=[.bool (decide (d'<0)),.vec (u32s (zcn d'.natAbs)) (zcn d'.natAbs).length none]) hG rfl rfl (by omega) (by omega) (by simp);simp only[r78_7,SS,reduceCtorEq,reduceIte,qX,e0,e7];refine zaa tf ?_;simp only[SS,reduceIte,qX,e7];refine zaa tf ?_;simp only[SS,reduceIte,qX];refine zaa tsel ?_ c2;simp only[SS,reduceIte,qX];refine zaa tdet ?_;simp only[SS,reduceIte,qK,qX,qJ,zna,show(intV d').firm=true from rfl];simp only[SS,zdn,hap];simp only[r78_8,SS,reduceIte,qX,e7,w5];refine⟨m,_,_,by omega,⟨k+1,cs++[.bool (decide (d'<0)),.vec (u32s (zcn d'.natAbs)) (zcn d'.natAbs).length none],by omega,?_,?_,?_,?_,?_⟩,.refl⟩
  ·exact e0
  ·exact e4
  ·rfl
  ·rw[<-htake];exact zlp hrc _ _ _ hz
  ·simp only[UU,qX,reduceIte];exact hG2
 ·have hm:k=n:=by omega
  subst hm;rw[qU (by omega)]at hrc;simp only[r78_9,SS,reduceIte,qX];rcases hG with⟨h0,_⟩ | ⟨_,_,id,h7,hb,_⟩
  ·omega
  ·refine⟨.inl trivial,_,.tup [.vec cs k none,.bool true],rfl,?_,?_⟩
   ·simp only[UU,qX,reduceIte,h7];exact qxc hb hrc hl.symm
   ·simp only[AV.wk,AV.wk.wkL,qoj hrc,rowV,hl]
theorem jwq{n:Nat}{M:List (List Int)}{rows:List AV}(hr:∀i,i<M.length->zgh (M.getD i []) (rows.getD i .junk))(hlen:M.length=n)(hc:∀i,i<n->(M.getD i []).length=n){i:Nat}(hi:i<n):∃cs c,rows.getD i .junk= .vec cs n c/\cs.length=n*2/\
  ∀j,j<n->∃u v,(cs.drop (j*2)).take 2=[u,v]/\zat (ent M i j) (.agg [u,v]):=by
 obtain⟨cs,c,h1,h2⟩:=hr i (by omega);have hl:=zda h2;rw[hc i hi]at h1 hl;exact⟨cs,c,h1,hl,λj hj=>zez h2 j (by rw[hc i hi];exact hj)⟩
theorem zsi{n:Nat}{M:List (List Int)}{a:AV}(h:Sq n M a):Rt 75 [a] [] (.bool (symB M)) []:=by
 obtain⟨⟨rows,c,rfl,hl,hr⟩,hlen,hc,hlo,hhi⟩:=h;refine oF o75 ?_;simp only[c75,r75_0,r75_1,SS,reduceCtorEq,reduceIte];rw[hlen];refine zax (λm E H=>∃i,i+m=n/\E 0= .vec rows n c/\E 6= .int .i64 (n:Nat)/\E 7= .int .i64 (i:Nat)/\H=[]/\∀i',i'<i->∀j,j<i'->ent M i' j=ent M j i') (n:=n) ⟨0,by omega,?_,?_,?_,rfl,λi' h=>absurd h (by omega)⟩ ?_
 ·rfl
 ·rfl
 ·rfl
 rintro m E H ⟨i,him,e0,e6,e7,rfl,hsym⟩;refine wM ?_;simp only[l75_0,r75_2,SS,reduceCtorEq,reduceIte,e6,e7];refine⟨λhlt=>?_,λhge=>?_⟩
 ·obtain⟨m,rfl⟩:∃m',m=m'+1:=⟨m-1,by omega⟩
  have hi:i<n:=by omega
  have w5:=wS1 i (by omega);simp only[r75_3,r75_4,SS,reduceIte,qX,e7];refine zax (λm2 E H=>∃j,j+m2=i/\E 0= .vec rows n c/\E 3= .int .i64 (i:Nat)/\E 4= .int .i64 (j:Nat)/\E 6= .int .i64 (n:Nat)/\E 7= .int .i64 (i:Nat)/\H=[]/\∀j',j'<j->ent M i j'=ent M j' i) (n:=i) ⟨0,by omega,?_,?_,?_,?_,?_,rfl,λj' h=>absurd h (by omega)⟩ ?_
  ·exact e0
  ·rfl
  ·rfl
  ·exact e6
  ·exact e7
  rintro m2 E2 H2 ⟨j,hjm,f0,f3,f4,f6,f7,rfl,hsj⟩;refine wM ?_;simp only[l75_1,r75_5,SS,reduceCtorEq,reduceIte,qX,f3,f4];refine⟨λhlt3=>?_,λhge3=>?_⟩
  ·obtain⟨m2,rfl⟩:∃m',m2=m'+1:=⟨m2-1,by omega⟩
   have hj:j<i:=by omega
   obtain⟨ci,cci,gi,li,fi⟩:=jwq hr hlen hc (i:=i) hi;obtain⟨cj,ccj,gj,lj,fj⟩:=jwq hr hlen hc (i:=j) (by omega);obtain⟨u1,v1,x1,y1⟩:=fi j (by omega);obtain⟨u2,v2,x2,y2⟩:=fj i hi;have t:=zCmp y1 y2;have c1:qY [.agg [u1,v1],.agg [u2,v2]]=true:=by simp only[qY,y1.closed,y2.closed,qI]
   have w6:=wS1 j (by omega);have hl':rows.length=n:=by omega
   simp only[r75_6,SS,fC,reduceCtorEq,reduceIte,qX,f0,f3,f4,qV,gi,gj,li,lj,hl',x1,x2];refine⟨⟨by omega,by omega⟩,by omega,⟨by omega,by omega⟩,by omega,⟨by omega,by omega⟩,by omega,⟨by omega,by omega⟩,by omega,?_⟩;refine zaa t ?_ c1;simp only[SS,reduceIte,qX];refine⟨rfl,λhne=>?_,λheq=>?_⟩
   ·have hne2:ent M i j≠ent M j i:=by
     intro e;rw[if_neg (by omega),if_pos e]at hne;exact hne rfl
    have hb:symB M=false:=by
     cases hx:symB M with
     |false=>rfl
     |true=>exact absurd (zqm.1 hx i (by omega) j hj) hne2
    rw[hb];simp only[r75_7,SS];exact dR
   ·have heq2:ent M i j=ent M j i:=by
     have heq:(if ent M i j<ent M j i then(-1:Int)else if ent M i j=ent M j i then 0 else 1)=0:=by simpa using heq
     split at heq
     ·omega
     ·split at heq
      ·assumption
      ·omega
    simp only[r75_8,SS,reduceIte,qX,f4,w6];refine⟨m2,_,_,by omega,⟨j+1,by omega,?_,?_,?_,?_,?_,rfl,?_⟩,.refl⟩
    ·exact f0
    ·exact f3
    ·rfl
    ·exact f6
    ·exact f7
    ·intro j' hj';rcases xW j' j with h | h
     ·exact hsj j' h
     ·rw[show j'=j by omega];exact heq2
  ·simp only[r75_9,SS,reduceIte,qX,f7,w5];refine⟨m,_,_,by omega,⟨i+1,by omega,?_,?_,?_,rfl,?_⟩,.refl⟩
   ·exact f0
   ·exact f6
   ·rfl
   ·intro i' hi' j' hj';rcases xW i' i with h | h
    ·exact hsym i' h j' hj'
    ·have:i'=i:=by omega
     subst this;exact hsj j' (by omega)
 ·have hb:symB M=true:=zqm.2 (λi' hi' j hj=>hsym i' (by omega) j hj);rw[hb];simp only[r75_10,SS];exact dR
theorem qor{B n:Nat}{M:List (List Int)}{a:AV}{ds:List Int}(hB:DivB B)(h:Sq n M a)(hd:zqk B M=some ds):Rt 76 [a] [] (.bool (defB M ds)) []:=by
 have hl:ds.length=n:=by rw[<-h.len];exact zea hd
 have hfit:qol ds:=λz hz=>qL (zsg hd z hz) hB.1
 have t1:=qdq hB h hd;have t2:=zsi h;have c1:qY [a]=true:=by simp only[qY,h.closed,qI]
 have hrc:=zlt hfit;have hcl:=zda hrc;have hn8:=h.hi;refine oF o76 ?_;simp only[c76,r76_0,r76_1,SS,reduceCtorEq,reduceIte];refine zaa t1 ?_ c1;simp only[SS,reduceIte,qX,qH,qC];simp only[r76_2,SS,fC,reduceCtorEq,reduceIte,qX];refine zaa t2 ?_ c1;simp only[SS,fC,reduceIte,qX];refine⟨λhs=>?_,λhs=>?_⟩
 ·have hs:symB M=false:=by simpa using hs
  have hb:defB M ds=false:=by unfold defB;rw[hs];rfl
  rw[hb];simp only[r76_3,SS];exact dR
 ·have hs:symB M=true:=by simpa using hs
  simp only[r76_4,SS,reduceIte,qX,rowV];rw[hl];refine zax (λm E H=>∃i,i+m=n/\E 19= .vec (zxj ds) n none/\E 20= .int .i64 (n:Nat)/\E 21= .int .i64 (i:Nat)/\∀i',i'<i->0<ds.getD i' 0) (n:=n) ⟨0,by omega,?_,?_,?_,λi' h=>absurd h (by omega)⟩ ?_
  ·rfl
  ·rfl
  ·rfl
  rintro m E H ⟨i,him,e19,e20,e21,hpos⟩;refine wM ?_;simp only[l76_0,r76_5,SS,reduceCtorEq,reduceIte,e20,e21];refine⟨λhlt=>?_,λhge=>?_⟩
  ·obtain⟨m,rfl⟩:∃m',m=m'+1:=⟨m-1,by omega⟩
   obtain⟨u,v,hx,hy⟩:=zez hrc i (by omega);have hs2:=zlq (r:=[ds.getD i 0]) (cs:=[u,v]) ⟨hy,trivial⟩;have t3:=zxd hy;obtain⟨lz,cz,hz1,hz2⟩:=zaj hy;subst hz1 hz2;have w5:=wS1 i (by omega);simp only[r76_6,SS,reduceIte,qK,qX,qJ,e19,e21,qV,hcl,hl,hx,zef,set_snoc];refine⟨⟨by omega,by omega⟩,by omega,?_⟩;simp only[r76_7,SS,reduceIte,qK,qX,qJ,zef];refine zaa t3 ?_;simp only[SS,reduceIte,qX];refine⟨λhle=>?_,λhle=>?_⟩
   ·have hle2:ds.getD i 0<=0:=by
     rcases Int.lt_or_le 0 (ds.getD i 0)with h' | h'
     ·rw[xM h']at hle;omega
     ·exact h'
    have hb:defB M ds=false:=by
     unfold defB;rw[hs,Bool.true_and];cases hx:ds.all λd=>decide (0<d)with
     |false=>rfl
     |true=>
      rw[jX]at hx;have:=hx (ds.getD i 0) (by rw[qZ,qW (by omega)];exact xJ _);simp at this;simp[qZ]at hle2;omega
    rw[hb];simp only[r76_8,SS];exact dR
   ·have hpos2:0<ds.getD i 0:=by
     rcases Int.lt_or_le 0 (ds.getD i 0)with h' | h'
     ·exact h'
     ·exfalso;apply hle;rcases Int.lt_or_eq_of_le h' with h2 | h2
      ·rw[xA h2];omega
      ·rw[h2];decide
    simp only[r76_9,SS,reduceIte,qX,e21,w5];refine⟨m,_,_,by omega,⟨i+1,by omega,?_,?_,?_,λi' hi'=>?_⟩,.refl⟩
    ·exact e19
    ·exact e20
    ·rfl
    ·rcases xW i' i with h' | h'
     ·exact hpos i' h'
     ·rw[show i'=i by omega];exact hpos2
  ·have hb:defB M ds=true:=by
    unfold defB;rw[hs,Bool.true_and,jX];intro z hz;obtain⟨i',hi',rfl⟩:=List.mem_iff_getElem.1 hz;have:=hpos i' (by omega);rw[qZ,qW hi']at this;simpa using this
   rw[hb];simp only[r76_10,SS];exact dR
theorem zxn{B n:Nat}{M:List (List Int)}{a:AV}{ds:List Int}(hB:DivB B)(h:Sq n M a)(hd:zqk B M=some ds):Rt 29 [a] [] (.int .i64 (valZ M ds)) []:=by
 have t0:=qoq h;have t1:=qor hB h hd;have t2:=zsi h;have c1:qY [a]=true:=by simp only[qY,h.closed,qI]
 have d1:decide ((8:Int)<(n:Nat))=false:=decide_eq_false (by have:=h.hi;omega);refine oF o29 ?_;simp only[c29,r29_0,r29_1,SS,reduceCtorEq,reduceIte];refine zaa t0 ?_ c1;simp only[SS,reduceIte,qX,qH,qC];simp only[r29_2,SS,fC,reduceIte,qX,d1];simp only[r29_4,SS,reduceCtorEq,reduceIte,qX];refine zaa t2 ?_ c1;simp only[SS,reduceIte,qX];refine⟨λhs=>?_,λhs=>?_⟩
 ·have hs:symB M=false:=by simpa using hs
  have hv:valZ M ds=4:=by unfold valZ;rw[if_pos hs]
  rw[hv];simp only[r29_5,SS];exact dR
 ·have hs:symB M=true:=by simpa using hs
  simp only[r29_6,SS,reduceCtorEq,reduceIte,qX];refine zaa t1 ?_ c1;simp only[SS,reduceIte,qX];refine⟨λhd=>?_,λhd=>?_⟩
  ·have hd:defB M ds=false:=by simpa using hd
   have hv:valZ M ds=5:=by unfold valZ;rw[if_neg (by rw[hs];simp),if_pos hd]
   rw[hv];simp only[r29_7,SS];exact dR
  ·have hd:defB M ds=true:=by simpa using hd
   have hv:valZ M ds=0:=by unfold valZ;rw[if_neg (by rw[hs];simp),if_neg (by rw[hd];simp)]
   rw[hv];simp only[r29_8,SS];exact dR
theorem xze{B n:Nat}{M:List (List Int)}{a:AV}{d:Int}(hB:DivB B)(h:Sq n M a)(hd:detO B M=some d)(hfit:d.natAbs<B):Rt 30 [a] [] (.bool (decide (d<=10000))) []:=by
 have t1:=mDet hB h.mat (by rw[h.len];have:=h.lo;have:=h.hi;omega) (λi hi=>by rw[h.len]at hi ⊢;exact h.cols i hi) hd;obtain⟨v,hv,t2⟩:=zgv 10000 (by omega) (by omega);have hz:zat d (intV d):=zbp (qL hfit hB.1);have t3:=zCmp hz hv;have c1:qY [a]=true:=by simp only[qY,h.closed,qI]
 have c2:qY [intV d,v]=true:=by simp only[qY,hz.closed,hv.closed,qI]
 refine oF o30 ?_;simp only[c30,r30_0,r30_1,SS,reduceCtorEq,reduceIte];refine zaa t1 ?_ c1;simp only[SS];refine zaa t2 ?_ rfl hv.closed;simp only[SS,reduceIte,qX];refine zaa t3 ?_ c2;simp only[SS,reduceIte,qX]
 have e:decide ((if d<10000 then(-1:Int)else if d=10000 then 0 else 1)<=0)=decide (d<=10000):=by
  rw[decide_eq_decide];split
  ·omega
  ·split<;>omega
 rw[e];exact dR
theorem xzf{ds:List Int}{cs:List AV}{c:Option Nat}{k:Nat}(hrc:RowC ds cs)(hk:k<=ds.length)(hl:ds.length<=16):Rt 91 [.vec cs ds.length c,.int .i64 (k:Nat)] [] (intV (zcj ds k)) []:=by
 have hcl:=zda hrc;refine oFw o91 ?_;simp only[c91,r91_0,r91_1,SS,reduceCtorEq,reduceIte,qX];refine⟨λh0=>?_,λh0=>?_⟩
 ·have h0:k=0:=by omega
  obtain⟨v,hv,t⟩:=zgv 1 (by omega) (by omega);have hv0:=hv;obtain⟨l1,c1,_,_,_,rfl⟩:=hv0;simp only[r91_2,SS];refine zaa t ?_;simp only[SS,reduceIte,qK,qX,qJ];refine⟨.inl trivial,_,_,zfo (id:=0) (by rfl) rfl,.drop _ _ rfl (by intro i cs h;omega),?_⟩;rw[show zcj ds k=1 by unfold zcj;rw[if_pos h0]];exact hv.wk
 ·have h0:k≠0:=by omega
  obtain⟨u,v,hx,hy⟩:=zez hrc (k-1) (by omega);have w1:IntKind.i64.wrap ((k:Int)-1)=((k-1:Nat):Int):=wQ (by omega);have hyw:=hy;obtain⟨lz,cz,hz1,hz2⟩:=zaj hy;subst hz1 hz2;simp only[r91_3,SS,reduceCtorEq,reduceIte,qK,qX,qJ,w1,qV,hcl,hx];refine⟨⟨by omega,by omega⟩,by omega,?_⟩;refine⟨.inl trivial,_,_,zfo (id:=0) (by rfl) rfl,.drop _ _ rfl (by intro i cs h;omega),?_⟩;rw[show zcj ds k=ds.getD (k-1) 0 by unfold zcj;rw[if_neg h0]];exact hyw.wk
theorem qhe{f:FuncId}{a v:AV}{l1 l2:List Nat}{n1 n2 i1 i2:Nat}{c1 c2:Option Nat}{H:Heap}{K:AV->Eff->List Nat->Nat->Prop}(h:Rt f [a,.vec (i64n l1) n1 c1,.vec (i64n l2) n2 c2] [] v [])(hn1:n1=l1.length)(hn2:n2=l2.length)
  (h1:getB H i1=some (i64n l1)) (h2:getB H i2=some (i64n l2)) (hne:i1≠i2) (ha:a.closed=true) (hfa:∀H0,frzI 0 H0 2 a=some a) (hv:v.closed=true) (hk:K v [(i1,none),(i2,none)] [i1,i2] 0):ztp Tryz.prog G f [a,.sl i1 0 n1 1 c1,.sl i2 0 n2 1 c2] H K:=by
 have hc:∀l:List Nat,qY (i64n l)=true:=by
  intro l
  induction l with
  |nil=>rfl
  |cons d l ih=>exact ih
 have g:∀{i:Nat} {cs:List AV},getB H i=some cs->H[i]?=some (some cs):=by
  intro i cs h;unfold getB at h;split at h
  ·rename_i e;simp at h;rw[e,h]
  ·simp at h
 have e0:zag [i1,i2] H.length 0=i1:=by simp[zag]
 have e1:zag [i1,i2] H.length 1=i2:=by simp[zag]
 have hfr:([a,.sl 0 0 n1 1 c1,.sl 1 0 n2 1 c2]:List AV).mapM (frzI 0 [some (i64n l1),some (i64n l2)] 2)=some [a,.vec (i64n l1) n1 c1,.vec (i64n l2) n2 c2]:=by
  have f1:frzI 0 [some (i64n l1),some (i64n l2)] 2 (.sl 0 0 n1 1 c1)=some (.vec (i64n l1) n1 c1):=by
   have e:=zum l1 0 0 [some (i64n l1),some (i64n l2)];rw[frzI];simp only[qT,if_false,zpf,need,qO,xV,hn1,zgi,qD,if_true,qM];rw[qU (by rw[zgi];omega),e];rfl
  have f2:frzI 0 [some (i64n l1),some (i64n l2)] 2 (.sl 1 0 n2 1 c2)=some (.vec (i64n l2) n2 c2):=by
   have e:=zum l2 0 0 [some (i64n l1),some (i64n l2)];rw[frzI];have hg:getB [some (i64n l1),some (i64n l2)] 1=some (i64n l2):=rfl;simp only[qT,if_false,hg,need,qO,xV,hn2,zgi,qD,if_true,qM];rw[qU (by rw[zgi];omega),e];rfl
  rw[xK,xK,xK,hfa,f1,f2];rfl
 have hH1:=zas h1;have hH2:=zas h2
 have:=CallR0.mk (P:= Tryz.prog) (Γ:=G) (f:=f) (args:=[a,.sl i1 0 n1 1 c1,.sl i2 0 n2 1 c2]) (k:=H.length) (H:=H++List.replicate 0 none) [i1,i2] [a,.sl 0 0 n1 1 c1,.sl 1 0 n2 1 c2] [some (i64n l1),some (i64n l2)] v [none,none] (qlb h hfr) rfl (by simp[hne]) (by
   intro i hi;rcases List.mem_cons.1 hi with e | e
   ·rw[e];exact hH1
   ·simp at e;rw[e];exact hH2) (by simp[AV.ren,e0,e1,zfq _ a ha]) (by simp[AV.under.underL,AV.under,znh 2 a ha]) (by
   intro i c hi
   match i,hi with
   |0,hi=>
    simp at hi;subst hi;refine⟨_,rfl,zbs _ _ (hc l1),?_⟩;rw[e0];simp only[renB,zaq _ _ (hc l1)];simpa using g h1
   |1,hi=>
    simp at hi;subst hi;refine⟨_,rfl,zbs _ _ (hc l2),?_⟩;rw[e1];simp only[renB,zaq _ _ (hc l2)];simpa using g h2
   |i+2,hi=>simp at hi)
 refine⟨v,_,_,0,?_,hk⟩;rw[zfq _ v hv]at this;refine .base ?_;simpa[effs,e0,e1,renB]using this
theorem lam_sq{n:Nat}{M:List (List Int)}{a:AV}(h:Sq n M a){i j:Nat}(hi:i<n)(hj:j<n):Sq (j+1) (lamM M i j) (matC (lamM M i j))/\(lamM M i j).length=j+1:=by
 have hl:(lamM M i j).length=j+1:=by simp[lamM,selM]
 have hf:=zxk h.mat
 have hent:∀i j,i<n->j<n->(ent M i j).natAbs<BIG:=by
  intro i j hi hj;have hc:=h.cols i hi;unfold ent;rw[qZ (l:=M.getD i []),qW (by omega)];have hm:M.getD i []∈M:=by rw[qZ,qW (by rw[h.len];exact hi)];exact xJ _
  exact hf _ hm _ (xJ _)
 have hb:∀x y,y<n->x∈List.range j++[y]->x<n:=by
  intro x y hy hx;rcases List.mem_append.1 hx with e | e
  ·have:=List.mem_range.1 e;omega
  ·simp at e;omega
 refine⟨⟨zul ?_,hl,?_,by omega,by have:=h.hi;omega⟩,hl⟩
 ·intro r hr z hz;obtain⟨x,hx,rfl⟩:=List.mem_map.1 hr;obtain⟨y,hy,rfl⟩:=List.mem_map.1 hz;exact hent x y (hb x i hi hx) (hb y j hj hy)
 ·intro x hx;unfold lamM selM;rw[qZ,qG,qW (by simp;omega)];simp[selR]
theorem qam{B n:Nat}{M:List (List Int)}{a:AV}{i j:Nat}{d:Int}(hB:DivB B)(h:Sq n M a)(hi:i<n)(hj:j<n)(hd:detO B (lamM M i j)=some d)(hfit:d.natAbs<B):
  Rt 90 [a,.int .i64 (i:Nat),.int .i64 (j:Nat)] [] (intV d) []:=by
 have hn8:=h.hi;obtain⟨hsq,hml⟩:=lam_sq h hi hj;have tdet:=mDet hB hsq.mat (by rw[hml];omega) (λx hx=>by rw[hml]at hx ⊢;exact hsq.cols x hx) hd
 have hb:∀x y,y<n->x∈List.range j++[y]->x<n:=by
  intro x y hy hx;rcases List.mem_append.1 hx with e | e
  ·have:=List.mem_range.1 e;omega
  ·simp at e;omega
 have tsel:=qop (n:=n) (rs:=List.range j++[i]) (ks:=List.range j++[j]) (c1:=none) (c2:=none) h.mat (by rw[h.len];omega) (by omega) (λx hx=>h.cols x (by rw[<-h.len];exact hx)) (λx hx=>by rw[h.len];exact hb x i hi hx) (by simp;omega) (λx hx=>hb x j hj hx) (by simp;omega);have l1:(List.range j++[i]).length=j+1:=by simp
 have l2:(List.range j++[j]).length=j+1:=by simp
 rw[l1,l2]at tsel
 have hfa:∀H0,frzI 0 H0 2 a=some a:=by
  intro H0;obtain⟨rows,c,rfl,_⟩:=h.mat;rfl
 have hz:zat d (intV d):=zbp (qL hfit hB.1);refine oF o90 ?_;simp only[c90,r90_0,r90_1,r90_2,SS,reduceCtorEq]
 refine zax (λm E H=>∃k,k+m=j/\E 0=a/\E 1= .int .i64 (i:Nat)/\E 2= .int .i64 (j:Nat)/\E 6= .ptr 0 0/\E 9= .int .i64 (k:Nat)/\Grow H 1 k (i64n (List.range k)) (E 7) [0]/\Grow H 1 k (i64n (List.range k)) (E 8) [0]/\
  (∀x m1 m2 c1 c2,E 7= .sl x 0 m1 1 c1->E 8≠ .sl x 0 m2 1 c2)/\∃u v,getB H 0=some [u,v]) (n:=j) ⟨0,by omega,?_,?_,?_,?_,?_,.inl ⟨rfl,rfl,?_⟩,.inl ⟨rfl,rfl,?_⟩,?_,⟨_,_,rfl⟩⟩ ?_
 ·rfl
 ·rfl
 ·rfl
 ·rfl
 ·rfl
 ·rfl
 ·rfl
 ·intro x m1 m2 c1 c2 e;simp only[UU,qX,reduceIte]at e;simp at e
 rintro m E H ⟨k,hkm,e0,e1,e2,e6,e9,hG7,hG8,hdis,ru,rv,hres⟩;refine wM ?_;simp only[l90_0,r90_3,SS,reduceCtorEq,reduceIte,qX,e2,e9];have h0lt:=zas hres;refine⟨λhlt=>?_,λhge=>?_⟩
 ·obtain⟨m,rfl⟩:∃m',m=m'+1:=⟨m-1,by omega⟩
  have w5:=wS1 k (by omega);obtain⟨ea,rda,hapa,hGa,hla,hka,_,_⟩:=zho (bytes:=8) (xs:=[.int .i64 (k:Nat)]) hG7 rfl rfl (by omega) (by omega) (by simp);generalize hH1:zaf ea (H++[some [.int .i64 ((k:Nat):Int)]]++[none])=H1 at*
  have hG8':Grow H1 1 k (i64n (List.range k)) (E 8) [0]:=by
   refine hG8.mono (λid h1 h2=>?_) (λ_ _ h=>h);rw[hka id (zas h1) (λm1 c1 e=>hdis id m1 k c1 none e h2)];exact h1
  obtain⟨eb,rdb,hapb,hGb,hlb,hkb,_,_⟩:=zho (bytes:=8) (xs:=[.int .i64 (k:Nat)]) hG8' rfl rfl (by omega) (by omega) (by simp);generalize hH2:zaf eb (H1++[some [.int .i64 ((k:Nat):Int)]]++[none])=H2 at*;have hrg:i64n (List.range k)++[.int .i64 ((k:Nat):Int)]=i64n (List.range (k+1)):=by simp[i64n,yY]
  rw[hrg]at hGa hGb
  have hold8:∀x m2 c2,E 8= .sl x 0 m2 1 c2->x<H.length:=by
   intro x m2 c2 e;rcases hG8 with⟨_,_,h8⟩ | ⟨_,_,id,h8,hb8,_⟩
   ·rw[h8]at e;simp at e
   ·rw[h8]at e;injection e with e;rw[<-e];exact zas hb8
  simp only[r90_4,SS,reduceIte,qX,qJ,e9,zdn,hapa,hH1];simp only[r90_5,SS,reduceIte,qX,qJ,e9,zdn,hapb,hH2];simp only[r90_6,SS,reduceIte,qX,e9,w5];refine⟨m,_,_,by omega,⟨k+1,by omega,?_,?_,?_,?_,?_,?_,?_,?_,⟨ru,rv,?_⟩⟩,.refl⟩
  ·exact e0
  ·exact e1
  ·exact e2
  ·exact e6
  ·rfl
  ·simp only[UU,qX,reduceIte];refine hGa.mono (λid h1 h2=>?_) (λ_ _ h=>h);rw[hkb id (zas h1) (λm1 c1 e=>?_)]
   ·exact h1
   ·injection h2 with h2
    have:=hold8 _ _ _ e;omega
  ·simp only[UU,qX,reduceIte];exact hGb
  ·intro x m1 m2 c1 c2 h1 h2;simp only[UU,qX,reduceIte]at h1 h2;injection h1 with h1
   injection h2 with h2
   omega
  ·rw[hkb 0 (by omega) (zkm hG8' (by simp)),hka 0 h0lt (zkm hG7 (by simp))];exact hres
 ·have hm:k=j:=by omega
  subst hm;obtain⟨ea,rda,hapa,hGa,hla,hka,_,_⟩:=zho (bytes:=8) (xs:=[.int .i64 (i:Nat)]) hG7 rfl rfl (by omega) (by omega) (by simp);generalize hH1:zaf ea (H++[some [.int .i64 ((i:Nat):Int)]]++[none])=H1 at*
  have hG8':Grow H1 1 k (i64n (List.range k)) (E 8) [0]:=by
   refine hG8.mono (λid h1 h2=>?_) (λ_ _ h=>h);rw[hka id (zas h1) (λm1 c1 e=>hdis id m1 k c1 none e h2)];exact h1
  obtain⟨eb,rdb,hapb,hGb,hlb,hkb,_,_⟩:=zho (bytes:=8) (xs:=[.int .i64 (k:Nat)]) hG8' rfl rfl (by omega) (by omega) (by simp);generalize hH2:zaf eb (H1++[some [.int .i64 ((k:Nat):Int)]]++[none])=H2 at*;have hrg1:i64n (List.range k)++[.int .i64 ((i:Nat):Int)]=i64n (List.range k++[i]):=by simp[i64n]
  have hrg2:i64n (List.range k)++[.int .i64 ((k:Nat):Int)]=i64n (List.range k++[k]):=by simp[i64n]
  rw[hrg1]at hGa;rw[hrg2]at hGb
  have hold8:∀x m2 c2,E 8= .sl x 0 m2 1 c2->x<H.length:=by
   intro x m2 c2 e;rcases hG8 with⟨_,_,h8⟩ | ⟨_,_,id,h8,hb8,_⟩
   ·rw[h8]at e;simp at e
   ·rw[h8]at e;injection e with e;rw[<-e];exact zas hb8
  have ga:getB H1 (H.length+1)=some (i64n (List.range k++[i])):=by
   rcases hGa with⟨h,_⟩ | ⟨_,_,id,h1,h2,_⟩
   ·omega
   ·injection h1 with h1;rw[h1];exact h2
  have ga2:getB H2 (H.length+1)=some (i64n (List.range k++[i])):=by
   rw[hkb _ (zas ga) (λm1 c1 e=>by have:=hold8 _ _ _ e;omega)];exact ga
  have gb:getB H2 (H1.length+1)=some (i64n (List.range k++[k])):=by
   rcases hGb with⟨h,_⟩ | ⟨_,_,id,h1,h2,_⟩
   ·omega
   ·injection h1 with h1;rw[h1];exact h2
  have g0:getB H2 0=some [ru,rv]:=by
   rw[hkb 0 (by omega) (zkm hG8' (by simp)),hka 0 h0lt (zkm hG7 (by simp))];exact hres
  simp only[r90_7,SS,reduceCtorEq,reduceIte,qX,qJ,e0,e1,e2,zdn,hapa,hH1,hapb,hH2];refine qhe tsel l1.symm l2.symm ga2 gb (by omega) h.closed hfa rfl ?_;simp only[zcy,zaf,xX,xB,SS,reduceIte,qX];refine zaa tdet ?_
  have g1:getB ((H2.set (H.length+1) none).set (H1.length+1) none) 0=some [ru,rv]:=by
   rw[zar (by omega),zar (by omega)];exact g0
  simp only[SS,reduceIte,qK,qX,qJ,e6,g1,zna,show(intV d).firm=true from rfl];refine⟨.inl trivial,_,zfo (id:=0) (by exact e6) (zbl (zas g1)),.drop _ _ rfl (by intro i cs h;omega)⟩
structure Lead(B n:Nat)(M:List (List Int))(ds:List Int):Prop where
 eq:zqk B M=some ds
 len:ds.length=n
 fits:∀z∈ds,z.natAbs<B
theorem xbx{B n:Nat}{M:List (List Int)}{a:AV}{ds:List Int}(h:Sq n M a)(hd:zqk B M=some ds):Lead B n M ds:=⟨hd,by rw[<-h.len];exact zea hd,zsg hd⟩
theorem znb{B n:Nat}{M:List (List Int)}{ds:List Int}(hB:DivB B)(h:Lead B n M ds)(k:Nat):(zcj ds k).natAbs<BIG:=by
 unfold zcj;split
 ·exact zmr (by decide)
 ·rw[qZ];cases e:ds[k-1]? with
  |none=>exact zmr (by decide)
  |some z=>exact qL (h.fits z (zE e)) hB.1
theorem zxo{B n:Nat}{M:List (List Int)}{ds:List Int}(hB:DivB B)(h:Lead B n M ds)(hn:n<=8){k:Nat}(hk:k<=n):Rt 91 [rowV ds,.int .i64 (k:Nat)] [] (intV (zcj ds k)) []:=
 xzf (zlt (λz hz=>qL (h.fits z hz) hB.1)) (by rw[h.len];exact hk) (by rw[h.len];omega)
theorem xzg{B n:Nat}{M:List (List Int)}{a:AV}{ds:List Int}{i j:Nat}{b:Bool}(hB:DivB B)(h:Sq n M a)(hd:Lead B n M ds)(hi:i<n)(hj:j<n)(hb:zqn B M ds i j=some b):
  Rt 79 [a,rowV ds,.int .i64 (i:Nat),.int .i64 (j:Nat)] [] (.bool b) []:=by
 unfold zqn at hb;simp only[xU,xG]at hb;obtain⟨l,hl,x,hx,rfl⟩:=hb;obtain⟨hdet,hlf⟩:=zgw hl;obtain⟨rfl,hxf⟩:=zcm hx;have hn8:=h.hi;have t1:=qam hB h hi hj hdet hlf;have hz:zat l (intV l):=zbp (qL hlf hB.1);obtain⟨v2,hv2,t2⟩:=zgv 2 (by omega) (by omega);obtain⟨va,hva,t3⟩:=zAbs hz;have hf:(2*(l.natAbs:Int)).natAbs<BIG:=by have:=hB.1;omega
 obtain⟨vm,hvm,t4⟩:=zMul hv2 hva hf;have t5:=zxo hB hd hn8 (k:=j+1) (by omega);have hm:zat (zcj ds (j+1)) (intV (zcj ds (j+1))):=zbp (znb hB hd _);have t6:=zCmp hvm hm;have w5:=wS1 j (by omega);have c1:qY [a,.int .i64 (i:Nat),.int .i64 (j:Nat)]=true:=by simp only[qY,h.closed,AV.closed,qI]
 have c2:qY [v2,va]=true:=by simp only[qY,hv2.closed,hva.closed,qI]
 have c3:qY [vm,intV (zcj ds (j+1))]=true:=by simp only[qY,hvm.closed,hm.closed,qI]
 refine oF o79 ?_;simp only[c79,r79_0,r79_1,SS,reduceCtorEq];refine zaa t2 ?_ rfl hv2.closed;simp only[SS,reduceCtorEq,reduceIte,qX];refine zaa t1 ?_ c1;simp only[SS,reduceIte,qX];refine zaa t3 ?_ rfl hva.closed;simp only[SS,reduceIte,qX];refine zaa t4 ?_ c2 hvm.closed;simp only[SS,reduceIte,qX,w5];refine zaa t5 ?_;simp only[SS,reduceIte,qX];refine zaa t6 ?_ c3;simp only[SS,reduceIte,qX]
 have e:decide ((if 2*(l.natAbs:Int)<zcj ds (j+1)then(-1:Int)else if 2*(l.natAbs:Int)=zcj ds (j+1)then 0 else 1)<=0)=decide (2*(l.natAbs:Int)<=zcj ds (j+1)):=by
  rw[decide_eq_decide];split
  ·omega
  ·split<;>omega
 rw[e];exact dR
theorem xby{B n:Nat}{M:List (List Int)}{a:AV}{ds:List Int}{i:Nat}{b:Bool}(hB:DivB B)(h:Sq n M a)(hd:Lead B n M ds)(h0:0<i)(hi:i<n)(hb:lovO B M ds i=some b):
  Rt 80 [a,rowV ds,.int .i64 (i:Nat)] [] (.bool b) []:=by
 unfold lovO at hb;simp only[xU,xG]at hb;obtain⟨l,hl,p,hp,q,hq,s,hs,x,hx,r,hr,y,hy,rfl⟩:=hb;obtain⟨hdet,hlf⟩:=zgw hl;obtain⟨rfl,hpf⟩:=zcm hp;obtain⟨rfl,hqf⟩:=zcm hq;obtain⟨rfl,hsf⟩:=zcm hs;obtain⟨rfl,hxf⟩:=zcm hx;obtain⟨rfl,hrf⟩:=zcm hr;obtain⟨rfl,hyf⟩:=zcm hy;have hn8:=h.hi;have up:∀{z:Nat},z<B->z<BIG:=λh=>qL h hB.1
 have t1:=qam hB h hi (show i-1<n by omega) hdet hlf;have hz:zat l (intV l):=zbp (up hlf);have mi:=λk=>(zbp (znb hB hd k):zat (zcj ds k) (intV (zcj ds k)))
 obtain⟨v4,hv4,t2⟩:=zgv 4 (by omega) (by omega);obtain⟨v3,hv3,t3⟩:=zgv 3 (by omega) (by omega);have t4:=zxo hB hd hn8 (k:=i-1) (by omega);have t5:=zxo hB hd hn8 (k:=i+1) (by omega);have t6:=zxo hB hd hn8 (k:=i) (by omega);obtain⟨vp,hvp,t7⟩:=zMul (mi (i-1)) (mi (i+1)) (up hpf);obtain⟨vq,hvq,t8⟩:=zMul hz hz (up hqf);obtain⟨vs,hvs,t9⟩:=zAdd hvp hvq (up hsf);obtain⟨vx,hvx,t10⟩:=zMul hv4 hvs (up hxf);obtain⟨vr,hvr,t11⟩:=zMul (mi i) (mi i) (up hrf);obtain⟨vy,hvy,t12⟩:=zMul hv3 hvr (up hyf);have t13:=zCmp hvx hvy;have w1:IntKind.i64.wrap ((i:Int)-1)=((i-1:Nat):Int):=wQ (by omega);have w2:=wS1 i (by omega);have c1:qY [a,.int .i64 (i:Nat),.int .i64 ((i-1:Nat):Int)]=true:=by simp only[qY,h.closed,AV.closed,qI]
 have hx0:=hvx;obtain⟨lx,cx,_,_,_,rfl⟩:=hx0
 have k2:∀{u v:AV},u.closed=true->v.closed=true->qY [u,v]=true:=by
  intro u v h1 h2;simp only[qY,h1,h2,qI]
 refine oF o80 ?_;simp only[c80,r80_0,r80_1,SS,reduceCtorEq,reduceIte,qX,w1];refine zaa t1 ?_ c1;simp only[SS,reduceIte,qK,qX,qJ,zna,show(intV l).firm=true from rfl];simp only[r80_2,SS];refine zaa t2 ?_ rfl hv4.closed;simp only[SS,reduceIte,qX,w1];refine zaa t4 ?_;simp only[SS,reduceIte,qX,w2];refine zaa t5 ?_;simp only[SS,reduceIte,qX];refine zaa t7 ?_ rfl hvp.closed;simp only[SS,reduceIte,qK,qX,qJ];refine zaa t8 ?_ rfl hvq.closed;simp only[SS,reduceIte,qX];refine zaa t9 ?_ (k2 hvp.closed hvq.closed) hvs.closed;simp only[SS,reduceIte,qX];refine zaa t10 ?_ (k2 hv4.closed hvs.closed);simp only[SS,reduceIte,qK,qX,qJ];refine⟨rfl,?_⟩;simp only[r80_3,SS,reduceIte,qK,qX,qJ];refine zaa t3 ?_ rfl hv3.closed;simp only[SS,reduceIte,qX];refine zaa t6 ?_;simp only[SS,reduceIte,qX];refine zaa t6 ?_;simp only[SS,reduceIte,qX];refine zaa t11 ?_ rfl hvr.closed;simp only[SS,reduceIte,qX];refine zaa t12 ?_ (k2 hv3.closed hvr.closed) hvy.closed;simp only[SS,reduceIte,qX];refine zaa t13 ?_ (k2 rfl hvy.closed);simp only[SS,reduceIte,qX];refine⟨rfl,?_⟩;generalize 4*(zcj ds (i-1)*zcj ds (i+1)+l*l)=x;generalize 3*(zcj ds i*zcj ds i)=y
 have e:decide ((0:Int)<=if x<y then(-1:Int)else if x=y then 0 else 1)=decide (y<=x):=by
  rw[decide_eq_decide];split
  ·omega
  ·split<;>omega
 first | rw[e] | (simp only[ge_iff_le];rw[e])
 exact dR
def zrow(n:Nat):List Int:=List.replicate n 0
def zmat(N n:Nat):List (List Int):=List.replicate N (zrow n)
def zcs(n:Nat):List AV:=zgn n [.bool false,.vec [] 0 (some 0)]
theorem zsj:zat 0 (.agg [.bool false,.vec [] 0 (some 0)]):=⟨[],some 0,zck.nil,by simp,rfl,rfl⟩
theorem qhf:∀n,RowC (zrow n) (zcs n):=by
 intro n
 induction n with
 |zero=>trivial
 |succ n ih=>exact⟨zsj,ih⟩
theorem zoe{N n i:Nat}(h:i<N):(zmat N n).getD i []=zrow n:=by
 unfold zmat;rw[qZ,xE,if_pos h,yX]
def zps(n i:Nat):List (Nat×Option Nat):=(List.range i).map λk=>(k+1,some n)
def zH(N n i:Nat):Heap:=some ((zps n i).map (zcl n)++List.replicate (N-i) nilV)::List.replicate i (some (zcs n))
theorem zuo(n i:Nat):(zps n i).length=i:=by simp[zps]
theorem xbz{n i k:Nat}(h:k<i):(zps n i).getD k (0,none)=(k+1,some n):=by
 rw[qZ];simp[zps,h]
theorem xzh{N n i k:Nat}(h:k<i):getB (zH N n i) (k+1)=some (zcs n):=by
 unfold getB zH;rw[qC,xE,if_pos h]
theorem xzi(N n:Nat):MatH (zH N n N) 0 (zps n N) n (zmat N n):=by
 refine⟨?_,by rw[zuo];simp[zmat],λi hi=>?_,λi hi=>?_,?_⟩
 ·show some ((zps n N).map (zcl n)++List.replicate (N-N) nilV)=_
  rw[xZ,xX,xB]
 ·have hi:i<N:=by simpa[zmat]using hi
  rw[zoe hi];simp[zrow]
 ·have hi:i<N:=by simpa[zmat]using hi
  rw[xbz hi,zoe hi];exact⟨_,xzh hi,qhf n⟩
 ·rw[qN];have e:(zps n N).map (·.1)=(List.range N).map (· + 1):=by simp[zps]
  rw[e];refine⟨λh=>?_,?_⟩
  ·obtain⟨k,_,hk⟩:=List.mem_map.1 h;omega
  ·refine List.pairwise_iff_getElem.2 (λi j hi hj hij=>?_);rw[qP,qP,yU,yU];omega
theorem qos{N n:Nat}(hN:N<=16)(hn:n<=16):Rt 73 [.int .i64 (N:Nat),.int .i64 (n:Nat)] [] (.sl 0 0 N 1 (some N)) (zH N n N):=by
 refine oF o73 ?_;simp only[c73,r73_0,r73_1,SS,reduceCtorEq,reduceIte,qX,qV];refine⟨by omega,⟨by omega,by omega,by omega,by omega⟩,?_⟩;simp only[r73_2,SS,reduceIte,qX];refine zax (λk E H=>∃i,i+k=N/\H=zH N n i/\E 1= .int .i64 (n:Nat)/\E 5= .sl 0 0 N 1 (some N)/\E 10= .int .i64 (N:Nat)/\E 11= .int .i64 (i:Nat)) (n:=N) ⟨0,by omega,?_,?_,?_,?_,?_⟩ ?_
 ·simp[zH,zps]
 ·rfl
 ·rfl
 ·rfl
 ·rfl
 rintro k E H ⟨i,hik,rfl,e1,e5,e10,e11⟩;refine wM ?_;simp only[l73_0,r73_3,SS,reduceCtorEq,reduceIte,e10,e11];refine⟨λhlt=>?_,λhge=>?_⟩
 ·obtain⟨k,rfl⟩:∃k',k=k'+1:=⟨k-1,by omega⟩
  have hi:i<N:=by omega
  have w5:=wS1 i (by omega);have hlen:(zH N n i).length=i+1:=by simp[zH]
  have h0:getB (zH N n i++[some (zgn n [AV.bool false,AV.vec [] 0 (some 0)])]) 0=some ((zps n i).map (zcl n)++List.replicate (N-i) nilV):=rfl;have hl0:((zps n i).map (zcl n)++List.replicate (N-i) nilV).length=N:=by simp[zuo];omega
  simp only[r73_4,r73_5,SS,reduceIte,qK,qX,e1,e5,e11,qV,hlen,h0,hl0];refine⟨by omega,⟨by omega,by omega,by omega,by omega⟩,⟨by omega,by omega⟩,by omega,?_⟩;simp only[r73_6,SS,reduceIte,qX,e11,w5];refine⟨k,_,_,by omega,⟨i+1,by omega,?_,?_,?_,?_,?_⟩,.refl⟩
  ·have e:List.replicate (N-i) nilV=nilV::List.replicate (N-(i+1)) nilV:=by rw[<-xL];congr 1;omega
   have ez:zps n (i+1)=zps n i++[(i+1,some n)]:=by simp[zps,yY]
   have hset:((zps n i).map (zcl n)++List.replicate (N-i) nilV).set i (.sl (i+1) 0 n 2 (some n))=(zps n (i+1)).map (zcl n)++List.replicate (N-(i+1)) nilV:=by
    rw[e,ez,qA _ _ (by simp[zuo])];simp[zuo,zcl]
   show some (((zps n i).map (zcl n)++List.replicate (N-i) nilV).set i (.sl (i+1) 0 n 2 (some n)))::(List.replicate i (some (zcs n))++[some (zcs n)])=zH N n (i+1)
   rw[hset,<-zB];rfl
  all_goals simp only[UU,qX,reduceIte, *]
 ·have:i=N:=by omega
  subst this;simp only[r73_7,SS,reduceIte,qX,e5];exact kR
def i64z(r:List Int):List AV:=r.map λz=>AV.int .i64 z
theorem zca(r:List Int):(i64z r).length=r.length:=by simp[i64z]
theorem zlu(r:List Int)(j:Nat)(h:j<r.length)(d:AV):(i64z r).getD j d= .int .i64 (r.getD j 0):=by simp[i64z,h]
def In64(z:Int):Prop:= -9223372036854775808<=z/\z<9223372036854775808
structure ImV(M:List (List Int))(a:AV):Prop where
 val:∃rows c,a= .vec rows M.length c/\rows.length=M.length/\∀i,i<M.length->∃c',rows.getD i .junk= .vec (i64z (M.getD i [])) (M.getD i []).length c'
 fit:∀i j,In64 (ent M i j)
theorem ImV.closed{M:List (List Int)}{a:AV}(h:ImV M a):a.closed=true:=by
 obtain⟨rows,c,rfl,_⟩:=h.val;rfl
theorem zup{N n:Nat}{M M':List (List Int)}(h1:M.length=N)(h2:M'.length=N)(h3:∀i,i<N->(M.getD i []).length=n)(h4:∀i,i<N->(M'.getD i []).length=n)(h:∀i j,i<N->j<n->ent M i j=ent M' i j):M=M':=by
 refine yK (h1.trans h2.symm) λi hi hi'=>?_
 have e1:M.getD i []=M[i]:=by rw[qZ,qW hi];rfl
 have e2:M'.getD i []=M'[i]:=by rw[qZ,qW hi'];rfl
 have l1:=h3 i (by omega);have l2:=h4 i (by omega);rw[e1]at l1;rw[e2]at l2;refine yK (l1.trans l2.symm) λj hj hj'=>?_
 have:=h i j (by omega) (by omega);unfold ent at this;rw[e1,e2,qZ,qZ,qW hj,qW hj']at this;simpa using this
theorem qdr{H:Heap}{o n:Nat}{ps:List (Nat×Option Nat)}{M:List (List Int)}(h:MatH H o ps n M):zxm H n ps M:=⟨h.len,λi hi=>⟨h.cols i hi,h.rows i hi⟩⟩
theorem zji{H:Heap}{o n:Nat}{ps:List (Nat×Option Nat)}{M:List (List Int)}{cap:Option Nat}{b:Bool}(h:MatH H o ps n M):∃v,AL.Fin 0 (.tup [.sl o 0 M.length 1 cap,.bool b]) H v []/\v.wk= .tup [matC M,.bool b]:=by
 obtain⟨vs,h1,h2,h3⟩:=zun (qdr h);have hl:=h.len;refine⟨.tup [.vec vs M.length cap,.bool b],.freeze 4 _ _ _ ?_ (by intro i cs h;omega),?_⟩
 ·have e:frzI 0 H 3 (.sl o 0 M.length 1 cap)=some (.vec vs M.length cap):=by
   rw[frzI];simp only[qT,if_false,h.outer,need,qO,xV,xQ,hl,qD,if_true,qM];rw[qU (by simp[hl]),h1];rfl
  rw[frzI];simp only[xK,zN,e];rfl
 ·have:=qon (M:=M) (a:= .vec vs M.length cap) ⟨vs,cap,rfl,h2,h3⟩;simp only[AV.wk,AV.wk.wkL]at this ⊢;rw[this]
theorem zlv(N n i j:Nat):ent (zmat N n) i j=0:=by
 have hz:∀j,(zrow n).getD j 0=0:=by
  intro j;rw[qZ];unfold zrow;rw[xE];split<;>rfl
 unfold ent;rcases xW i N with h | h
 ·rw[zoe h];exact hz j
 ·have e:(zmat N n).getD i []=[]:=by rw[qZ,xS (by rw[zmat,yH];exact h)];rfl
  rw[e];rfl
theorem zjj(N n:Nat):(zmat N n).length=N/\∀i,i<N->((zmat N n).getD i []).length=n:=⟨by simp[zmat],λi hi=>by rw[zoe hi];simp[zrow]⟩
theorem zhp{M:List (List Int)}{i j:Nat}{z:Int}(hi:i<M.length)(hj:j<(M.getD i []).length)(s t:Nat):ent (setM M i j z) s t=if s=i/\t=j then z else ent M s t:=by
 have key:∀{α:Type} {l:List α} {i j:Nat} {x d:α},i<l.length->(l.set i x).getD j d=if j=i then x else l.getD j d:=by
  intro α l i j x d h;rw[qZ,yE,qZ];by_cases e:i=j
  ·subst e;rw[if_pos rfl,if_pos h,if_pos rfl];rfl
  ·rw[if_neg e,if_neg (Ne.symm e)]
 unfold ent setM;rw[key hi];by_cases h1:s=i
 ·subst h1;rw[if_pos rfl,key hj];by_cases h2:t=j
  ·rw[if_pos h2,if_pos ⟨rfl,h2⟩]
  ·rw[if_neg h2,if_neg (λe=>h2 e.2)]
 ·rw[if_neg h1,if_neg (λe=>h1 e.1)]
theorem zsk(H:Heap)(N n:Nat):MatH (H++(zH N n N).map (renB (zag [] H.length))) H.length ((zps n N).map λp=>(H.length+p.1,p.2)) n (zmat N n):=zls (xzi N n)
theorem qxd{M:List (List Int)}{rows:List AV}{c cap:Option Nat}{n:Nat}(hn:n<=16)(hN:M.length<=16)(hl:rows.length=M.length)(hr:∀i,i<M.length->∃c',rows.getD i .junk= .vec (i64z (M.getD i [])) (M.getD i []).length c')(hc:∀i,i<M.length->(M.getD i []).length=n)(hf:∀i j,In64 (ent M i j))
  {i:Nat} (hi:i<M.length) {v49 v50:AV} {Q:Post} {ps:List (Nat×Option Nat)} {X0:List (List Int)} (hX0:X0.length=M.length)
  {E:Env} {H:Heap} (hM:MatH H 0 ps n X0) (e0:E 0= .vec rows M.length c) (e6:E 6= .sl 0 0 M.length 1 cap) (e7:E 7= .int .i64 (i:Nat)) (e49:E 49=v49) (e50:E 50=v50) (e57:E 57= .int .i64 (n:Nat)) (e58:E 58= .int .i64 0)
  (hQ:∀E' H' X,MatH H' 0 ps n X->X.length=M.length->(∀s t,ent X s t=if s=i/\t<n then ent M s t else ent X0 s t)->E' 0= .vec rows M.length c->E' 6= .sl 0 0 M.length 1 cap->E' 49=v49->E' 50=v50->Q (.exit 4) E' H'):
  Wg 0 78 (.loop l28_2) E H Q:=by
 refine zax (λk E H=>∃j X,j+k=n/\MatH H 0 ps n X/\X.length=M.length/\(∀s t,ent X s t=if s=i/\t<j then ent M s t else ent X0 s t)/\E 0= .vec rows M.length c/\E 6= .sl 0 0 M.length 1 cap/\E 7= .int .i64 (i:Nat)/\E 49=v49/\E 50=v50/\
  E 57= .int .i64 (n:Nat)/\E 58= .int .i64 (j:Nat)) (n:=n) ⟨0,X0,by omega,hM,hX0,λs t=>by rw[if_neg (by omega)],e0,e6,e7,e49,e50,e57,e58⟩ ?_
 rintro k E H ⟨j,X,hjk,hM,hXl,hX,e0,e6,e7,e49,e50,e57,e58⟩;refine wM ?_;simp only[l28_2,r28_14,SS,reduceIte,e57,e58];refine⟨λhlt=>?_,λhge=>?_⟩
 ·obtain⟨k,rfl⟩:∃k',k=k'+1:=⟨k-1,by omega⟩
  have hj:j<n:=by omega
  obtain⟨ci,hci⟩:=hr i hi;have hrl:=hc i hi;have gz:=zlu (M.getD i []) j (by omega) .junk;obtain⟨csk,gk,lk,rk,fk⟩:=zfk hM (i:=i) (by omega);have ok:=zci (ps:=ps) (n:=n) (i:=i) (by rw[hM.len];omega);have hol:(ps.map (zcl n)).length=M.length:=by rw[xQ,hM.len];exact hXl
  have hou:=hM.outer;obtain⟨z1,z2⟩:=hf i j;obtain⟨v,hv,ts⟩:=zgv (ent M i j) (by omega) (by omega);have hv0:=hv;obtain⟨lv,cv,_,_,_,rfl⟩:=hv0;have hset:=zkl hM (i:=i) (j:=j) (by omega) hj hv gk;have w5:=wS1 j (by omega);have hent:(M.getD i []).getD j 0=ent M i j:=rfl;simp only[r28_15,r28_16,SS,fC,reduceCtorEq,reduceIte,qX,e0,e6,e7,e58,qV,hou,hol,ok,hci,hl,gz,hent,zca,hrl];refine⟨⟨by omega,by omega⟩,by omega,⟨by omega,by omega⟩,by omega,⟨by omega,by omega⟩,by omega,?_⟩;refine zaa ts ?_;simp only[SS,reduceIte,qK,qX,gk,lk,qV];refine⟨⟨by omega,by omega⟩,by omega,rfl,?_⟩;simp only[r28_17,SS,reduceIte,qX,e58,w5];refine⟨k,_,_,by omega,⟨j+1,setM X i j (ent M i j),by omega,hset,by rw[zcq];exact hXl,?_,?_,?_,?_,?_,?_,?_,?_⟩,.refl⟩
  ·intro s t;rw[zhp (by omega) (by rw[hM.cols i (by omega)];exact hj),hX];by_cases h1:s=i/\t=j
   ·rw[if_pos h1,if_pos ⟨h1.1,by omega⟩,h1.1,h1.2]
   ·rw[if_neg h1];by_cases h2:s=i/\t<j
    ·rw[if_pos h2,if_pos ⟨h2.1,by omega⟩]
    ·rw[if_neg h2,if_neg (by omega)]
  all_goals simp only[UU,qX,reduceIte, *]
 ·have hjn:j=n:=by omega
  subst hjn;exact hQ _ _ X hM hXl hX (by exact e0) (by exact e6) (by exact e49) (by exact e50)
theorem qot{M:List (List Int)}{rows:List AV}{c cap:Option Nat}{n:Nat}(hn:n<=16)(hN:M.length<=16)(hl:rows.length=M.length)(hr:∀i,i<M.length->∃c',rows.getD i .junk= .vec (i64z (M.getD i [])) (M.getD i []).length c')(hc:∀i,i<M.length->(M.getD i []).length=n)(hf:∀i j,In64 (ent M i j))
  {Q:Post} {ps:List (Nat×Option Nat)} {E:Env} {H:Heap} (hM:MatH H 0 ps n (zmat M.length n)) (e0:E 0= .vec rows M.length c) (e6:E 6= .sl 0 0 M.length 1 cap) (e49:E 49= .int .i64 (M.length:Nat)) (e50:E 50= .int .i64 0)
  (hQ:∀E' H',MatH H' 0 ps n M->E' 6= .sl 0 0 M.length 1 cap->Q (.exit 2) E' H'):
  Wg 0 78 (.loop l28_1) E H Q:=by
 refine zax (λk E H=>∃i X,i+k=M.length/\MatH H 0 ps n X/\X.length=M.length/\(∀s t,ent X s t=if s<i/\t<n then ent M s t else 0)/\E 0= .vec rows M.length c/\E 6= .sl 0 0 M.length 1 cap/\E 49= .int .i64 (M.length:Nat)/\E 50= .int .i64 (i:Nat)) (n:=M.length) ⟨0,zmat M.length n,by omega,hM,(zjj _ _).1,λs t=>by rw[if_neg (by omega),zlv],e0,e6,e49,e50⟩ ?_;rintro k E H ⟨i,X,hik,hM,hXl,hX,e0,e6,e49,e50⟩;refine wM ?_;simp only[l28_1,r28_11,SS,reduceIte,e49,e50];refine⟨λhlt=>?_,λhge=>?_⟩
 ·obtain⟨k,rfl⟩:∃k',k=k'+1:=⟨k-1,by omega⟩
  have hi:i<M.length:=by omega
  obtain⟨ci,hci⟩:=hr i hi;have hrl:=hc i hi;have w5:=wS1 i (by omega);simp only[r28_12,r28_13,SS,fC,reduceCtorEq,reduceIte,qX,e0,e50,qV,hci,hl,hrl];refine⟨⟨by omega,by omega⟩,by omega,?_⟩;refine qxd hn hN hl hr hc hf hi (c:=c) (cap:=cap) hXl hM (by exact e0) (by exact e6) (by rfl) (by simp only[UU,qX];exact e49) (by simp only[UU,qX];exact e50) (by rfl) (by rfl) ?_;intro E' H' X' hM' hXl' hX' f0 f6 f49 f50;simp only[SS,reduceIte,qX,r28_18,f50,w5];refine⟨k,_,_,by omega,⟨i+1,X',by omega,hM',hXl',?_,?_,?_,?_,?_⟩,.refl⟩
  ·intro s t;rw[hX',hX];by_cases h1:s=i/\t<n
   ·rw[if_pos h1,if_pos ⟨by omega,h1.2⟩]
   ·rw[if_neg h1];by_cases h2:s<i/\t<n
    ·rw[if_pos h2,if_pos ⟨by omega,h2.2⟩]
    ·rw[if_neg h2,if_neg (by omega)]
  all_goals simp only[UU,qX,reduceIte, *]
 ·have hiN:i=M.length:=by omega
  subst hiN
  have e:X=M:=by
   refine zup hXl rfl (λs hs=>hM.cols s (by omega)) hc λs t hs ht=>?_
   rw[hX,if_pos ⟨hs,ht⟩]
  exact hQ _ _ (e ▸ hM) (by exact e6)
theorem qou{M:List (List Int)}{a:AV}{n:Nat}(h:ImV M a)(hn:1<=n/\n<=16)(hN:1<=M.length/\M.length<=16)(hc:∀i,i<M.length->(M.getD i []).length=n):
  Rt 28 [a] [] (.tup [matC M,.bool true]) []:=by
 have hf:=h.fit;obtain⟨rows,c,rfl,hl,hr⟩:=h.val;refine oFw o28 ?_;simp only[c28,r28_0,r28_1,SS,fC,reduceCtorEq,reduceIte,qX];refine⟨λ_=>⟨λh=>absurd h (by omega),λ_=>?_⟩,λh=>absurd h (by omega)⟩;simp only[r28_3,SS,reduceCtorEq,reduceIte,qX];refine zax (λk E H=>∃i,i+k=M.length/\H=[]/\E 0= .vec rows M.length c/\E 17= .vec rows M.length c/\E 18= .int .i64 (M.length:Nat)/\E 19= .int .i64 (i:Nat)) (n:=M.length) ⟨0,by omega,rfl,by rfl,by rfl,by rfl,by rfl⟩ ?_;rintro k E H ⟨i,hik,rfl,e0,e17,e18,e19⟩;obtain⟨c0,hc0⟩:=hr 0 (by omega);have hrl0:=hc 0 (by omega);refine wM ?_;simp only[l28_0,r28_4,SS,reduceCtorEq,reduceIte,e18,e19];refine⟨λhlt=>?_,λhge=>?_⟩
 ·obtain⟨k,rfl⟩:∃k',k=k'+1:=⟨k-1,by omega⟩
  have hi:i<M.length:=by omega
  obtain⟨ci,hci⟩:=hr i hi;have hrl:=hc i hi;have w5:=wS1 i (by omega);simp only[r28_5,r28_6,SS,fC,reduceCtorEq,reduceIte,qX,e0,e17,e19,qV,hci,hl,hrl,hc0,hrl0,zZ];refine⟨⟨by omega,by omega⟩,by omega,λ_=>⟨λ_=>⟨⟨by omega,by omega⟩,by omega,?_⟩,λh=>absurd h (by omega)⟩,λh=>absurd h (by omega)⟩;refine⟨λh=>absurd rfl h,λ_=>?_⟩;simp only[r28_8,SS,reduceIte,qX,e19,w5];refine⟨k,_,_,by omega,⟨i+1,by omega,rfl,?_,?_,?_,?_⟩,.refl⟩
  all_goals simp only[UU,qX,reduceIte, *]
 ·have hiN:i=M.length:=by omega
  subst hiN;simp only[r28_9,SS,fC,reduceCtorEq,reduceIte,qX,e0,hc0,hl,hrl0,zZ];refine⟨⟨by omega,by omega⟩,by omega,?_⟩;refine zeb (qos hN.2 hn.2) rfl ?_;have hz:MatH ((zH M.length n M.length).map (renB (zag [] 0))) 0 ((zps n M.length).map λp=>(0+p.1,p.2)) n (zmat M.length n):=zsk [] M.length n;simp only[zcy,SS,reduceIte,qX,AV.ren,zbn,yQ]
  have hH1:zaf (effs (zag [] 0) 0 (zH M.length n M.length)) (List.replicate (zH M.length n M.length).length none)=(zH M.length n M.length).map (renB (zag [] 0)):=
   zhn (H:=[]) (zag [] 0) (λi=>zbn 0 i) (zH M.length n M.length) []
  simp only[hH1];generalize (zH M.length n M.length).map (renB (zag [] 0))=H1 at*;simp only[SS,reduceCtorEq,reduceIte,qX,r28_10,e0];refine qot (c:=c) (cap:=some M.length) hn.2 hN.2 hl hr hc hf hz (by exact e0) (by rfl) (by rfl) (by rfl) ?_;intro E' H' hM' f6;simp only[SS,reduceCtorEq,reduceIte,r28_19,f6];obtain⟨v,g1,g2⟩:=zji (cap:=some M.length) (b:=true) hM';exact⟨.inl trivial,_,v,rfl,g1,g2⟩
theorem mOf{M:List (List Int)}{a:AV}{n:Nat}(h:ImV M a)(hn:1<=n/\n<=16)(hN:1<=M.length/\M.length<=16)(hc:∀i,i<M.length->(M.getD i []).length=n):
  Rt 16 [a] [] (matC M) []:=by
 have ts:=qou h hn hN hc;obtain⟨rows,c,rfl,hl,hr⟩:=h.val;refine oF o16 ?_;simp only[c16,r16_0,r16_1,SS,reduceCtorEq,reduceIte];refine zaa ts ?_;simp only[SS,reduceIte,qX,r16_2,qH,qC];exact kR
end Go.Proofs.YtbjdfanphdfkdaaGreatDoor
namespace Go.Limb
def dblL:List Nat->Nat->List Nat
 | [],b=>[b]
 |x::r,b=>(2*x%4294967296+b)::dblL r (x/2147483648)
theorem qds:∀(l:List Nat) (b:Nat),(dblL l b).length=l.length+1:=by
 intro l
 induction l with
 |nil=>intro b;rfl
 |cons x r ih=>intro b;simp[dblL,ih]
theorem qxe:∀(l:List Nat) (b:Nat),val (dblL l b)=2*val l+b:=by
 intro l
 induction l with
 |nil=>intro b;simp[dblL,val]
 |cons x r ih=>
  intro b;simp only[dblL,val,ih];omega
theorem qxf:∀(l:List Nat) (b:Nat),Dig l->b<=1->Dig (dblL l b):=by
 intro l
 induction l with
 |nil=>intro b _ hb;exact Dig.cons (by omega) Dig.nil
 |cons x r ih=>
  intro b h hb;have hx:=h.head;exact Dig.cons (by omega) (ih _ h.tail (by omega))
theorem zxp:∀(l:List Nat) (w:Nat),Dig l->l.getD w 0=val l/4294967296^w%4294967296:=by
 intro l
 induction l with
 |nil=>intro w _;simp[val]
 |cons x r ih=>
  intro w h;have hx:=h.head;cases w with
  |zero=>simp only[val,List.getD_cons_zero,Nat.pow_zero,Nat.div_one];omega
  |succ w=>
   rw[List.getD_cons_succ,ih w h.tail,val,Nat.pow_succ,Nat.mul_comm (4294967296^w),<-zU];congr 2;omega
theorem xca(l:List Nat)(i:Nat)(h:Dig l):l.getD (i/32) 0/2^(i%32)%2=val l/2^i%2:=by
 rw[zxp l _ h];have e:4294967296^(i/32)=2^(32*(i/32)):=by rw[Nat.pow_mul]
 have hi:i=32*(i/32)+i%32:=by omega
 have e2:val l/2^i=val l/2^(32*(i/32))/2^(i%32):=by
  rw[zU,<-Nat.pow_add,<-hi]
 rw[e,e2];generalize val l/2^(32*(i/32))=x;have hs:i%32<32:=zX _ (by decide);generalize i%32=s at hs
 have e3:(4294967296:Nat)=2^s*(2*2^(31-s)):=by
  rw[<-Nat.pow_succ',<-Nat.pow_add];have:s+(31-s+1)=32:=by omega
  rw[this]
 rw[e3,Nat.mod_mul_right_div_self,Nat.mod_mul_right_mod]
theorem qdt{V n Q r b:Nat}(hb:b<2)(hV:V/2=Q*n+r)(hr:r<n)(hbit:V%2=b):
  (2*r+b<n->V=2*Q*n+(2*r+b))/\(n<=2*r+b->V=(2*Q+1)*n+(2*r+b-n)/\2*r+b-n<n):=by
 have hV2:V=2*(V/2)+V%2:=by omega
 have e1:2*Q*n=2*(Q*n):=Nat.mul_assoc _ _ _;have e2:(2*Q+1)*n=2*(Q*n)+n:=by rw[jZ,Nat.mul_assoc,yB]
 constructor
 ·intro _;omega
 ·intro h;omega
theorem qov{a s:Nat}(h:a%2^(s+1)=0):a ||| 2^s=a+2^s:=by
 have e:a=2^(s+1)*(a/2^(s+1)):=by
  have:=jW a (2^(s+1));omega
 have hlt:2^s<2^(s+1):=Nat.pow_lt_pow_right (by decide) (by omega);have:=yS hlt (a/2^(s+1));rw[<-e]at this;exact this.symm
end Go.Limb
namespace Go.Proofs.YtbjdfanphdfkdaaGreatDoor
open Go Go.AL Go.Proofs Go.Limb
theorem or32{a b:Nat}(ha:a<4294967296)(hb:b<4294967296):IntKind.u32.wrap (((BitVec.ofInt IntKind.u32.bits (a:Int) ||| BitVec.ofInt IntKind.u32.bits (b:Int)).toNat:Nat):Int)=((a ||| b:Nat):Int):=by
 have h:(BitVec.ofInt IntKind.u32.bits (a:Int) ||| BitVec.ofInt IntKind.u32.bits (b:Int)).toNat=a ||| b:=by
  show(BitVec.ofInt 32 (a:Int) ||| BitVec.ofInt 32 (b:Int)).toNat=a ||| b
  rw[BitVec.toNat_or,BitVec.ofInt_natCast,BitVec.ofInt_natCast,BitVec.toNat_ofNat,BitVec.toNat_ofNat,xP ha,xP hb]
 rw[h];exact qoc (Nat.or_lt_two_pow (n:=32) ha hb)
theorem shl1(x:Nat):IntKind.u32.wrap ((x:Int)*2^min (Int.toNat 1) IntKind.u32.bits)=((2*x%4294967296:Nat):Int):=by
 have e:(2:Int)^min (Int.toNat 1) IntKind.u32.bits=2:=rfl;rw[e,show(x:Int)*2=((2*x:Nat):Int) by omega,wu32]
theorem kqp(x:Nat):Int.fdiv (x:Int) (2^min (Int.toNat 31) IntKind.u32.bits)=((x/2147483648:Nat):Int):=by
 have e:(2:Int)^min (Int.toNat 31) IntKind.u32.bits=((2147483648:Nat):Int):=rfl;rw[e,yT _ (by omega)];rfl
theorem xzj{x b:Nat}(hb:b<=1):2*x%4294967296 ||| b=2*x%4294967296+b:=by
 rcases xW b 1 with h | h
 ·obtain rfl:b=0:=by omega
  rw[Nat.or_zero];omega
 ·obtain rfl:b=1:=by omega
  exact qov (s:=0) (by omega)
theorem xcb(m:List Nat)(c:Option Nat)(b:Nat)(dm:Dig m)(hb:b<=1)(hm:m.length<1048576):∃c',Rt 246 [.vec (u32s m) m.length c,.int .u32 (b:Nat)] [] (.vec (u32s (dblL m b)) (dblL m b).length c') []:=by
 refine⟨none,?_⟩;refine oF o246 ?_;generalize hfin:dblL m b=fin;have hfl:fin.length=m.length+1:=by rw[<-hfin,qds]
 simp only[c246,r246_0,r246_1,r246_2,SS,reduceCtorEq,reduceIte]
 refine zax (λk E H=>∃i b out a,k+i=m.length/\out.length=i/\b<=1/\out++dblL (m.drop i) b=fin/\E 1= .int .u32 (b:Nat)/\E 5=a/\E 8= .vec (u32s m) m.length c/\E 9= .int .i64 (m.length:Nat)/\E 10= .int .i64 (i:Nat)/\qai [] 1 i (u32s out) a H) (n:=m.length)
  ⟨0,b,[],_,by omega,rfl,hb,by simpa using hfin,?_,rfl,?_,?_,?_,.inl ⟨rfl,rfl,?_,0,rfl⟩⟩ ?_
 ·rfl
 ·rfl
 ·rfl
 ·rfl
 ·rfl
 rintro k E H ⟨i,b,out,a,hki,hol,hb,hf,h1,h5,h8,h9,h10,hO⟩;refine wM ?_;simp only[l246_0,r246_3,SS,reduceCtorEq,reduceIte,h9,h10];refine⟨λhlt=>?_,λhge=>?_⟩
 ·obtain⟨k,rfl⟩:∃k',k=k'+1:=⟨k-1,by omega⟩
  have hi:i<m.length:=by omega
  have bm:=dm.getD i;have g:=zcp m i hi AV.junk
  have hd:m.drop i=m.getD i 0::m.drop (i+1):=by
   rw[zK hi,qZ,qW hi];rfl
  obtain⟨e,rd,H4,H5,hap,hH4,hg,hw,hO'⟩:=zqi (bytes:=4) (xs:=[.int .u32 ((2*m.getD i 0%4294967296+b:Nat):Int)]) hO rfl rfl (by omega) (by omega);have w5:=wS1 i (by omega);have b2:2*m.getD i 0%4294967296<4294967296:=zX _ (by omega);have wo:=or32 b2 (show b<4294967296 by omega);rw[xzj hb]at wo;have e1:u32s out++[.int .u32 ((2*m.getD i 0%4294967296+b:Nat):Int)]=u32s (out++[2*m.getD i 0%4294967296+b]):=by simp[u32s]
  rw[e1]at hO';rw[hd,dblL]at hf;simp only[r246_4,r246_5,SS,fC,reduceIte,qX,qJ,h1,h5,h8,h10,qV,g,zbk,shl1,wo,zdn,hap];refine⟨⟨by omega,by omega⟩,by omega,by omega,?_⟩;simp only[r246_6,r246_7,SS,reduceIte,qX,h10,w5,kqp];rw[hH4];refine⟨by omega,k,_,H5,by omega,⟨i+1,m.getD i 0/2147483648,out++[2*m.getD i 0%4294967296+b],.sl (H.length+1) 0 (i+1) 1 none,by omega,by simp[hol],by omega,by rw[xT];exact hf,?_,rfl,?_,?_,?_,?_⟩,hw _ _ _ (by simp)⟩
  ·rfl
  all_goals first | exact hO' | simp only[UU,qX,reduceIte, *]
 ·have hi:i=m.length:=by omega
  subst hi;rw[jQ,dblL]at hf;obtain⟨e,rd,H4,H5,hap,hH4,hg,hw,hO'⟩:=zqi (bytes:=4) (xs:=[.int .u32 (b:Nat)]) hO rfl rfl (by omega) (by omega);simp only[r246_8,SS,reduceIte,qX,qJ,h1,h5,zdn,hap];refine⟨.inl trivial,_,rfl,?_⟩;have e1:u32s out++[.int .u32 (b:Nat)]=u32s fin:=by rw[<-hf];simp[u32s]
  rw[e1]at hg;rw[hfl];refine zuf ?_ hfl.symm;rw[hH4];exact hg
theorem qow{id k i:Nat}:zag [id] k (i+1)=k+i:=by simp[zag]
theorem zsl{id k:Nat}:zag [id] k 0=id:=by simp[zag]
theorem callA_one{f:FuncId}{args args0:List AV}{id:Nat}{cs cs':List AV}{v:AV}{H L:Heap}{K:AV->Eff->List Nat->Nat->Prop}(h:Rt f args0 [some cs] v (some cs'::L))(hid:getB H id=some cs)
  (hargs:args=args0.map (AV.ren (zag [id] H.length))) (hu:AV.under.underL 1 args0=true) (hcs:qY cs=true) (hcs':qY cs'=true)
  (hk:K (v.ren (zag [id] H.length)) ((id,some cs')::effs (zag [id] H.length) 1 L) [id] L.length):ztp Tryz.prog G f args H K:=by
 have hlt:=zas hid;have hid2:H[id]?=some (some cs):=zch hid
 have:=CallR0.mk (P:= Tryz.prog) (Γ:=G) (f:=f) (args:=args) (k:=H.length) (H:=H++List.replicate L.length none) [id] args0 [some cs] v (some cs'::L) h rfl (by simp) (by simpa using hlt) hargs hu (by
  intro i c hi;cases i with
  |zero=>
   simp at hi;subst hi;refine⟨cs,rfl,zbs _ _ hcs,?_⟩;rw[zsl,qE hlt,hid2];simp only[renB];rw[zaq _ _ hcs]
  |succ i=>simp at hi)
 refine⟨_,_,_,_,.base this,?_⟩
 have e:effs (zag [id] H.length) 0 (some cs'::L)=(id,some cs')::effs (zag [id] H.length) 1 L:=by
  simp only[effs,zsl,renB];rw[zaq _ _ hcs']
 rw[e];simpa using hk
theorem zgx{f:FuncId}{args args0:List AV}{id:Nat}{cs cs':List AV}{v:AV}{H:Heap}{K:AV->Eff->List Nat->Nat->Prop}(h:Rt f args0 [some cs] v [some cs'])(hid:getB H id=some cs)
  (hargs:args=args0.map (AV.ren (zag [id] H.length))) (hk:K v [(id,some cs')] [id] 0) (hu:AV.under.underL 1 args0=true:=by rfl) (hcs:qY cs=true:=by rfl) (hcs':qY cs'=true:=by rfl) (hv:v.closed=true:=by rfl):ztp Tryz.prog G f args H K:=by
 refine callA_one h hid hargs hu hcs hcs' ?_;rw[zfq _ _ hv];exact hk
def i8z(l:List Int):List AV:=l.map λz=>AV.int .i8 z
theorem qba(l:List Int):(i8z l).length=l.length:=by simp[i8z]
theorem qxq(l:List Int)(j:Nat)(h:j<l.length)(d:AV):(i8z l).getD j d= .int .i8 (l.getD j 0):=by simp[i8z,h]
def zdq(l:List Int)(c:Option Nat)(k:Nat):List AV:=[.vec (i8z l) l.length c,.int .i64 (k:Nat)]
def zmc(l:List Int):Prop:=l.length<9223372036854775808/\∀z∈l,-128<=z/\z<128
theorem zxw{l:List Int}(h:zmc l)(k:Nat): -128<=zis l k/\zis l k<128:=by
 unfold zis;rw[qZ];cases e:l[k]? with
 |none=>simp
 |some z=>exact h.2 z (zE e)
theorem xzr{l:List Int}{c:Option Nat}{k:Nat}(h:zmc l)(hk:k<=l.length):Rt 95 [.ptr 0 0] [some (zdq l c k)] (.int .i64 (zis l k)) [some (zdq l c (zit l k))]:=by
 have hl:=h.1;have hz:=zxw h k;refine oF o95 ?_;simp only[c95,r95_0,r95_1,SS,fC,reduceCtorEq,reduceIte,qK,qX,qJ,zdq];refine⟨rfl,λhge=>?_,λhlt=>?_⟩
 ·have e1:zis l k=0:=by
   unfold zis;rw[qZ,xS (by omega)];rfl
  have e2:zit l k=k:=by unfold zit;rw[if_neg (by omega)]
  simp only[r95_2,SS,e1,e2];exact kR
 ·have hkl:k<l.length:=by omega
  have e2:zit l k=k+1:=by unfold zit;rw[if_pos hkl]
  have w5:=wS1 k (by omega);have w6:IntKind.i64.wrap (((k+1:Nat):Int)-1)=(k:Int):=wQ (by omega);have w7:IntKind.i64.wrap (zis l k)=zis l k:=w64 (by omega) (by omega);have g:(i8z l).getD k .junk= .int .i8 (zis l k):=qxq l k hkl _;simp only[r95_3,r95_4,SS,fC,reduceCtorEq,reduceIte,qK,qX,qJ,w5,w6,e2,qV,g,qba,w7];refine⟨⟨by omega,by omega⟩,by omega,rfl,?_⟩;exact kR
theorem qpq{l:List Int}{c:Option Nat}{k:Nat}{m:Int}(h:zmc l)(hk:k<=l.length)(hm:1<=m/\m<1000000):Rt 44 [.ptr 0 0,.int .i64 m] [some (zdq l c k)] (.int .i64 (zbx l k%m)) [some (zdq l c (zit l k))]:=by
 have hl:=h.1;have hz:=zxw h k;have hb:0<=zbx l k/\zbx l k<256:=by unfold zbx;omega
 have w1:IntKind.u8.wrap (zis l k)=zbx l k:=by
  show zis l k%256=_
  rfl
 have w2:IntKind.i64.wrap (zbx l k)=zbx l k:=w64 (by omega) (by omega);have w3:Int.tmod (zbx l k) m=zbx l k%m:=Int.tmod_eq_emod_of_nonneg hb.1
 have w4:IntKind.i64.wrap (zbx l k%m)=zbx l k%m:=by
  have:=jV (zbx l k) (show m≠0 by omega);have:=Int.emod_lt_of_pos (zbx l k) (show 0<m by omega);exact w64 (by omega) (by omega)
 refine oF o44 ?_;simp only[c44,r44_0,r44_1,SS,reduceCtorEq,reduceIte];refine zgx (id:=0) (xzr h hk) rfl rfl ?_;simp only[zcy,SS,reduceIte,qX,w1,w2,w3];refine⟨by omega,?_⟩;exact kR
def zqv(n i:Nat):List AV:=(List.range i).map λk=> .sl (k+1) 0 n 1 (some n)
def outS(N n i:Nat):List AV:=zqv n i++List.replicate (N-i) nilV
def bH(N n:Nat)(rows:List (List Int)):Heap:=some (outS N n rows.length)::rows.map λr=>some (i64z r)
theorem ziu(n i:Nat):(zqv n i).length=i:=by simp[zqv]
theorem zmd{N n i:Nat}(h:i<=N):(outS N n i).length=N:=by simp[outS,ziu];omega
theorem zht{N n i k:Nat}(h:k<i):(outS N n i).getD k .junk= .sl (k+1) 0 n 1 (some n):=by
 unfold outS zqv;rw[qZ,qE (by simpa using h),qG,yR h];rfl
theorem jwu(N n:Nat)(rows:List (List Int)):(bH N n rows).length=rows.length+1:=by simp[bH]
theorem zhu(N n:Nat)(rows:List (List Int)):getB (bH N n rows) 0=some (outS N n rows.length):=rfl
theorem ziv{N n i:Nat}{rows:List (List Int)}(h:i<rows.length):getB (bH N n rows) (i+1)=some (i64z (rows.getD i [])):=by
 unfold getB bH;rw[qC,qG,qZ,qW h];rfl
theorem zju{N n i:Nat}{rows:List (List Int)}(r:List Int):(bH N n rows).set (i+1) (some (i64z r))=bH N n (rows.set i r):=by
 unfold bH;rw[zR,xI,yC]
theorem qpr{N n i:Nat}(h:i<N):(outS N n i).set i (.sl (i+1) 0 n 1 (some n))=outS N n (i+1):=by
 unfold outS;have e:List.replicate (N-i) nilV=nilV::List.replicate (N-(i+1)) nilV:=by rw[<-xL];congr 1;omega
 have ez:zqv n (i+1)=zqv n i++[.sl (i+1) 0 n 1 (some n)]:=by simp[zqv,yY]
 rw[e,ez,qA _ _ (by rw[ziu];omega),ziu,xZ];simp
theorem jwv{N n:Nat}{rows:List (List Int)}(r:List Int)(h:rows.length<N):(bH N n rows++[some (i64z r)]).set 0 (some ((outS N n rows.length).set rows.length (.sl (rows.length+1) 0 n 1 (some n))))=bH N n (rows++[r]):=by
 rw[qpr h];unfold bH;simp
theorem zel(r:List Int)(j:Nat)(z:Int):(i64z r).set j (.int .i64 z)=i64z (r.set j z):=by simp[i64z,yC]
theorem zuy(n:Nat)(z:Int):List.replicate n (AV.int .i64 z)=i64z (List.replicate n z):=by simp[i64z]
theorem zuz(r:List Int)(m d:Nat)(H:Heap):(i64z r).mapM (frzI m H (d+1))=some (i64z r):=by
 refine zny (λa ha=>?_);unfold i64z at ha;obtain⟨z,_,rfl⟩:=List.mem_map.1 ha;rfl
def zdm(n:Nat)(rows:List (List Int)):List AV:=rows.map λr=> .vec (i64z r) n (some n)
theorem xzs{N n:Nat}{rows:List (List Int)}(hN:rows.length=N)(hn:∀i,i<N->(rows.getD i []).length=n):frzI 0 (bH N n rows) 3 (.sl 0 0 N 1 (some N))=some (.vec (zdm n rows) N (some N)):=by
 have e0:outS N n rows.length=zqv n N:=by
  unfold outS;rw[hN,xZ,xX,xB]
 have key:(zqv n N).mapM (frzI 0 (bH N n rows) 2)=some (zdm n rows):=by
  have:zdm n rows=(List.range N).map λk=>AV.vec (i64z (rows.getD k [])) n (some n):=by
   refine yK (by simp[zdm,hN]) λk h1 h2=>?_
   simp only[zdm,qP,yU];have hk:k<rows.length:=by simpa[zdm]using h1
   rw[qZ,qW hk];rfl
  rw[this];unfold zqv;rw[List.mapM_map]
  have:∀l:List Nat,(∀k∈l,k<N)->l.mapM (λk=>frzI 0 (bH N n rows) 2 (.sl (k+1) 0 n 1 (some n)))=some (l.map λk=>AV.vec (i64z (rows.getD k [])) n (some n)):=by
   intro l
   induction l with
   |nil=>intro _;rfl
   |cons k l ih=>
    intro h;have hk:=h k (by simp)
    have e:frzI 0 (bH N n rows) 2 (.sl (k+1) 0 n 1 (some n))=some (.vec (i64z (rows.getD k [])) n (some n)):=by
     rw[frzI];have hl:=hn k hk;simp only[qT,if_false,ziv (show k<rows.length by omega),need,qO,xV,zca,hl,qD,if_true,qM];rw[qU (by rw[zca];omega),zuz];rfl
    rw[xK,e,ih (λx hx=>h x (by simp[hx]))];rfl
  exact this _ (λk hk=>List.mem_range.1 hk)
 rw[frzI];simp only[qT,if_false,zhu,e0,need,qO,xV,ziu,qD,if_true,qM];rw[qU (by rw[ziu];omega),key];rfl
theorem qef{N n:Nat}{rows:List (List Int)}{c:Option Nat}(hN:rows.length=N)(hn:∀i,i<N->(rows.getD i []).length=n)(hf:∀i j,In64 (ent rows i j)):ImV rows (.vec (zdm n rows) N c):=by
 refine⟨⟨zdm n rows,c,by rw[hN],by simp[zdm],λi hi=>⟨some n,?_⟩⟩,hf⟩;have hl:=hn i (by omega);unfold zdm;rw[qZ,qG,qW hi];rw[qZ,qW hi]at hl ⊢;simp only[Option.map_some,yX]at hl ⊢;rw[hl]
def zko(o n i:Nat):List AV:=(List.range i).map λk=> .sl (o+k+1) 0 n 1 (some n)
def outO(o N n i:Nat):List AV:=zko o n i++List.replicate (N-i) nilV
def bO(o N n:Nat)(rows:List (List Int)):Heap:=some (outO o N n rows.length)::rows.map λr=>some (i64z r)
theorem zgc(o n i:Nat):(zko o n i).length=i:=by simp[zko]
theorem zme{o N n i:Nat}(h:i<=N):(outO o N n i).length=N:=by simp[outO,zgc];omega
theorem zmf{o N n i k:Nat}(h:k<i):(outO o N n i).getD k .junk= .sl (o+k+1) 0 n 1 (some n):=by
 unfold outO zko;rw[qZ,qE (by simpa using h),qG,yR h];rfl
theorem qps{o N n i:Nat}(h:i<N):(outO o N n i).set i (.sl (o+i+1) 0 n 1 (some n))=outO o N n (i+1):=by
 unfold outO;have e:List.replicate (N-i) nilV=nilV::List.replicate (N-(i+1)) nilV:=by rw[<-xL];congr 1;omega
 have ez:zko o n (i+1)=zko o n i++[.sl (o+i+1) 0 n 1 (some n)]:=by simp[zko,yY]
 rw[e,ez,qA _ _ (by rw[zgc];omega),zgc,xZ];simp
section
variable{P:Heap}{o N n:Nat}{rows:List (List Int)}
theorem xzt(ho:P.length=o):(P++bO o N n rows).length=o+rows.length+1:=by simp[bO,ho];omega
theorem zgj(ho:P.length=o):getB (P++bO o N n rows) o=some (outO o N n rows.length):=by
 unfold getB;rw[qB (by omega),ho,xZ];rfl
theorem znl(ho:P.length=o){i:Nat}(h:i<rows.length):getB (P++bO o N n rows) (o+i+1)=some (i64z (rows.getD i [])):=by
 unfold getB bO;rw[qB (by omega),ho,show o+i+1-o=i+1 by omega,qC,qG,qZ,qW h];rfl
theorem zxx(ho:P.length=o){i:Nat}(r:List Int):(P++bO o N n rows).set (o+i+1) (some (i64z r))=P++bO o N n (rows.set i r):=by
 rw[qA _ _ (by omega),ho,show o+i+1-o=i+1 by omega];unfold bO;rw[zR,xI,yC]
theorem xzu(ho:P.length=o)(r:List Int)(h:rows.length<N):(P++bO o N n rows++[some (i64z r)]).set o (some ((outO o N n rows.length).set rows.length (.sl (o+rows.length+1) 0 n 1 (some n))))=P++bO o N n (rows++[r]):=by
 rw[qps h,xT,qA _ _ (by omega),ho,xZ];unfold bO;simp
theorem xzv(ho:P.length=o)(hN:rows.length=N)(hn:∀i,i<N->(rows.getD i []).length=n):frzI 0 (P++bO o N n rows) 3 (.sl o 0 N 1 (some N))=some (.vec (zdm n rows) N (some N)):=by
 have e0:outO o N n rows.length=zko o n N:=by
  unfold outO;rw[hN,xZ,xX,xB]
 have key:(zko o n N).mapM (frzI 0 (P++bO o N n rows) 2)=some (zdm n rows):=by
  have:zdm n rows=(List.range N).map λk=>AV.vec (i64z (rows.getD k [])) n (some n):=by
   refine yK (by simp[zdm,hN]) λk h1 h2=>?_
   simp only[zdm,qP,yU];have hk:k<rows.length:=by simpa[zdm]using h1
   rw[qZ,qW hk];rfl
  rw[this];unfold zko;rw[List.mapM_map]
  have:∀l:List Nat,(∀k∈l,k<N)->l.mapM (λk=>frzI 0 (P++bO o N n rows) 2 (.sl (o+k+1) 0 n 1 (some n)))=some (l.map λk=>AV.vec (i64z (rows.getD k [])) n (some n)):=by
   intro l
   induction l with
   |nil=>intro _;rfl
   |cons k l ih=>
    intro h;have hk:=h k (by simp)
    have e:frzI 0 (P++bO o N n rows) 2 (.sl (o+k+1) 0 n 1 (some n))=some (.vec (i64z (rows.getD k [])) n (some n)):=by
     rw[frzI];have hl:=hn k hk;simp only[qT,if_false,znl ho (show k<rows.length by omega),need,qO,xV,zca,hl,qD,if_true,qM];rw[qU (by rw[zca];omega),zuz];rfl
    rw[xK,e,ih (λx hx=>h x (by simp[hx]))];rfl
  exact this _ (λk hk=>List.mem_range.1 hk)
 rw[frzI];simp only[qT,if_false,zgj ho,e0,need,qO,xV,zgc,qD,if_true,qM];rw[qU (by rw[zgc];omega),key];rfl
end
def tP(l:List Int)(c:Option Nat)(k:Nat):Heap:=[some (zdq l c k)]
theorem zsq(l:List Int)(c:Option Nat)(k:Nat):(tP l c k).length=1:=rfl
theorem jww(l:List Int)(c:Option Nat)(k:Nat)(X:Heap):getB (tP l c k++X) 0=some (zdq l c k):=rfl
theorem jwx(l:List Int)(c:Option Nat)(k k':Nat)(X:Heap):(tP l c k++X).set 0 (some (zdq l c k'))=tP l c k'++X:=rfl
theorem zqw(l:List Int)(k n:Nat)(most:Int):Shp n (diaM l k n most):=zdd _ _
theorem xcu{l:List Int}{k n i:Nat}{most:Int}(hi:i<n):(diaM l k n most).getD i []=(List.replicate n 0).set i (1+zbx l (zak l k i)%most):=by
 have hr:=(zqw l k n most).row i hi;refine yK (by rw[hr];simp) λt h1 h2=>?_
 have ht:t<n:=by omega
 have e:ent (diaM l k n most) i t=if i=t then 1+zbx l (zak l k i)%most else 0:=by
  unfold diaM;rw[zcw hi ht]
 unfold ent at e;rw[qZ,qW h1]at e;rw[List.getElem_set];simp only[yX]at e;rw[e];by_cases hit:i=t
 ·rw[if_pos hit,if_pos hit]
 ·rw[if_neg hit,if_neg hit];simp
theorem zmg{l:List Int}{c:Option Nat}{k n:Nat}{most:Int}(h:zmc l)(hk:k<=l.length)(hn:1<=n/\n<=8)(hm:1<=most/\most<=9):
  Rt 45 [.ptr 0 0,.int .i64 (n:Nat),.int .i64 most] [some (zdq l c k)] (.sl 1 0 n 1 (some n)) (tP l c (zak l k n)++bO 1 n n (diaM l k n most)):=by
 have hD:=zqw l k n most;refine oF o45 ?_ (by simp) (by simp only[xD,zsq,zY,zA];omega);simp only[c45,r45_0,r45_1,SS,reduceCtorEq,reduceIte,qX,qV];refine⟨by decide,⟨by omega,by omega,by omega,by omega⟩,?_⟩;simp only[r45_2,SS,reduceIte,qX]
 refine zax (λq E H=>∃i,i+q=n/\H=tP l c (zak l k i)++bO 1 n n ((diaM l k n most).take i)/\E 0= .ptr 0 0/\E 1= .int .i64 (n:Nat)/\E 2= .int .i64 most/\E 7= .sl 1 0 n 1 (some n)/\E 12= .int .i64 (n:Nat)/\E 13= .int .i64 (i:Nat)) (n:=n)
  ⟨0,by omega,rfl,by rfl,by rfl,by rfl,by rfl,by rfl,by rfl⟩ ?_
 rintro q E H ⟨i,hiq,rfl,e0,e1,e2,e7,e12,e13⟩;refine wM ?_;simp only[l45_0,r45_3,SS,reduceCtorEq,reduceIte,e12,e13];refine⟨λhlt=>?_,λhge=>?_⟩
 ·obtain⟨q,rfl⟩:∃q',q=q'+1:=⟨q-1,by omega⟩
  have hi:i<n:=by omega
  have hDl:=hD.len;have htl:((diaM l k n most).take i).length=i:=by rw[yL];omega
  have hki:=zhr hk i;have w5:=wS1 i (by omega);have hP:=zsq l c (zak l k i);have hbl:=xzt (N:=n) (n:=n) (rows:=(diaM l k n most).take i) hP;rw[htl]at hbl
  have hgo:getB (tP l c (zak l k i)++bO 1 n n ((diaM l k n most).take i)++[some (i64z (List.replicate n 0))]) 1=some (outO 1 n n i):=by
   have:getB (tP l c (zak l k i)++bO 1 n n ((diaM l k n most).take i)) 1=some (outO 1 n n i):=by rw[zgj hP,htl]
   exact this
  have gol:=zme (o:=1) (N:=n) (n:=n) (i:=i) (by omega);have hnew:=xzu (N:=n) (n:=n) (rows:=(diaM l k n most).take i) hP (List.replicate n 0) (by omega);rw[htl]at hnew;simp only[r45_4,r45_5,SS,reduceIte,qX,e1,e7,e13,qV,hbl,zuy,hgo,gol];refine⟨by decide,⟨by omega,by omega,by omega,by omega⟩,⟨by omega,by omega⟩,by omega,?_⟩;rw[hnew];have hrl:((diaM l k n most).take i++[List.replicate n 0]).length=i+1:=by simp;omega
  have ko:=zgj (N:=n) (n:=n) (rows:=(diaM l k n most).take i++[List.replicate n 0]) hP;rw[hrl]at ko;have kl:=zme (o:=1) (N:=n) (n:=n) (i:=i+1) (by omega);have kg:=zmf (o:=1) (N:=n) (n:=n) (i:=i+1) (k:=i) (by omega);have hki1:=zhr hk (i+1);have tB:=qpq (l:=l) (c:=c) (k:=zak l k i) (m:=most) h hki (by omega);have hbz:=zbc l (zak l k i) hm.1;have w6:IntKind.i64.wrap (zbx l (zak l k i)%most)=zbx l (zak l k i)%most:=w64 (by omega) (by omega);have w7:IntKind.i64.wrap (1+zbx l (zak l k i)%most)=1+zbx l (zak l k i)%most:=w64 (by omega) (by omega);simp only[r45_6,SS,fC,reduceCtorEq,reduceIte,qX,e0,e2,e7,qV,ko,kl,kg];refine⟨⟨by omega,by omega⟩,by omega,?_⟩;refine zgx (id:=0) tB (jww _ _ _ _) rfl ?_;have hP':=zsq l c (zak l k (i+1));have hnk:zit l (zak l k i)=zak l k (i+1):=rfl;have gr:=znl (N:=n) (n:=n) (rows:=(diaM l k n most).take i++[List.replicate n 0]) hP' (i:=i) (by omega)
  have grr:((diaM l k n most).take i++[List.replicate n 0]).getD i []=List.replicate n 0:=by
   rw[qZ,qB (by omega),htl,xZ];simp
  rw[grr]at gr
  have eset:((diaM l k n most).take i++[List.replicate n 0]).set i ((List.replicate n 0).set i (1+zbx l (zak l k i)%most))=(diaM l k n most).take (i+1):=by
   rw[qA _ _ (by omega),htl,xZ,<-xcu hi];rw[yJ,qZ,qW (by omega)];rfl
  simp only[zcy,zaf,keys,xX,xB,SS,reduceIte,qX,jwx,hnk,w7,gr,zca,yH,qV,zel];refine⟨⟨by omega,by omega⟩,by omega,rfl,?_⟩;rw[zxx hP',eset];simp only[r45_7,SS,reduceIte,qX,e13,w5];refine⟨q,_,_,by omega,⟨i+1,by omega,rfl,?_,?_,?_,?_,?_,?_⟩,.refl⟩
  all_goals simp only[UU,qX,reduceIte, *]
 ·have hin:i=n:=by omega
  subst hin;have htl:(diaM l k i most).take i=diaM l k i most:=qU (by rw[hD.len];omega);rw[htl];simp only[r45_8,SS,reduceIte,qX,e7];exact kR
theorem qpt{H:Heap}(σ:Nat->Nat)(s:Nat)(hσ:∀i,σ (s+i)=H.length+i):∀(L X:Heap),zaf (effs σ (s+X.length) L) (H++(X++List.replicate L.length none))=H++(X++L.map (renB σ)):=by
 intro L
 induction L with
 |nil=>intro X;simp[effs,zaf]
 |cons b L ih=>
  intro X;have e:H++(X++List.replicate (b::L).length none)=H++(X++(none::List.replicate L.length none)):=rfl;rw[e];simp only[effs,zaf,hσ]
  have e2:(H++(X++(none::List.replicate L.length none))).set (H.length+X.length) (renB σ b)=H++((X++[renB σ b])++List.replicate L.length none):=by
   rw[qA _ _ (by omega),xY,qA _ _ (by omega),xZ];simp
  rw[e2];have:=ih (X++[renB σ b]);rw[xD,yI,<-zM]at this;rw[this];simp
theorem zkp(r:List Int):qY (i64z r)=true:=by
 induction r with
 |nil=>rfl
 |cons z r ih=>
  show((AV.int .i64 z).closed && qY (i64z r))=true
  rw[ih];rfl
theorem xzw{σ:Nat->Nat}{K N n:Nat}{rows:List (List Int)}(hσ:∀j,σ (1+j)=K+j):(bO 1 N n rows).map (renB σ)=bO K N n rows:=by
 unfold bO;rw[List.map_cons,yG];congr 1
 ·show some ((outO 1 N n rows.length).map (AV.ren σ))=_
  congr 1;unfold outO;rw[yV];congr 1
  ·unfold zko;rw[yG];refine zG λk _=>?_
   show AV.sl (σ (1+k+1)) 0 n 1 (some n)= .sl (K+k+1) 0 n 1 (some n)
   rw[show 1+k+1=1+(k+1) by omega,hσ];rfl
  ·rw[List.map_replicate];rfl
 ·refine zG λr _=>?_
  show some ((i64z r).map (AV.ren σ))=some (i64z r)
  rw[zaq _ _ (zkp r)]
theorem zmh{H:Heap}{id n:Nat}{cs':List AV}{M:List (List Int)}(hid:id<H.length):zaf ((id,some cs')::effs (zag [id] H.length) 1 (bO 1 n n M)) (H++List.replicate (bO 1 n n M).length none)=H.set id (some cs')++bO H.length n n M:=by
 have h1:∀j,zag [id] H.length (1+j)=H.length+j:=by
  intro j;rw[Nat.add_comm 1];exact qow
 have:=qpt (H:=H.set id (some cs')) (zag [id] H.length) 1 (λj=>by rw[h1,xI]) (bO 1 n n M) [];simp only[zaf];rw[List.set_append_left _ _ hid];simp only[zA,yQ,yP]at this;rw[this,xzw h1]
theorem xcv{l:List Int}{k n i j:Nat}(hi:i<n)(hj:j<i):ent (genM l k n) i j=offZ l (zak l k n) i j/\ent (genM l k n) j i=offZ l (zak l k n) i j:=by
 unfold genM;rw[zcw hi (by omega),zcw (by omega) hi];have h1:¬i=j:=by omega
 have h2:¬j=i:=by omega
 have h3:¬i<j:=by omega
 rw[if_neg h1,if_pos hj,if_neg h2,if_neg h3];exact⟨rfl,rfl⟩
theorem qxr{l:List Int}{k n i:Nat}(hi:i<n):ent (genM l k n) i i=ent (diaM l k n 6) i i:=by
 unfold genM diaM;rw[zcw hi hi,zcw hi hi,if_pos rfl,if_pos rfl]
theorem xcw{l:List Int}{c:Option Nat}{k n i:Nat}(h:zmc l)(hk:k<=l.length)(hn:1<=n/\n<=8)(hi:i<n){X0:List (List Int)}(hX0:Shp n X0)(hx0:∀s t,s<n->t<n->ent X0 s t=if s<i/\t<i then ent (genM l k n) s t else ent (diaM l k n 6) s t)
  {v12 v13:AV} {E:Env} {Q:Post} (e0:E 0= .ptr 0 0) (e5:E 5= .sl 1 0 n 1 (some n)) (e6:E 6= .int .i64 (i:Nat)) (e7:E 7= .int .i64 0) (e12:E 12=v12) (e13:E 13=v13)
  (hQ:∀E' X,Shp n X->(∀s t,s<n->t<n->ent X s t=if s<i+1/\t<i+1 then ent (genM l k n) s t else ent (diaM l k n 6) s t)->E' 0= .ptr 0 0->E' 5= .sl 1 0 n 1 (some n)->E' 12=v12->E' 13=v13->Q (.exit 2) E' (tP l c (zak l k (n+triK (i+1)))++bO 1 n n X)):
  Wg 1 45 (.loop l42_1) E (tP l c (zak l k (n+triK i))++bO 1 n n X0) Q:=by
 refine zax (λq E H=>∃j X,j+q=i/\Shp n X/\(∀s t,s<n->t<n->ent X s t=if(s<i/\t<i)\/(s=i/\t<j)\/(t=i/\s<j)then ent (genM l k n) s t else ent (diaM l k n 6) s t)/\H=tP l c (zak l k (n+triK i+j))++bO 1 n n X/\
  E 0= .ptr 0 0/\E 5= .sl 1 0 n 1 (some n)/\E 6= .int .i64 (i:Nat)/\E 7= .int .i64 (j:Nat)/\E 12=v12/\E 13=v13) (n:=i)
  ⟨0,X0,by omega,hX0,λs t hs ht=>by
   rw[hx0 s t hs ht];by_cases e:s<i/\t<i
   ·rw[if_pos e,if_pos (.inl e)]
   ·rw[if_neg e,if_neg (by omega)],rfl,e0,e5,e6,e7,e12,e13⟩ ?_
 clear e0 e5 e6 e7 e12 e13 E hX0 hx0 X0;rintro q E H ⟨j,X,hjq,hX,hx,rfl,e0,e5,e6,e7,e12,e13⟩;refine wM ?_;simp only[l42_1,r42_6,SS,reduceIte,qX,e6,e7];refine⟨λhlt=>?_,λhge=>?_⟩
 ·obtain⟨q,rfl⟩:∃q',q=q'+1:=⟨q-1,by omega⟩
  have hj:j<i:=by omega
  have hXl:=hX.len;have w5:=wS1 j (by omega);have hK:=zhr hk (n+triK i+j);have tN:=xzr (c:=c) h hK;have hnk:zit l (zak l k (n+triK i+j))=zak l k (n+triK i+(j+1)):=rfl;rw[hnk]at tN;obtain⟨g1,g2⟩:=xcv (l:=l) (k:=k) hi hj
  have hoff:Int.tmod (zis l (zak l k (n+triK i+j))) 3=ent (genM l k n) i j:=by
   rw[g1];unfold offZ;rw[qpn,zM]
  have hr:=zhs l (zak l k n) i j
  have w6:IntKind.i64.wrap (Int.tmod (zis l (zak l k (n+triK i+j))) 3)=ent (genM l k n) i j:=by
   rw[hoff,g1];exact w64 (by omega) (by omega)
  have hP:=zsq l c (zak l k (n+triK i+j));have hP':=zsq l c (zak l k (n+triK i+(j+1)));have ko:=zgj (N:=n) (n:=n) (rows:=X) hP;have ko':=zgj (N:=n) (n:=n) (rows:=setM X i j (ent (genM l k n) i j)) hP';rw[hXl]at ko;rw[zcq,hXl]at ko';have kl:=zme (o:=1) (N:=n) (n:=n) (i:=n) (qD _);have kg:=zmf (o:=1) (N:=n) (n:=n) (i:=n) (k:=i) hi;have kg2:=zmf (o:=1) (N:=n) (n:=n) (i:=n) (k:=j) (by omega);have gr:=znl (N:=n) (n:=n) (rows:=X) hP' (i:=i) (by omega);have hs1:=zxx (N:=n) (n:=n) (rows:=X) hP' (i:=i) ((X.getD i []).set j (ent (genM l k n) i j));have eM:X.set i ((X.getD i []).set j (ent (genM l k n) i j))=setM X i j (ent (genM l k n) i j):=rfl;rw[eM]at hs1;have hX1:Shp n (setM X i j (ent (genM l k n) i j)):=hX.set hi;have gr1:=znl (N:=n) (n:=n) (rows:=setM X i j (ent (genM l k n) i j)) hP' (i:=i) (by rw[hX1.len];exact hi);have gr2:=znl (N:=n) (n:=n) (rows:=setM X i j (ent (genM l k n) i j)) hP' (i:=j) (by rw[hX1.len];omega);have lX:=hX.row i hi;have l1:=hX1.row i hi;have l2:=hX1.row j (by omega)
  have gz:(i64z ((setM X i j (ent (genM l k n) i j)).getD i [])).getD j .junk= .int .i64 (ent (genM l k n) i j):=by
   rw[zlu _ j (by omega)];have:=hX.ent_set (z:=ent (genM l k n) i j) hi (show j<n by omega) i j;unfold ent at this ⊢;rw[this,if_pos ⟨rfl,rfl⟩]
  have hs2:=zxx (N:=n) (n:=n) (rows:=setM X i j (ent (genM l k n) i j)) hP' (i:=j) (((setM X i j (ent (genM l k n) i j)).getD j []).set i (ent (genM l k n) i j));have eM2:(setM X i j (ent (genM l k n) i j)).set j (((setM X i j (ent (genM l k n) i j)).getD j []).set i (ent (genM l k n) i j))=setM (setM X i j (ent (genM l k n) i j)) j i (ent (genM l k n) i j):=rfl;rw[eM2]at hs2;simp only[r42_7,SS,fC,reduceCtorEq,reduceIte,qX,e0,e5,e6,e7,qV,ko,kl,kg];refine⟨⟨by omega,by omega⟩,by omega,?_⟩;refine zgx (id:=0) tN (jww _ _ _ _) rfl ?_;simp only[zcy,zaf,keys,xX,xB,SS,reduceIte,qX,jwx,hoff,gr,lX,zca,qV,zel];refine⟨by decide,⟨by omega,by omega⟩,by omega,rfl,?_⟩;rw[hs1];simp only[r42_8,SS,fC,reduceIte,qX,e5,e6,e7,qV,ko',kl,kg,kg2,gr1,gr2,l1,l2,gz,zca,zel];refine⟨⟨by omega,by omega⟩,by omega,⟨by omega,by omega⟩,by omega,⟨by omega,by omega⟩,by omega,⟨by omega,by omega⟩,by omega,rfl,?_⟩;rw[hs2];simp only[r42_9,SS,reduceIte,qX,e7,w5];refine⟨q,_,_,by omega,⟨j+1,setM (setM X i j (ent (genM l k n) i j)) j i (ent (genM l k n) i j),by omega,hX1.set (by omega),λs t hs ht=>?_,rfl,?_,?_,?_,?_,?_,?_⟩,.refl⟩
  ·rw[hX1.ent_set (by omega) hi,hX.ent_set hi (by omega),hx s t hs ht];by_cases a1:s=j/\t=i
   ·rw[if_pos a1,if_pos (.inr (.inr ⟨a1.2,by omega⟩)),a1.1,a1.2,g1,g2]
   ·rw[if_neg a1];by_cases a2:s=i/\t=j
    ·rw[if_pos a2,if_pos (.inr (.inl ⟨a2.1,by omega⟩)),a2.1,a2.2]
    ·rw[if_neg a2];by_cases a3:(s<i/\t<i)\/(s=i/\t<j)\/(t=i/\s<j)
     ·rw[if_pos a3,if_pos (by omega)]
     ·rw[if_neg a3,if_neg (by omega)]
  all_goals simp only[UU,qX,reduceIte, *]
 ·have hji:j=i:=by omega
  subst hji;have htri:n+triK (j+1)=n+triK j+j:=by show n+(triK j+j)=_;omega
  rw[<-htri];refine hQ _ X hX (λs t hs ht=>?_) (by exact e0) (by exact e5) (by exact e12) (by exact e13);rw[hx s t hs ht];by_cases e:s=j/\t=j
  ·rw[e.1,e.2,if_neg (by omega),if_pos (by omega),qxr hi]
  ·by_cases e2:s<j+1/\t<j+1
   ·rw[if_pos e2,if_pos (by omega)]
   ·rw[if_neg e2,if_neg (by omega)]
theorem qxs{l:List Int}{c:Option Nat}{k n:Nat}(h:zmc l)(hk:k<=l.length)(hn:1<=n/\n<=8):
  Rt 42 [.ptr 0 0,.int .i64 (n:Nat)] [some (zdq l c k)] (.sl 1 0 n 1 (some n)) (tP l c (zak l k (n+triK n))++bO 1 n n (genM l k n)):=by
 have hG:Shp n (genM l k n):=zdd _ _;have tD:=zmg (c:=c) (most:=6) h hk hn (by omega);have hlen:(bO 1 n n (diaM l k n 6)).length=n+1:=by simp[bO,(zqw l k n 6).len]
 have heff:=zmh (H:=[some (zdq l c k)]) (id:=0) (n:=n) (cs':=zdq l c (zak l k n)) (M:=diaM l k n 6) (Nat.zero_lt_one);refine oF o42 ?_ (by simp) (by simp only[xD,zsq,zY,zA];omega);simp only[c42,r42_0,r42_1,SS,reduceCtorEq,reduceIte,qX];refine callA_one (id:=0) (cs:=zdq l c k) (cs':=zdq l c (zak l k n)) (L:=bO 1 n n (diaM l k n 6)) tD rfl rfl rfl rfl rfl ?_;have hv:(AV.sl 1 0 n 1 (some n)).ren (zag [0] [some (zdq l c k)].length)= .sl 1 0 n 1 (some n):=rfl;rw[hv];simp only[zcy];rw[heff];have e1:([some (zdq l c k)].set 0 (some (zdq l c (zak l k n)))++bO [some (zdq l c k)].length n n (diaM l k n 6):Heap)=tP l c (zak l k n)++bO 1 n n (diaM l k n 6):=rfl;rw[e1];simp only[SS,reduceIte,qX];simp only[r42_2,SS,reduceIte,qX]
 refine zax (λq E H=>∃i X,i+q=n/\Shp n X/\(∀s t,s<n->t<n->ent X s t=if s<i/\t<i then ent (genM l k n) s t else ent (diaM l k n 6) s t)/\H=tP l c (zak l k (n+triK i))++bO 1 n n X/\E 0= .ptr 0 0/\E 5= .sl 1 0 n 1 (some n)/\E 12= .int .i64 (n:Nat)/\E 13= .int .i64 (i:Nat)) (n:=n)
  ⟨0,diaM l k n 6,by omega,zqw _ _ _ _,λs t _ _=>by rw[if_neg (by omega)],rfl,by rfl,by rfl,by rfl,by rfl⟩ ?_
 rintro q E H ⟨i,X,hiq,hX,hx,rfl,e0,e5,e12,e13⟩;refine wM ?_;simp only[l42_0,r42_3,SS,reduceCtorEq,reduceIte,e12,e13];refine⟨λhlt=>?_,λhge=>?_⟩
 ·obtain⟨q,rfl⟩:∃q',q=q'+1:=⟨q-1,by omega⟩
  have hi:i<n:=by omega
  have w5:=wS1 i (by omega);simp only[r42_4,r42_5,SS,reduceIte,qX,e13];refine xcw (c:=c) h hk hn hi hX hx (by exact e0) (by exact e5) (by rfl) (by rfl) (by simp only[UU,qX];exact e12) (by simp only[UU,qX];exact e13) ?_;intro E' X' hX' hx' f0 f5 f12 f13;simp only[SS,reduceCtorEq,reduceIte,qX,r42_10,f13,w5];refine⟨q,_,_,by omega,⟨i+1,X',by omega,hX',hx',rfl,?_,?_,?_,?_⟩,.refl⟩
  all_goals simp only[UU,qX,reduceIte, *]
 ·have hin:i=n:=by omega
  subst hin;have e:X=genM l k i:=qay hX hG λs t hs ht=>by rw[hx s t hs ht,if_pos ⟨hs,ht⟩]
  subst e;simp only[r42_11,SS,reduceIte,qX,e5];exact kR
theorem zjm(N n:Nat):∃H1 ps,zaf (effs (zag [] 0) 0 (zH N n N)) (List.replicate (zH N n N).length none)=H1/\MatH H1 0 ps n (zmat N n):=
 ⟨_,_,zhn (H:=[]) (zag [] 0) (λi=>zbn 0 i) (zH N n N) [],zsk [] N n⟩
theorem qpu{n:Nat}(hn:1<=n/\n<=16){I:List (List Int)}(h1:I.length=n)(h2:∀i,i<n->(I.getD i []).length=n)(h3:∀i j,i<n->j<n->ent I i j=if i=j then 1 else 0):
  Rt 37 [.int .i64 (n:Nat)] [] (.tup [matC I,.bool true]) []:=by
 refine oFw o37 ?_;simp only[c37,r37_0,r37_1,SS,fC,reduceCtorEq,reduceIte,qX];refine⟨λ_=>⟨λh=>absurd h (by omega),λ_=>?_⟩,λh=>absurd h (by omega)⟩;simp only[r37_3,SS,reduceCtorEq,reduceIte,qX];refine zeb (qos hn.2 hn.2) rfl ?_;obtain⟨H1,ps,hH1,hz⟩:=zjm n n;simp only[zcy,SS,reduceIte,qX,AV.ren,zbn,yQ,hH1];simp only[r37_4,SS,reduceIte,qX];refine zax (λk E H=>∃i X,i+k=n/\MatH H 0 ps n X/\X.length=n/\(∀s t,ent X s t=if s<i/\s=t then 1 else 0)/\E 4= .sl 0 0 n 1 (some n)/\E 16= .int .i64 (n:Nat)/\E 17= .int .i64 (i:Nat)) (n:=n) ⟨0,zmat n n,by omega,hz,(zjj _ _).1,λs t=>by rw[if_neg (by omega),zlv],by rfl,by rfl,by rfl⟩ ?_;rintro k E H ⟨i,X,hik,hM,hXl,hX,e4,e16,e17⟩;refine wM ?_;simp only[l37_0,r37_5,SS,reduceCtorEq,reduceIte,e16,e17];refine⟨λhlt=>?_,λhge=>?_⟩
 ·obtain⟨k,rfl⟩:∃k',k=k'+1:=⟨k-1,by omega⟩
  have hi:i<n:=by omega
  obtain⟨csk,gk,lk,rk,fk⟩:=zfk hM (i:=i) (by omega);have ok:=zci (ps:=ps) (n:=n) (i:=i) (by rw[hM.len];omega);have hol:(ps.map (zcl n)).length=n:=by rw[xQ,hM.len];exact hXl
  have hou:=hM.outer;obtain⟨v,hv,ts⟩:=zgv 1 (by omega) (by omega);have hv0:=hv;obtain⟨lv,cv,_,_,_,rfl⟩:=hv0;have hset:=zkl hM (i:=i) (j:=i) (by omega) hi hv gk;have w5:=wS1 i (by omega);simp only[r37_6,r37_7,SS,fC,reduceIte,qX,e4,e17,qV,hou,hol,ok];refine⟨⟨by omega,by omega⟩,by omega,?_⟩;refine zaa ts ?_;simp only[SS,reduceIte,qK,qX,gk,lk,qV];refine⟨⟨by omega,by omega⟩,by omega,rfl,?_⟩;simp only[r37_8,SS,reduceIte,qX,e17,w5];refine⟨k,_,_,by omega,⟨i+1,setM X i i 1,by omega,hset,by rw[zcq];exact hXl,?_,?_,?_,?_⟩,.refl⟩
  ·intro s t;rw[zhp (by omega) (by rw[hM.cols i (by omega)];exact hi),hX];by_cases h1:s=i/\t=i
   ·rw[if_pos h1,if_pos ⟨by omega,by omega⟩]
   ·rw[if_neg h1];by_cases h2:s<i/\s=t
    ·rw[if_pos h2,if_pos ⟨by omega,h2.2⟩]
    ·rw[if_neg h2,if_neg (by omega)]
  all_goals simp only[UU,qX,reduceIte, *]
 ·have hin:i=n:=by omega
  subst hin
  have e:X=I:=by
   refine zup hXl h1 (λs hs=>hM.cols s (by omega)) h2 λs t hs ht=>?_
   rw[hX,h3 s t hs ht];by_cases h:s=t
   ·rw[if_pos ⟨hs,h⟩,if_pos h]
   ·rw[if_neg (λe=>h e.2),if_neg h]
  subst e;simp only[r37_9,SS,reduceIte,qX,e4];obtain⟨v,g1,g2⟩:=zji (cap:=some i) (b:=true) hM;rw[hXl]at g1;exact⟨.inl trivial,_,v,rfl,g1,g2⟩
theorem xzx{M:List (List Int)}{rows:List AV}{c cap:Option Nat}{n:Nat}(hn:n<=16)(hN:M.length<=16)(hl:rows.length=M.length)(hr:∀i,i<M.length->zgh (M.getD i []) (rows.getD i .junk))(hc:∀i,i<M.length->(M.getD i []).length=n)
  {i:Nat} (hi:i<M.length) {v22 v23:AV} {Q:Post} {ps:List (Nat×Option Nat)} {X0:List (List Int)} (hX0:X0.length=n)
  {E:Env} {H:Heap} (hM:MatH H 0 ps M.length X0) (e0:E 0= .vec rows M.length c) (e7:E 7= .sl 0 0 n 1 cap) (e8:E 8= .int .i64 (i:Nat)) (e22:E 22=v22) (e23:E 23=v23) (e30:E 30= .int .i64 (n:Nat)) (e31:E 31= .int .i64 0)
  (hQ:∀E' H' X,MatH H' 0 ps M.length X->X.length=n->(∀s t,ent X s t=if t=i/\s<n then ent M t s else ent X0 s t)->E' 0= .vec rows M.length c->E' 7= .sl 0 0 n 1 cap->E' 22=v22->E' 23=v23->Q (.exit 2) E' H'):
  Wg 0 51 (.loop l93_1) E H Q:=by
 refine zax (λk E H=>∃j X,j+k=n/\MatH H 0 ps M.length X/\X.length=n/\(∀s t,ent X s t=if t=i/\s<j then ent M t s else ent X0 s t)/\E 0= .vec rows M.length c/\E 7= .sl 0 0 n 1 cap/\E 8= .int .i64 (i:Nat)/\E 22=v22/\E 23=v23/\
  E 30= .int .i64 (n:Nat)/\E 31= .int .i64 (j:Nat)) (n:=n) ⟨0,X0,by omega,hM,hX0,λs t=>by rw[if_neg (by omega)],e0,e7,e8,e22,e23,e30,e31⟩ ?_
 clear hM e0 e7 e8 e22 e23 e30 e31 E H;rintro k E H ⟨j,X,hjk,hM,hXl,hX,e0,e7,e8,e22,e23,e30,e31⟩;refine wM ?_;simp only[l93_1,r93_9,SS,reduceIte,e30,e31];refine⟨λhlt=>?_,λhge=>?_⟩
 ·obtain⟨k,rfl⟩:∃k',k=k'+1:=⟨k-1,by omega⟩
  have hj:j<n:=by omega
  obtain⟨csk,gk,lk,rk,fk⟩:=zfk hM (i:=j) (by omega);have ok:=zci (ps:=ps) (n:=M.length) (i:=j) (by rw[hM.len];omega);have hol:(ps.map (zcl M.length)).length=n:=by rw[xQ,hM.len];exact hXl
  have hou:=hM.outer;obtain⟨csi,ci,hei,hci⟩:=hr i hi;have hcl:=zda hci;obtain⟨u,v,hu,hz⟩:=zez hci j (by rw[hc i hi];exact hj);obtain⟨w,hw,ts⟩:=zse hz;obtain⟨lz,cz,hz1,hz2⟩:=zaj hz;subst hz1 hz2;have hw0:=hw;obtain⟨lv,cv,_,_,_,rfl⟩:=hw0;have hset:=zkl hM (i:=j) (j:=i) (by omega) hi hw gk;have w5:=wS1 j (by omega);simp only[r93_10,r93_11,SS,fC,reduceCtorEq,reduceIte,qX,e0,e7,e8,e31,qV,hou,hol,ok,hl,hei,hcl,hc i hi,hu];refine⟨⟨by omega,by omega⟩,by omega,⟨by omega,by omega⟩,by omega,⟨by omega,by omega⟩,by omega,?_⟩;refine zaa ts ?_;simp only[SS,reduceIte,qK,qX,gk,lk,qV];refine⟨⟨by omega,by omega⟩,by omega,rfl,?_⟩;simp only[r93_12,SS,reduceIte,qX,e31,w5];refine⟨k,_,_,by omega,⟨j+1,setM X j i (ent M i j),by omega,hset,by rw[zcq];exact hXl,?_,?_,?_,?_,?_,?_,?_,?_⟩,.refl⟩
  ·intro s t;rw[zhp (by omega) (by rw[hM.cols j (by omega)];exact hi),hX];by_cases h1:s=j/\t=i
   ·rw[if_pos h1,if_pos ⟨h1.2,by omega⟩,h1.1,h1.2]
   ·rw[if_neg h1];by_cases h2:t=i/\s<j
    ·rw[if_pos h2,if_pos ⟨h2.1,by omega⟩]
    ·rw[if_neg h2,if_neg (by omega)]
  all_goals simp only[UU,qX,reduceIte, *]
 ·have hjn:j=n:=by omega
  subst hjn;exact hQ _ _ X hM hXl hX (by exact e0) (by exact e7) (by exact e22) (by exact e23)
theorem zsr{M:List (List Int)}{a:AV}{n:Nat}(h:MatV M a)(hn:1<=n/\n<=16)(hN:1<=M.length/\M.length<=16)(hc:∀i,i<M.length->(M.getD i []).length=n)
  {T:List (List Int)} (h1:T.length=n) (h2:∀i,i<n->(T.getD i []).length=M.length) (h3:∀i j,i<n->j<M.length->ent T i j=ent M j i):
  Rt 93 [a] [] (.tup [matC T,.bool true]) []:=by
 have ts:=qdl h ⟨hN.1,hN.2,λi hi=>by rw[hc i hi,hc 0 (by omega)];exact⟨hn.1,hn.2,rfl⟩⟩;rw[hc 0 (by omega)]at ts;obtain⟨rows,c,rfl,hl,hr⟩:=h;refine oFw o93 ?_;simp only[c93,r93_0,r93_1,SS,reduceCtorEq,reduceIte];refine zaa ts ?_;simp only[SS,fC,reduceIte,qX,r93_2,r93_4,qH,qC];refine zeb (qos hn.2 hN.2) rfl ?_;obtain⟨H1,ps,hH1,hz⟩:=zjm n M.length;simp only[zcy,SS,reduceIte,qX,AV.ren,zbn,yQ,hH1];simp only[r93_5,SS,reduceCtorEq,reduceIte,qX];refine zax (λk E H=>∃i X,i+k=M.length/\MatH H 0 ps M.length X/\X.length=n/\(∀s t,ent X s t=if t<i/\s<n then ent M t s else 0)/\E 0= .vec rows M.length c/\E 7= .sl 0 0 n 1 (some n)/\E 22= .int .i64 (M.length:Nat)/\E 23= .int .i64 (i:Nat)) (n:=M.length) ⟨0,zmat n M.length,by omega,hz,(zjj _ _).1,λs t=>by rw[if_neg (by omega),zlv],by rfl,by rfl,by rfl,by rfl⟩ ?_;rintro k E H ⟨i,X,hik,hM,hXl,hX,e0,e7,e22,e23⟩;refine wM ?_;simp only[l93_0,r93_6,SS,reduceCtorEq,reduceIte,e22,e23];refine⟨λhlt=>?_,λhge=>?_⟩
 ·obtain⟨k,rfl⟩:∃k',k=k'+1:=⟨k-1,by omega⟩
  have hi:i<M.length:=by omega
  obtain⟨csi,ci,hei,hci⟩:=hr i hi;have hcl:=zda hci;have w5:=wS1 i (by omega);simp only[r93_7,r93_8,SS,fC,reduceCtorEq,reduceIte,qX,e0,e23,qV,hei,hl,hc i hi];refine⟨⟨by omega,by omega⟩,by omega,?_⟩;refine xzx (c:=c) (cap:=some n) hn.2 hN.2 hl hr hc hi hXl hM (by exact e0) (by exact e7) (by rfl) (by simp only[UU,qX];exact e22) (by simp only[UU,qX];exact e23) (by rfl) (by rfl) ?_;intro E' H' X' hM' hXl' hX' f0 f7 f22 f23;simp only[SS,reduceCtorEq,reduceIte,qX,r93_13,f23,w5];refine⟨k,_,_,by omega,⟨i+1,X',by omega,hM',hXl',?_,?_,?_,?_,?_⟩,.refl⟩
  ·intro s t;rw[hX',hX];by_cases h1:t=i/\s<n
   ·rw[if_pos h1,if_pos ⟨by omega,h1.2⟩]
   ·rw[if_neg h1];by_cases h2:t<i/\s<n
    ·rw[if_pos h2,if_pos ⟨by omega,h2.2⟩]
    ·rw[if_neg h2,if_neg (by omega)]
  all_goals simp only[UU,qX,reduceIte, *]
 ·have hin:i=M.length:=by omega
  subst hin
  have e:X=T:=by
   refine zup hXl h1 (λs hs=>hM.cols s (by omega)) h2 λs t hs ht=>?_
   rw[hX,h3 s t hs ht,if_pos ⟨ht,hs⟩]
  subst e;simp only[r93_14,SS,reduceIte,qX,e7];obtain⟨v,g1,g2⟩:=zji (cap:=some n) (b:=true) hM;rw[hXl]at g1;exact⟨.inl trivial,_,v,rfl,g1,g2⟩
def dotS(r s:List Int):Nat->Int
 |0=>0
 |k+1=>dotS r s k+r.getD k 0*s.getD k 0
theorem mDot{r s:List Int}{a b:AV}(ha:zgh r a)(hb:zgh s b)(hl:s.length=r.length)(h16:r.length<=16)(hB:∀i,i<r.length->(r.getD i 0*s.getD i 0).natAbs<BIG)(hS:∀k,k<=r.length->(dotS r s k).natAbs<BIG):
  Rt 167 [a,b] [] (intV (dotS r s r.length)) []:=by
 obtain⟨ra,ca,rfl,hra⟩:=ha;obtain⟨sb,cb,rfl,hsb⟩:=hb;have la:=zda hra;have lb:=zda hsb;refine oFw o167 ?_;simp only[c167,r167_0,r167_1,r167_2,SS,reduceCtorEq,reduceIte,qK,qX,qJ]
 refine zax (λm E H=>∃k u v,k+m=r.length/\H=[some [AV.bool false,AV.vec [] 0 (some 0)],some [u,v]]/\zat (dotS r s k) (.agg [u,v])/\E 0= .vec ra r.length ca/\E 1= .vec sb s.length cb/\E 4= .ptr 0 0/\E 5= .ptr 1 0/\E 9= .int .i64 (r.length:Nat)/\E 10= .int .i64 (k:Nat)) (n:=r.length)
  ⟨0,_,_,by omega,rfl,zsj,by rfl,by rfl,by rfl,by rfl,by rfl,by rfl⟩ ?_
 rintro m E H ⟨k,u,v,hkm,rfl,hz,e0,e1,e4,e5,e9,e10⟩;refine wM ?_;obtain⟨lz,cz,hz1,hz2⟩:=zaj hz;subst hz1 hz2;simp only[l167_0,r167_3,SS,reduceCtorEq,reduceIte,e9,e10];refine⟨λhlt=>?_,λhge=>?_⟩
 ·obtain⟨m,rfl⟩:∃m',m=m'+1:=⟨m-1,by omega⟩
  have hk:k<r.length:=by omega
  obtain⟨u1,v1,g1,hz1⟩:=zez hra k hk;obtain⟨u2,v2,g2,hz2⟩:=zez hsb k (by omega);obtain⟨p,hp,t1⟩:=zMul hz1 hz2 (hB k hk);obtain⟨q,hq,t2⟩:=zAdd hz hp (hS (k+1) hk);obtain⟨l1,c1,x1,y1⟩:=zaj hz1;obtain⟨l2,c2,x2,y2⟩:=zaj hz2;subst x1 y1 x2 y2;obtain⟨lp,cp,_,_,_,rfl⟩:=id hp;obtain⟨lq,cq,_,_,_,rfl⟩:=id hq;have w5:=wS1 k (by omega);simp only[r167_4,r167_5,SS,reduceCtorEq,reduceIte,qK,qX,qJ,e0,e1,e5,e10,qV,g1,g2,la,lb,hl];refine⟨⟨by omega,by omega⟩,by omega,⟨by omega,by omega⟩,by omega,?_⟩;refine zaa t1 ?_;simp only[SS,reduceIte,qX];refine zaa t2 ?_;simp only[SS,reduceIte,qK,qX,qJ,e5];refine⟨rfl,?_⟩;simp only[r167_6,SS,reduceIte,qX,e10,w5];refine⟨m,_,_,by omega,⟨k+1,_,_,by omega,rfl,hq,?_,?_,?_,?_,?_,?_⟩,.refl⟩
  all_goals first | (simp only[UU,qX,reduceIte, *];done) | (simp only[UU,qX,reduceIte, *];rw[hl])
 ·have hkr:k=r.length:=by omega
  subst hkr;simp only[r167_7,SS,reduceIte,qK,qX,qJ,e4,e5];exact⟨.inl trivial,_,_,zfo (id:=0) (by exact e4) rfl,.drop _ _ rfl (by intro i cs h;omega),hz.wk⟩
open Go.Det
theorem qeg{A0:Nat}{M:List (List Int)}(hb:Bnd A0 M)(hA:A0<BIG):xbt M:=by
 intro r hr z hz;obtain⟨i,hi,rfl⟩:=zL hr;obtain⟨j,hj,rfl⟩:=zL hz;have:=hb i j;unfold ent at this;rw[qZ (l:=M),qW hi,yX,qZ,qW hj,yX]at this;omega
theorem zxy{n A0:Nat}{M:List (List Int)}(hS:Shp n M)(hn:1<=n/\n<=8)(hb:Bnd A0 M)(hA:A0<BIG):Sq n M (matC M):=⟨zul (qeg hb hA),hS.len,hS.row,hn.1,hn.2⟩
end Go.Proofs.YtbjdfanphdfkdaaGreatDoor
namespace Go.Proofs.YtbjdfanphdfkdaaGreatDoor
open Go Go.AL Go.Det
section
variable{n N B A0:Nat}{M:List (List Int)}{ds:List Int}
theorem qqb(hF:FitN N B A0)(hb:Bnd A0 M)(hnN:n<=N)(h:zeg B M n=some ds)(hp:∀t,t<=n->0<lead (rowF M) t){i j:Nat}(hj:j<n):zqn B M ds i j=some (decide (SZ (rowF M) i j)):=by
 obtain⟨b,hbs⟩:=qpe (ds:=ds) hF hb (i:=i) (j:=j) (by omega);have hi:=qpc h hp hj hbs;rw[hbs];congr 1;by_cases hz:SZ (rowF M) i j
 ·rw[decide_eq_true hz];exact hi.2 hz
 ·rw[decide_eq_false hz];cases b with
  |false=>rfl
  |true=>exact absurd (hi.1 rfl) hz
theorem xda(hF:FitN N B A0)(hb:Bnd A0 M)(hnN:n<=N)(h:zeg B M n=some ds)(hf:∀z∈ds,z.natAbs<=bndS A0 N)(hp:∀t,t<=n->0<lead (rowF M) t){i:Nat}(h0:0<i)(hi:i<n):lovO B M ds i=some (decide (LV (rowF M) i)):=by
 obtain⟨b,hbs⟩:=xcj (ds:=ds) hF hb hf (i:=i) (by omega);have hv:=xcf h hp h0 hi hbs;rw[hbs];congr 1;by_cases hz:LV (rowF M) i
 ·rw[decide_eq_true hz];exact hv.2 hz
 ·rw[decide_eq_false hz];cases b with
  |false=>rfl
  |true=>exact absurd (hv.1 rfl) hz
theorem qqc(hF:FitN N B A0)(hb:Bnd A0 M)(hnN:n<=N)(hp:∀t,t<=n->0<lead (rowF M) t){i j:Nat}(hj:j<n):lamO B M i j=some (stg (rowF M) j i j)/\(stg (rowF M) j i j).natAbs<=bndS A0 N:=by
 obtain⟨l,h1,h2⟩:=qau hF hb (i:=i) (j:=j) (by omega);have e:=zlw (i:=i) (j:=j) (λt ht=>by have:=hp t (by omega);omega) (zgw h1).1;rw[e]at h1 h2;exact⟨h1,h2⟩
end
theorem qqd{f:Nat->Int}{n c:Nat}(h:∀t,t<n->(f t).natAbs<=c):(sumR f n).natAbs<=n*c:=by
 have:=qec (f:=f) (n:=n) (c:=(c:Int)) λt ht=>by have:=h t ht;omega
 have e:((n*c:Nat):Int)=(n:Int)*c:=by simp
 omega
theorem xdb{l d:Int}(hd:0<d):(zep l d).natAbs<=l.natAbs+1:=by
 have h:=qpv (l:=l) (d:=d) hd;rw[zC]at h;have h1:2*(zep l d*d)<=2*l+d:=by omega
 have h2:2*l-d<=2*(zep l d*d):=by omega
 generalize zep l d=q at*;rcases Int.le_total 0 q with hq | hq
 ·rcases(by omega:q<=l.natAbs+1\/(l.natAbs:Int)+2<=q)with e | e
  ·omega
  ·exfalso;have m:=yN e (show(0:Int)<=d by omega);have m2:(l.natAbs:Int)*1<=l.natAbs*d:=yO (by omega) (by omega);rw[Int.add_mul]at m;omega
 ·rcases(by omega: -q<=l.natAbs+1\/(l.natAbs:Int)+2<= -q)with e | e
  ·omega
  ·exfalso;have m:=yN e (show(0:Int)<=d by omega);have m2:(l.natAbs:Int)*1<=l.natAbs*d:=yO (by omega) (by omega);rw[Int.add_mul,zC]at m;omega
