/- A part of the proof. -/
import Derived.Test.YtpflahgcdgdkjaaGreatDoorPA
import Derived.Test.YtpflahgcdgdkjaaGreatDoorSS
import Derived.Test.YtpflahgcdgdkjaaGreatDoorAL1
import Derived.Test.YtpflahgcdgdkjaaGreatDoorAL60
set_option linter.all false
set_option maxRecDepth 100000
namespace Go.Proofs.YtpflahgcdgdkjaaGreatDoor
open Nat renaming reduceEqDiff -> qQ, reduceLeDiff -> qZ, reduceAdd -> qJ
open List renaming getElem?_cons_zero -> qD, getElem?_cons_succ -> qH
open Go Go.AL Go.Proofs Go.Limb
def DivC(m n:List Nat)(c d:Option Nat):Prop:= ∃q r c1 c2,zbp q/\zbp r/\q.length<=1100/\r.length<=1100/\val q=val m/val n/\val r=val m%val n/\
   Rt 211 [.vec (u32s m) m.length c,.vec (u32s n) n.length d] [] (.tup [.vec (u32s q) q.length c1,.vec (u32s r) r.length c2]) []
theorem qkd{x y:Int}{a b:AV}(ha:zag x a)(hb:zag y b)(hy:y≠0)(hdiv:∀m n c d,zbp m->zbp n->m.length<=1100->n.length<=1100->val m=x.natAbs->val n=y.natAbs->DivC m n c d)(hf:(x/y).natAbs<BIG):
  ∃v w,zag (x/y) v/\zag (x%y) w/\Rt 198 [a,b] [] (.tup [v,w,.bool true]) []:=by
 have hb0:=hb;obtain⟨hq0,hr0⟩:=zre (x:=x) hy;obtain⟨l,ca,hc,hl,hv,rfl⟩:=ha;obtain⟨n,cb,hd,hlr,hw,rfl⟩:=hb;obtain⟨c1,t1⟩:=zmx l ca (by omega);obtain⟨c2,t2⟩:=zmx n cb (by omega);have l1:=zkh l;have l2:=zkh n;have k1:=zaz hc.1;have k2:=zaz hd.1;have v1:=(zbq l).trans hv;have v2:=(zbq n).trans hw
 have hn0:(zbf n).length≠0:=by
  intro e;have:=List.length_eq_zero_iff.1 e;rw[this]at v2;have:Limb.val []=0:=rfl;omega
 obtain⟨q,r,cq,cr,q1,r1,q2,r2,q3,r3,t3⟩:=hdiv (zbf l) (zbf n) c1 c2 k1 k2 (by omega) (by omega) v1 v2;rw[v1,v2]at q3 r3;obtain⟨vq,hvq,t4⟩:=zou (decide (x<0) != decide (y<0)) q cq q1.1 (by omega) (zfd q1.1 q2);obtain⟨vr,hvr,t5⟩:=zou (decide (x<0)) r cr r1.1 (by omega) (zfd r1.1 r2);rw[q3]at hvq;rw[r3]at hvr;have s1:=zwb hvr
 have hneg:decide ((sgnZ (decide (x<0)) (x.natAbs%y.natAbs)).sign<0)=decide (x.natAbs%y.natAbs≠0/\x<0):=by
  have:(sgnZ (decide (x<0)) (x.natAbs%y.natAbs)).sign<0↔sgnZ (decide (x<0)) (x.natAbs%y.natAbs)<0:=Int.sign_neg_iff;rw[decide_eq_decide,this];unfold sgnZ;simp only[decide_eq_true_eq];split<;>omega
 have hclo:vq.closed=true/\vr.closed=true:=⟨hvq.closed,hvr.closed⟩
 have hvq0:=hvq;have hvr0:=hvr;obtain⟨lq,dq,iq1,iq2,iq3,rfl⟩:=hvq;obtain⟨lr,dr,ir1,ir2,ir3,rfl⟩:=hvr;have hb3:(!(decide (x<0) == decide (y<0)))=(decide (x<0) != decide (y<0)):=rfl;by_cases hcase:x.natAbs%y.natAbs≠0/\x<0
 ·rw[if_pos hcase]at hq0 hr0;rw[decide_eq_true hcase]at hneg;obtain⟨vn,hvn,t6⟩:=zou false (zbf n) c2 k2.1 (by omega) (zfd k2.1 (by omega));have en:sgnZ false (Limb.val (zbf n))=(y.natAbs:Int):=by rw[v2];rfl
  rw[en]at hvn
  have hrf:(x%y).natAbs<BIG:=by
   have h1:=Int.emod_nonneg x hy;have h2:=Int.emod_lt x hy;have h3:=hb0.fits;omega
  obtain⟨vs,hvs,t7⟩:=zAdd hvr0 hvn (by rw[<-hr0];exact hrf);rw[<-hr0]at hvs;obtain⟨v1',hv1',t8⟩:=zfb 1 (by omega) (by omega);have s2:=zwb hb0;obtain⟨ln,dn,_,_,_,rfl⟩:=hvn;have hvs0:=hvs;obtain⟨ls,ds,_,_,_,rfl⟩:=hvs;by_cases hyn:y<0
  ·rw[if_pos hyn]at hq0;obtain⟨vt,hvt,t9⟩:=zAdd hvq0 hv1' (by rw[<-hq0];exact hf);rw[<-hq0]at hvt;have hvt0:=hvt;obtain⟨lt,dt,_,_,_,rfl⟩:=hvt;obtain⟨lo,dO,_,_,_,rfl⟩:=hv1';refine⟨_,_,hvt0,hvs0,?_⟩;have hsy:decide (y.sign<0)=true:=decide_eq_true (Int.sign_neg_iff.2 hyn);refine oF o198 ?_;simp only[c198,r198_0,r198_1,SS,fC,reduceCtorEq,reduceIte,qJ,qQ,qZ];refine zaa t1 ?_;simp only[SS,fC,reduceIte,qJ,qQ,qZ];refine zaa t2 ?_;simp only[SS,reduceIte,qQ];refine⟨rfl,?_⟩;simp only[r198_2,SS,reduceIte,qQ];refine⟨λh=>absurd h (by omega),λ_=>?_⟩;simp only[r198_4,SS,reduceIte,qQ];refine zaa t3 ?_;simp only[SS,reduceIte,qQ,qD,qH];simp only[r198_5,SS,fC,reduceIte,qJ,qQ,qZ,hb3];refine zaa t4 ?_;simp only[SS,fC,reduceIte,qJ,qQ,qZ];refine zaa t5 ?_;simp only[SS,reduceIte,qJ,qQ,qZ];refine⟨rfl,?_⟩;simp only[r198_6,SS,reduceIte,qJ,qQ,qZ];refine zaa s1 ?_;simp only[SS,fC,reduceIte,qQ,hneg];simp only[r198_7,SS,reduceIte,qJ,qQ,qZ];refine zaa t6 ?_;simp only[SS,reduceIte,qQ];refine zaa t7 ?_;simp only[SS,reduceIte,qJ,qQ,qZ];refine⟨rfl,?_⟩;simp only[r198_8,SS,reduceIte,qJ,qQ,qZ];refine zaa s2 ?_;simp only[SS,fC,reduceIte,qQ,hsy];simp only[r198_9,SS,reduceIte,qJ,qQ,qZ];refine zaa t8 ?_;simp only[SS,reduceIte,qQ];refine zaa t9 ?_;simp only[SS,reduceIte,qJ,qQ,qZ];refine⟨rfl,?_⟩;exact dR
  ·rw[if_neg hyn]at hq0;obtain⟨vt,hvt,t9⟩:=zSub hvq0 hv1' (by rw[<-hq0];exact hf);rw[<-hq0]at hvt;have hvt0:=hvt;obtain⟨lt,dt,_,_,_,rfl⟩:=hvt;obtain⟨lo,dO,_,_,_,rfl⟩:=hv1';refine⟨_,_,hvt0,hvs0,?_⟩;have hsy:decide (y.sign<0)=false:=decide_eq_false (λh=>hyn (Int.sign_neg_iff.1 h));refine oF o198 ?_;simp only[c198,r198_0,r198_1,SS,fC,reduceCtorEq,reduceIte,qJ,qQ,qZ];refine zaa t1 ?_;simp only[SS,fC,reduceIte,qJ,qQ,qZ];refine zaa t2 ?_;simp only[SS,reduceIte,qQ];refine⟨rfl,?_⟩;simp only[r198_2,SS,reduceIte,qQ];refine⟨λh=>absurd h (by omega),λ_=>?_⟩;simp only[r198_4,SS,reduceIte,qQ];refine zaa t3 ?_;simp only[SS,reduceIte,qQ,qD,qH];simp only[r198_5,SS,fC,reduceIte,qJ,qQ,qZ,hb3];refine zaa t4 ?_;simp only[SS,fC,reduceIte,qJ,qQ,qZ];refine zaa t5 ?_;simp only[SS,reduceIte,qJ,qQ,qZ];refine⟨rfl,?_⟩;simp only[r198_6,SS,reduceIte,qJ,qQ,qZ];refine zaa s1 ?_;simp only[SS,fC,reduceIte,qQ,hneg];simp only[r198_7,SS,reduceIte,qJ,qQ,qZ];refine zaa t6 ?_;simp only[SS,reduceIte,qQ];refine zaa t7 ?_;simp only[SS,reduceIte,qJ,qQ,qZ];refine⟨rfl,?_⟩;simp only[r198_8,SS,reduceIte,qJ,qQ,qZ];refine zaa s2 ?_;simp only[SS,fC,reduceIte,qQ,hsy];simp only[r198_10,SS,reduceIte,qJ,qQ,qZ];refine zaa t8 ?_;simp only[SS,reduceIte,qQ];refine zaa t9 ?_;simp only[SS,reduceIte,qJ,qQ,qZ];refine⟨rfl,?_⟩;exact dR
 ·rw[if_neg hcase]at hq0 hr0;rw[decide_eq_false hcase]at hneg;rw[<-hq0]at hvq0;rw[<-hr0]at hvr0;refine⟨_,_,hvq0,hvr0,?_⟩;rw[hq0,hr0];refine oF o198 ?_;simp only[c198,r198_0,r198_1,SS,fC,reduceCtorEq,reduceIte,qJ,qQ,qZ];refine zaa t1 ?_;simp only[SS,fC,reduceIte,qJ,qQ,qZ];refine zaa t2 ?_;simp only[SS,reduceIte,qQ];refine⟨rfl,?_⟩;simp only[r198_2,SS,reduceIte,qQ];refine⟨λh=>absurd h (by omega),λ_=>?_⟩;simp only[r198_4,SS,reduceIte,qQ];refine zaa t3 ?_;simp only[SS,reduceIte,qQ,qD,qH];simp only[r198_5,SS,fC,reduceIte,qJ,qQ,qZ,hb3];refine zaa t4 ?_;simp only[SS,fC,reduceIte,qJ,qQ,qZ];refine zaa t5 ?_;simp only[SS,reduceIte,qJ,qQ,qZ];refine⟨rfl,?_⟩;simp only[r198_6,SS,reduceIte,qJ,qQ,qZ];refine zaa s1 ?_;simp only[SS,fC,reduceIte,qQ,hneg];simp only[r198_11,SS,reduceIte,qJ,qQ,qZ];refine⟨rfl,?_⟩;exact dR
theorem zQuo{x y:Int}{a b:AV}(ha:zag x a)(hb:zag y b)(hy:y≠0)(hdiv:∀m n c d,zbp m->zbp n->m.length<=1100->n.length<=1100->val m=x.natAbs->val n=y.natAbs->DivC m n c d)(hf:(x/y).natAbs<BIG):
  ∃v,zag (x/y) v/\Rt 151 [a,b] [] v []:=by
 obtain⟨v,w,hv,hw,t⟩:=qkd ha hb hy hdiv hf;obtain⟨l,ca,_,_,_,rfl⟩:=ha;obtain⟨n,cb,_,_,_,rfl⟩:=hb;have hv0:=hv;obtain⟨lv,cv,_,_,_,rfl⟩:=hv;obtain⟨lw,cw,_,_,_,rfl⟩:=hw;refine⟨_,hv0,?_⟩;refine oF o151 ?_;simp only[c151,r151_0,r151_1,SS,reduceCtorEq,reduceIte,qJ,qQ,qZ];refine zaa t ?_;simp only[SS,reduceIte,qJ,qQ,qZ,qD,qH];simp only[r151_2,SS,reduceIte,qJ,qQ,qZ];exact dR
end Go.Proofs.YtpflahgcdgdkjaaGreatDoor
namespace Go.Proofs.YtpflahgcdgdkjaaGreatDoor
open Nat renaming reduceEqDiff -> qQ, reduceLeDiff -> qZ, reduceAdd -> qJ, le_refl -> qB, zero_add -> xZ, zero_le -> xC, mul_one -> yQ
open List renaming getD_eq_getElem?_getD -> qX, take_of_length_le -> qY, getElem?_cons_zero -> qD, take_length -> xQ, length_take -> xG, replicate_zero -> xR, append_nil -> yX, nil_append -> yZ
open Int renaming toNat_natCast -> qV
open Option renaming bind_some -> qT
open Go Go.AL Go.Proofs
theorem zwc{a:List AV}{H:Heap}:getB (some a::H) 0=some a:=rfl
theorem zzn{a:Option (List AV)}{H:Heap}{i:Nat}:getB (a::H) (i+1)=getB H i:=rfl
theorem zcn{P:Program}{Γ:Glob}{n0:Nat}{E:Env}{H:Heap}{d:Option Nat}{g:Nat}{want:Bool}{k:CK}{os:List COp}{Q:List FP->Env->Heap->Prop}(h:E g= .bool want):regA P Γ n0 (⟨d,some (g,want),k⟩::os) E H Q=regA P Γ n0 (⟨d,none,k⟩::os) E H Q:=by
 rw[zol,h];simp only[zvo,zax,ziv h,true_implies];apply propext;refine⟨λx=>x.1,λx=>⟨x,λe=>?_⟩⟩;cases want<;>simp at e
theorem zki{P:Program}{Γ:Glob}{n0:Nat}{E:Env}{H:Heap}{d:Option Nat}{g:Nat}{want:Bool}{k:CK}{os:List COp}{Q:List FP->Env->Heap->Prop}(h:E g= .bool (!want)):regA P Γ n0 (⟨d,some (g,want),k⟩::os) E H Q=regA P Γ n0 os (updO E d .junk) H (λl=>Q (([],[])::l)):=by
 rw[zol,h];simp only[zvo,zax,ziv h,true_implies];apply propext;refine⟨λx=>x.2,λx=>⟨λe=>?_,x⟩⟩;cases want<;>simp at e
open Go.Limb
theorem zag.shape{n:Int}{v:AV}(h:zag n v):∃l c,v= .agg [.bool (decide (n<0)),.vec (u32s l) l.length c]:=by
 obtain⟨l,c,_,_,_,rfl⟩:=h;exact⟨l,c,rfl⟩
theorem qrd{l:List Nat}(h:zbp l):zbf l=l:=zdf (zaz h.1) h (zbq l)
theorem qfp(l:List Nat)(c:Option Nat)(hl:l.length<16777216):Rt 108 [.vec (u32s l) l.length c] [] (.vec (u32s (zbf l)) (zbf l).length c) []:=by
 refine oF o108 ?_;simp only[c108,r108_0,SS,reduceCtorEq];refine zaf (λk E H=>k<=l.length/\zfc l k=zfc l l.length/\E 0= .vec (u32s (l.take k)) k c/\H=[]) (n:=l.length) ⟨by omega,rfl,by simp only[UU,qQ,xQ],rfl⟩ ?_;rintro k E H ⟨hk,ht,h0,rfl⟩;refine wM ?_
 have fin:k=zfc l l.length->AV.vec (u32s (l.take k)) k c= .vec (u32s (zbf l)) (zbf l).length c:=λe=>by
  rw[zfk,<-e];unfold zbf;rw[<-e]
 cases k with
 |zero=>
  have d1:decide ((0:Int)<((0:Nat):Int))=false:=rfl;simp only[l108_0,r108_1,↓zki,SS,fC,reduceCtorEq,reduceIte,qQ,h0,d1];simp only[r108_3,SS,reduceCtorEq,reduceIte,qQ,h0];rw[show zbf l=[] by unfold zbf;rw[<-ht];rfl];exact kR
 |succ k=>
  have hlt:(l.take (k+1)).length=k+1:=by rw[xG];omega
  have g:=zbc (l.take (k+1)) k (by omega) AV.junk;have g2:(l.take (k+1)).getD k 0=l.getD k 0:=by rw[qX,qX,List.getElem?_take];simp
  rw[g2]at g;have w1:IntKind.i64.wrap (((k+1:Nat):Int)-1)=(k:Nat):=wQ (by omega);have d1:decide ((0:Int)<((k+1:Nat):Int))=true:=dT;simp only[l108_0,r108_1,↓zcn,SS,fC,reduceCtorEq,reduceIte,qQ,qZ,h0,d1,w1,g,qV,zap,hlt];refine⟨⟨by omega,by omega⟩,by omega,λhz=>?_,λhz=>?_⟩
  ·have hz:l.getD k 0=0:=by omega
   simp only[r108_2,SS,reduceCtorEq,reduceIte,qQ,qZ,h0,w1,qV,zap,hlt];refine⟨by omega,⟨by omega,by omega,by omega⟩,k,_,_,by omega,⟨by omega,?_,?_,rfl⟩,.refl⟩
   ·rw[<-ht,zfc,if_pos hz]
   ·simp only[UU,qQ,reduceIte,zos,List.take_take,Nat.sub_zero,Nat.min_eq_left (show k<=k+1 by omega)]
  ·have hz:l.getD k 0≠0:=by omega
   simp only[r108_3,SS,reduceCtorEq,reduceIte,qQ,h0];rw[fin (by rw[<-ht,zfc,if_neg hz])];exact kR
theorem zfl{l:List Nat}(c:Option Nat)(hc:zbp l)(hl:l.length<16777216):Rt 108 [.vec (u32s l) l.length c] [] (.vec (u32s l) l.length c) []:=by
 have:=qfp l c hl
 rwa[qrd hc]at this
theorem zhx(s:Bool){l:List Nat}(c:Option Nat)(hc:zbp l)(hl:l.length<=1100):∃v,zag (sgnZ s (val l)) v/\Rt 80 [.bool s,.vec (u32s l) l.length c] [] v []:=by
 have h1:=zkg hc;cases l with
 |nil=>
  refine⟨_,⟨[],some 0,zbp.nil,by simp,by rw[zft],rfl⟩,?_⟩;have:decide (sgnZ s (val [])<0)=false:=by cases s<;>rfl
  rw[this];refine oF o80 ?_;simp only[c80,r80_0,r80_1,SS,fC,reduceCtorEq,reduceIte,qQ,Int.natCast_zero,decide_true];simp only[r80_2,SS,reduceIte,qJ,qQ,qZ];exact dR
 |cons d l=>
  refine⟨_,⟨d::l,c,hc,hl,by rw[zft],rfl⟩,?_⟩
  have:decide (sgnZ s (val (d::l))<0)=s:=by
   have:val (d::l)≠0:=λe=>by have:=h1.1 e;simp at this
   cases s<;>simp[sgnZ]<;>omega
  rw[this];have d0:decide (((l.length+1:Nat):Int)=0)=false:=dF;refine oF o80 ?_;simp only[c80,r80_0,r80_1,SS,fC,reduceCtorEq,reduceIte,qQ,d0];simp only[r80_3,SS,reduceCtorEq,reduceIte,qJ,qQ,qZ];exact dR
theorem zox{u:Nat}(hu:u<18446744073709551616):∃l c,zbp l/\l.length<=2/\val l=u/\Rt 81 [.int .u64 (u:Int)] [] (.vec (u32s l) l.length c) []:=by
 have hd:Dig [u%4294967296,u/4294967296]:=Dig.cons (Nat.mod_lt _ (by decide)) (Dig.cons (by omega) Dig.nil);have e:val [u%4294967296,u/4294967296]=u:=by simp only[Limb.val];omega
 have ht:=qfp [u%4294967296,u/4294967296] (some 2) (by simp);refine⟨zbf [u%4294967296,u/4294967296],some 2,zaz hd,by rw[zfk];exact zgx _ _,by rw[zbq,e],?_⟩;refine oF o81 ?_;simp only[c81,r81_0,r81_1,SS,reduceCtorEq,reduceIte,qJ,qQ,qZ,zzk,wu32,zzj (show u/4294967296<4294967296 by omega)];refine⟨by omega,?_⟩;refine zgg (id:=0) (cs:=u32s [u%4294967296,u/4294967296]) (d:=2) (args0:=[.sl 0 0 2 1 (some 2)]) ht ?_ ?_ ?_ ?_
 ·rfl
 ·rfl
 ·rfl
 simp only[zay,zad,xR,yX,SS,reduceIte,qQ];exact dR
theorem zzo{m:List Nat}(c:Option Nat)(dm:Dig m)(hm:m.length<=2):Rt 158 [.vec (u32s m) m.length c] [] (.int .u64 (val m:Nat)) []:=by
 refine oF o158 ?_;simp only[c158,r158_0,r158_1,r158_2,SS,reduceCtorEq,reduceIte];refine zaf (λk E H=>∃i,i+k=m.length/\E 3= .int .u64 (val (m.take i):Nat)/\E 6= .vec (u32s m) m.length c/\E 7= .int .i64 (m.length:Nat)/\E 8= .int .i64 (i:Nat)/\H=[]) (n:=m.length) ⟨0,by omega,by simp only[UU,qQ,reduceIte];rfl,by simp only[UU,qQ,reduceIte],by simp only[UU,qQ,reduceIte],by simp only[UU,qQ,reduceIte];rfl,rfl⟩ ?_;rintro k E H ⟨i,hik,h3,h6,h7,h8,rfl⟩;refine wM ?_;have bi:=dm.getD i;cases k with
 |zero=>
  obtain rfl:i=m.length:=by omega
  have d1:decide ((m.length:Int)<(m.length:Nat))=false:=dF;simp only[l158_0,r158_3,SS,fC,reduceCtorEq,reduceIte,h7,h8,d1];simp only[r158_7,SS,reduceIte,qQ,h3,xQ];exact kR
 |succ k=>
  have hi:i<m.length:=by omega
  have d1:decide ((i:Int)<(m.length:Nat))=true:=dT;have g:=zbc m i hi AV.junk;have w5:=wS1 i (by omega);have w6:IntKind.i64.wrap (32*(i:Int))=((32*i:Nat):Int):=wQ (by omega);have w7:=qbt m dm hi (by omega);simp only[l158_0,r158_3,r158_4,SS,fC,reduceCtorEq,reduceIte,qQ,h6,h7,h8,d1,qV,g,zap];refine⟨⟨by omega,by omega⟩,by omega,?_⟩;simp only[r158_5,r158_6,SS,reduceIte,qQ,h3,h8,w5,w6,zdl (show m.getD i 0<18446744073709551616 by omega),w7,qV];refine⟨by omega,?_⟩;refine⟨k,_,_,by omega,⟨i+1,by omega,?_,?_,?_,?_,rfl⟩,.refl⟩<;>simp only[UU,qQ,reduceIte, *]
theorem qke(l:List Nat)(c:Option Nat)(hl:l.length<=1100):∃c',Rt 142 [.vec (u32s l) l.length c] [] (.vec (u32s l) l.length c') []:=by
 cases l with
 |nil=>exact⟨_,qut _ _⟩
 |cons d l=>
  refine⟨none,?_⟩;have hu:=zap (d::l);have hn:(d::l).length≠0:=by simp
  generalize d::l=l at*;refine oF o142 ?_;simp only[c142,r142_0,r142_1,r142_2,r142_3,SS,fC,reduceCtorEq,reduceIte,qQ,hn,if_false];have e1:l.length*1<=(u32s l).length:=by omega
  have e2:l.length<=(u32s l).length:=by omega
  simp only[zby,lenA,zdr,need,qT,e2,qB,and_self,if_true,hn,if_false,getB,qD,xC,xZ,true_and,show 4*l.length*4<=2^48 by omega,show l.length<2^62 by omega,zaq,zad,yQ,List.set_cons_succ,List.set_cons_zero,List.take_zero,yZ];refine⟨.inl trivial,_,rfl,?_⟩;rw[qY (by omega)];exact zot rfl rfl
theorem zrf(n:Int)(h1: -9223372036854775808<=n)(h2:n<9223372036854775808):∃v,zag n v/\Rt 35 [.int .i64 n] [] v []:=by
 obtain⟨l,c,hc,hl,hv,t1⟩:=zox (u:=n.natAbs) (by omega);by_cases hn:n<0
 ·obtain⟨v,iv,t2⟩:=zhx true c hc (by omega);rw[hv,show sgnZ true n.natAbs=n by unfold sgnZ;simp only[if_true];omega]at iv;obtain⟨l',c',_,_,_,rfl⟩:=iv;refine⟨_,⟨l',c',by assumption,by assumption,by assumption,rfl⟩,?_⟩
  have w1:IntKind.u64.wrap n=((18446744073709551616-n.natAbs:Nat):Int):=by
   simp[IntKind.wrap,IntKind.bits,IntKind.signed];omega
  have w2:IntKind.u64.wrap (0-((18446744073709551616-n.natAbs:Nat):Int))=(n.natAbs:Nat):=by
   simp[IntKind.wrap,IntKind.bits,IntKind.signed];omega
  refine oF o35 ?_;simp only[c35,r35_0,r35_1,SS,reduceCtorEq,reduceIte,qQ];refine⟨λ_=>?_,λh=>absurd hn h⟩;simp only[r35_2,SS,reduceCtorEq,reduceIte,qQ,w1,w2];refine zaa t1 ?_;simp only[SS,reduceIte,qQ];refine zaa t2 ?_;simp only[SS,reduceIte,qJ,qQ,qZ];exact dR
 ·obtain⟨v,iv,t2⟩:=zhx false c hc (by omega);rw[hv,show sgnZ false n.natAbs=n by unfold sgnZ;simp;omega]at iv;obtain⟨l',c',_,_,_,rfl⟩:=iv;refine⟨_,⟨l',c',by assumption,by assumption,by assumption,rfl⟩,?_⟩
  have w1:IntKind.u64.wrap n=(n.natAbs:Int):=by
   simp[IntKind.wrap,IntKind.bits,IntKind.signed];omega
  refine oF o35 ?_;simp only[c35,r35_0,r35_1,SS,reduceCtorEq,reduceIte,qQ];refine⟨λh=>absurd h hn,λ_=>?_⟩;simp only[r35_3,SS,reduceCtorEq,reduceIte,qQ,w1];refine zaa t1 ?_;simp only[SS,reduceIte,qQ];refine zaa t2 ?_;simp only[SS,reduceIte,qJ,qQ,qZ];exact dR
theorem zti(z:Int):sgnZ (decide (z<0)) z.natAbs=z:=by unfold sgnZ;simp only[decide_eq_true_eq];split<;>omega
theorem qkf(z:Int):sgnZ (!decide (z<0)) z.natAbs= -z:=by unfold sgnZ;simp only[Bool.not_eq_true',decide_eq_false_iff_not];split<;>omega
theorem zlx{z:Int}{a:AV}(h:zag z a):∃v,zag z v/\Rt 77 [a] [] v []:=by
 obtain⟨l,c,hc,hl,hv,rfl⟩:=h;have t1:=zfl c hc (by omega);obtain⟨c2,t2⟩:=qke l c hl;obtain⟨v,iv,t3⟩:=zhx (decide (z<0)) c2 hc hl;rw[hv,zti]at iv;obtain⟨l',c',_,_,_,rfl⟩:=iv;refine⟨_,⟨l',c',by assumption,by assumption,by assumption,rfl⟩,?_⟩;refine oF o77 ?_;simp only[c77,r77_0,r77_1,SS,fC,reduceCtorEq,reduceIte,qJ,qQ,qZ];refine zaa t1 ?_;simp only[SS,reduceIte,qQ];refine zaa t2 ?_;simp only[SS,reduceIte,qQ];refine zaa t3 ?_;simp only[SS,reduceIte,qJ,qQ,qZ];refine⟨rfl,?_⟩;exact dR
theorem iNeg{z:Int}{a:AV}(h:zag z a):∃v,zag (-z) v/\Rt 147 [a] [] v []:=by
 obtain⟨l,c,hc,hl,hv,rfl⟩:=h;have t1:=zfl c hc (by omega);obtain⟨c2,t2⟩:=qke l c hl;obtain⟨v,iv,t3⟩:=zhx (!decide (z<0)) c2 hc hl;rw[hv,qkf]at iv;obtain⟨l',c',_,_,_,rfl⟩:=iv;refine⟨_,⟨l',c',by assumption,by assumption,by assumption,rfl⟩,?_⟩;refine oF o147 ?_;simp only[c147,r147_0,r147_1,SS,fC,reduceCtorEq,reduceIte,qJ,qQ,qZ];refine zaa t1 ?_;simp only[SS,reduceIte,qQ];refine zaa t2 ?_;simp only[SS,reduceIte,qQ];refine zaa t3 ?_;simp only[SS,reduceIte,qJ,qQ,qZ];refine⟨rfl,?_⟩;exact dR
theorem zwd{z:Int}{a:AV}(h:zag z a):Rt 76 [a] [] (.int .i64 z.sign) []:=by
 obtain⟨l,c,hc,hl,hv,rfl⟩:=h;have t1:=zfl c hc (by omega);have h1:=zkg hc;rw[hv]at h1;refine oF o76 ?_;simp only[c76,r76_0,r76_1,SS,fC,reduceCtorEq,reduceIte,qJ,qQ,qZ];refine zaa t1 ?_;simp only[SS,reduceIte,qQ];refine⟨λh0=>?_,λh0=>?_⟩
 ·obtain rfl:z=0:=by
   have:=h1.2 (List.length_eq_zero_iff.1 (by omega));omega
  simp only[r76_2,SS];exact dR
 ·have:z≠0:=by
   rintro rfl;have:=h1.1 rfl;rw[this]at h0;exact h0 rfl
  simp only[r76_3,SS,fC,reduceIte,qJ,qQ,qZ];refine⟨λh2=>?_,λh2=>?_⟩
  ·rw[Int.sign_eq_neg_one_of_neg h2];simp only[r76_4,SS];exact dR
  ·rw[Int.sign_eq_one_of_pos (by omega)];simp only[r76_5,SS];exact dR
end Go.Proofs.YtpflahgcdgdkjaaGreatDoor
namespace Go.Proofs.YtpflahgcdgdkjaaGreatDoor
open Nat renaming reduceEqDiff -> qQ, reduceLeDiff -> qZ, reduceAdd -> qJ, le_refl -> qB, lt_of_lt_of_le -> qP, sub_self -> xY, lt_or_ge -> xU, zero_le -> xC, one_ne_zero -> xL
open List renaming getD_eq_getElem?_getD -> qX, getElem?_eq_getElem -> qK, take_of_length_le -> qY, nodup_cons -> qA, getElem?_append_right -> qE, getElem?_map -> qG, mem_cons -> qN, getElem_mem -> qO, set_append_right -> qR, getElem?_append_left -> qS, take_length -> xQ, length_set -> xX, getElem?_set_self -> xJ, take_add_one -> xK, map_append -> xV, append_assoc -> xD, length_take -> xG, getElem?_set_ne -> xP, replicate_zero -> xR, replicate_succ -> xS, set_set -> xT, append_nil -> yX
open Go.AL.AV.closed renaming closedL -> qW
open Int renaming toNat_natCast -> qV
open Option renaming bind_some -> qT
open Go Go.AL Go.Proofs
theorem n1:((1:Nat):Int)=1:=rfl
theorem n2:((2:Nat):Int)=2:=rfl
theorem wi1:IntKind.i64.wrap 1=1:=rfl
theorem wi2:IntKind.i64.wrap 2=2:=rfl
theorem tn0:Int.toNat 0=0:=rfl
theorem tn1:Int.toNat 1=1:=rfl
theorem le0:((0:Int)<=0)=True:=eq_true (by decide)
theorem lt01:((0:Int)<1)=True:=eq_true (by decide)
theorem lt12:((1:Int)<2)=True:=eq_true (by decide)
noncomputable section
def q5:=V (RS Tryz.f5=·)
def r5_0:=X q5 0
def r5_1:=X q5 1
def r5_2:=X q5 2
def r5_3:=X q5 3
def r5_4:=X q5 4
def r5_5:=X q5 5
def r5_6:=X q5 6
def r5_7:=X q5 7
def r5_8:=X q5 8
def r5_9:=X q5 9
def r5_10:=X q5 10
def r5_11:=X q5 11
def r5_12:=X q5 12
def r5_13:=X q5 13
def r5_14:=X q5 14
def r5_15:=X q5 15
def r5_16:=X q5 16
def r5_17:=X q5 17
def c5:CC:=(.seq (rN r5_0) (.seq (.seq (rN r5_1) (.cond (.t 25) (.seq (rN r5_2) .ret) .skip)) (.seq (.seq (rN r5_3) (.cond (.t 27) (rN r5_4) .skip)) (.seq (rN r5_5) (.seq (.seq (rN r5_6) (.cond (.t 32) (rN r5_7) .skip)) (.seq (.seq (rN r5_8) (.cond (.t 34) (rN r5_9) .skip)) (.seq (rN r5_10) (.seq (rN r5_11) (.seq (.seq (rN r5_12) (.cond (.t 62) (.seq (rN r5_13) .ret) .skip)) (.seq (.seq (rN r5_14) (.cond (.t 71) (.seq (rN r5_15) .ret) .skip)) (.seq (rN r5_16) (.seq (rN r5_17) .ret))))))))))))
theorem o5:FnI 5 91 Tryz.f5 c5 [.tmp 16]:=oM Tryz.func5
def q18:=V (RS Tryz.f18=·)
def r18_0:=X q18 0
def r18_1:=X q18 1
def r18_2:=X q18 2
def r18_3:=X q18 3
def r18_4:=X q18 4
def r18_5:=X q18 5
def r18_6:=X q18 6
def r18_7:=X q18 7
def r18_8:=X q18 8
def r18_9:=X q18 9
def r18_10:=X q18 10
def r18_11:=X q18 11
def r18_12:=X q18 12
def r18_13:=X q18 13
def r18_14:=X q18 14
def r18_15:=X q18 15
def r18_16:=X q18 16
def c18:CC:=(.seq (rN r18_0) (.seq (.seq (rN r18_1) (.seq (rN r18_2) (.cond (.t 19) (.seq (rN r18_3) .ret) .skip))) (.seq (.seq (rN r18_4) (.cond (.t 27) (.seq (rN r18_5) .ret) .skip)) (.seq (rN r18_6) (.seq (.seq (rN r18_7) (.cond (.t 37) (.seq (rN r18_8) .ret) .skip)) (.seq (rN r18_9) (.seq (.seq (rN r18_10) (.cond (.t 44) (rN r18_11) .skip)) (.seq (.seq (rN r18_12) (.cond (.t 50) (.seq (rN r18_13) (.seq (rN r18_14) .ret)) .skip)) (.seq (rN r18_15) (.seq (rN r18_16) .ret))))))))))
theorem o18:FnI 18 74 Tryz.f18 c18 [.cell 6 42,.tmp 7]:=oM Tryz.func18
def q19:=V (RS Tryz.f19=·)
def r19_0:=X q19 0
def r19_1:=X q19 1
def r19_2:=X q19 2
def r19_3:=X q19 3
def r19_4:=X q19 4
def r19_5:=X q19 5
def r19_6:=X q19 6
def r19_7:=X q19 7
def r19_8:=X q19 8
def r19_9:=X q19 9
def r19_10:=X q19 10
def c19:CC:=(.seq (rN r19_0) (.seq (.block 0 (.seq (rN r19_1) (.cond (.t 10) (.seq (rN r19_2) .ret) (.seq (rN r19_3) (.cond (.t 15) (.seq (rN r19_4) .ret) (.seq (rN r19_5) (.cond (.t 20) (.seq (rN r19_6) .ret) .skip))))))) (.seq (rN r19_7) (.seq (.seq (rN r19_8) (.cond (.t 47) (.seq (rN r19_9) .ret) .skip)) (.seq (rN r19_10) .ret)))))
theorem o19:FnI 19 67 Tryz.f19 c19 [.cell 6 42,.tmp 7]:=oM Tryz.func19
def q42:=V (RS Tryz.f42=·)
def r42_0:=X q42 0
def r42_1:=X q42 1
def r42_2:=X q42 2
def r42_3:=X q42 3
def r42_4:=X q42 4
def c42:CC:=(.seq (rN r42_0) (.seq (rN r42_1) (.seq (rN r42_2) (.seq (rN r42_3) (.seq (rN r42_4) .ret)))))
theorem o42:FnI 42 25 Tryz.f42 c42 [.tmp 2]:=oM Tryz.func42
def q43:=V (RS Tryz.f43=·)
def r43_0:=X q43 0
def r43_1:=X q43 1
def r43_2:=X q43 2
def r43_3:=X q43 3
def r43_4:=X q43 4
def r43_5:=X q43 5
def r43_6:=X q43 6
def r43_7:=X q43 7
def r43_8:=X q43 8
def r43_9:=X q43 9
def r43_10:=X q43 10
def r43_11:=X q43 11
def r43_12:=X q43 12
def r43_13:=X q43 13
def r43_14:=X q43 14
def r43_15:=X q43 15
def r43_16:=X q43 16
def r43_17:=X q43 17
def r43_18:=X q43 18
def l43_0:CC:=(.seq (.seq (rN r43_12) (.cond (.t 38) .skip (.exit 0))) (.block 1 (.seq (.seq (rN r43_13) (.cond (.t 41) (.seq (rN r43_14) .ret) .skip)) (.seq (.seq (rN r43_15) (.seq (rN r43_16) (.cond (.t 49) (rN r43_17) .skip))) (rN r43_18)))))
def r43_19:=X q43 19
def c43:CC:=(.seq (rN r43_0) (.seq (.seq (rN r43_1) (.cond (.t 21) (.seq (rN r43_2) .ret) .skip)) (.seq (.seq (rN r43_3) (.cond (.t 23) (.seq (.seq (rN r43_4) (.cond (.t 29) (.seq (rN r43_5) .ret) .skip)) (.seq (rN r43_6) .ret)) .skip)) (.seq (rN r43_7) (.seq (.seq (rN r43_8) (.cond (.t 31) (.seq (rN r43_9) (.seq (rN r43_10) (.cond (.t 35) (rN r43_11) .skip))) .skip)) (.seq (.block 0 (.loop l43_0)) (.seq (rN r43_19) .ret)))))))
theorem o43:FnI 43 61 Tryz.f43 c43 [.tmp 4,.tmp 5]:=oM Tryz.func43
def q44:=V (RS Tryz.f44=·)
def r44_0:=X q44 0
def r44_1:=X q44 1
def c44:CC:=(.seq (rN r44_0) (.seq (rN r44_1) .ret))
theorem o44:FnI 44 16 Tryz.f44 c44 [.cell 6 42]:=oM Tryz.func44
def r45_0:RL:=[oP 2 (.mov (kI 0))]
def r45_1:RL:=[mV 6 0,cL 7 24 [.t 6],cL 8 98 [.t 7],cL 9 97 [.t 8],mV 5 9,eX 10 5 0,eX 11 5 1,mV 3 10,mV 4 11]
def r45_2:RL:=[mV 12 3,mV 2 12]
def c45:CC:=(.seq (rN r45_0) (.seq (rN r45_1) (.seq (rN r45_2) .ret)))
theorem o45:FnI 45 13 Tryz.f45 c45 [.tmp 2]:=oM Tryz.func45
def q46:=V (RS Tryz.f46=·)
def r46_0:=X q46 0
def r46_1:=X q46 1
def c46:CC:=(.seq (rN r46_0) (.seq (rN r46_1) .ret))
theorem o46:FnI 46 16 Tryz.f46 c46 [.cell 6 42]:=oM Tryz.func46
def q47:=V (RS Tryz.f47=·)
def r47_0:=X q47 0
def r47_1:=X q47 1
def r47_2:=X q47 2
def r47_3:=X q47 3
def r47_4:=X q47 4
def r47_5:=X q47 5
def r47_6:=X q47 6
def r47_7:=X q47 7
def r47_8:=X q47 8
def r47_9:=X q47 9
def r47_10:=X q47 10
def r47_11:=X q47 11
def r47_12:=X q47 12
def r47_13:=X q47 13
def r47_14:=X q47 14
def r47_15:=X q47 15
def r47_16:=X q47 16
def r47_17:=X q47 17
def r47_18:=X q47 18
def r47_19:=X q47 19
def l47_1:CC:=(.seq (.seq (rN r47_15) (.cond (.t 39) .skip (.exit 2))) (.seq (.block 3 (.seq (rN r47_16) (.cond (.t 44) (rN r47_17) (rN r47_18)))) (rN r47_19)))
def r47_20:=X q47 20
def l47_0:CC:=(.seq (rN r47_12) (.seq (.cond (.t 33) .skip (.exit 0)) (.seq (.block 1 (.seq (rN r47_13) (.seq (rN r47_14) (.block 2 (.loop l47_1))))) (rN r47_20))))
def r47_21:=X q47 21
def c47:CC:=(.seq (rN r47_0) (.seq (.seq (rN r47_1) (.cond (.t 12) (.seq (.seq (rN r47_2) (.cond (.t 18) (.seq (rN r47_3) .ret) .skip)) (.seq (rN r47_4) .ret)) .skip)) (.seq (rN r47_5) (.seq (.seq (rN r47_6) (.cond (.t 20) (.seq (rN r47_7) (.seq (rN r47_8) (.cond (.t 24) (rN r47_9) .skip))) .skip)) (.seq (rN r47_10) (.seq (.seq (rN r47_11) (.block 0 (.loop l47_0))) (.seq (rN r47_21) .ret)))))))
theorem o47:FnI 47 57 Tryz.f47 c47 [.tmp 4]:=oM Tryz.func47
def r48_0:RL:=[oP 4 (.mov (kI 0))]
def r48_1:RL:=[mV 5 1,bK 6 .rem 5 2,bK 7 .eql 6 1]
def r48_2:RL:=[mV 8 0,oP 9 (.un .neg (.t 8)),mV 4 9]
def r48_3:RL:=[mV 10 0,mV 4 10]
def c48:CC:=(.seq (rN r48_0) (.seq (.seq (rN r48_1) (.cond (.t 7) (.seq (rN r48_2) .ret) .skip)) (.seq (rN r48_3) .ret)))
theorem o48:FnI 48 11 Tryz.f48 c48 [.tmp 4]:=oM Tryz.func48
def q89:=V (RS Tryz.f89=·)
def r89_0:=X q89 0
def r89_1:=X q89 1
def r89_2:=X q89 2
def r89_3:=X q89 3
def r89_4:=X q89 4
def c89:CC:=(.seq (rN r89_0) (.seq (rN r89_1) (.seq (.seq (rN r89_2) (.cond (.t 14) (.seq (rN r89_3) .ret) .skip)) (.seq (rN r89_4) .ret))))
theorem o89:FnI 89 19 Tryz.f89 c89 [.tmp 2,.tmp 3]:=oM Tryz.func89
def q90:=V (RS Tryz.f90=·)
def r90_0:=X q90 0
def r90_1:=X q90 1
def r90_2:=X q90 2
def r90_3:=X q90 3
def r90_4:=X q90 4
def c90:CC:=(.seq (rN r90_0) (.seq (rN r90_1) (.seq (.seq (rN r90_2) (.cond (.t 19) (.seq (rN r90_3) .ret) .skip)) (.seq (rN r90_4) .ret))))
theorem o90:FnI 90 23 Tryz.f90 c90 [.cell 2 40,.tmp 3]:=oM Tryz.func90
def r92_0:RL:=[oP 4 (.mov (kI 0))]
def r92_1:RL:=[mV 5 0,mV 6 1,bT 7 .rem 5 6,mV 8 1,bT 9 .add 7 8,mV 10 1,bT 11 .rem 9 10,mV 4 11]
def c92:CC:=(.seq (rN r92_0) (.seq (rN r92_1) .ret))
theorem o92:FnI 92 12 Tryz.f92 c92 [.tmp 4]:=oM Tryz.func92
def q93:=V (RS Tryz.f93=·)
def r93_0:=X q93 0
def r93_1:=X q93 1
def r93_2:=X q93 2
def r93_3:=X q93 3
def r93_4:=X q93 4
def r93_5:=X q93 5
def r93_6:=X q93 6
def l93_1:CC:=(.seq (.seq (rN r93_3) (.cond (.t 10) .skip (.exit 2))) (.block 3 (.seq (rN r93_4) (.seq (rN r93_5) (.cond (.t 20) (rN r93_6) .skip)))))
def r93_7:=X q93 7
def r93_8:=X q93 8
def r93_9:=X q93 9
def l93_0:CC:=(.seq (.seq (rN r93_2) (.cond (.t 7) .skip (.exit 0))) (.block 1 (.seq (.block 2 (.loop l93_1)) (.seq (.seq (rN r93_7) (.cond (.t 30) (rN r93_8) .skip)) (rN r93_9)))))
def r93_10:=X q93 10
def r93_11:=X q93 11
def r93_12:=X q93 12
def c93:CC:=(.seq (rN r93_0) (.seq (rN r93_1) (.seq (.block 0 (.loop l93_0)) (.seq (.seq (rN r93_10) (.cond (.t 38) (.seq (rN r93_11) .ret) .skip)) (.seq (rN r93_12) .ret)))))
theorem o93:FnI 93 40 Tryz.f93 c93 [.tmp 4]:=oM Tryz.func93
def q94:=V (RS Tryz.f94=·)
def r94_0:=X q94 0
def r94_1:=X q94 1
def c94:CC:=(.seq (rN r94_0) (.seq (.reg r94_1 (some [(0,1),(0,2)])) .ret))
theorem o94:FnI 94 10 Tryz.f94 c94 [.cell 4 42]:=oM Tryz.func94
def q95:=V (RS Tryz.f95=·)
def r95_0:=X q95 0
def r95_1:=X q95 1
def c95:CC:=(.seq (rN r95_0) (.seq (rN r95_1) .ret))
theorem o95:FnI 95 9 Tryz.f95 c95 [.cell 4 42]:=oM Tryz.func95
def q96:=V (RS Tryz.f96=·)
def r96_0:=X q96 0
def r96_1:=X q96 1
def r96_2:=X q96 2
def c96:CC:=(.seq (rN r96_0) (.seq (rN r96_1) (.seq (rN r96_2) .ret)))
theorem o96:FnI 96 15 Tryz.f96 c96 [.cell 4 42]:=oM Tryz.func96
def q99:=V (RS Tryz.f99=·)
def r99_0:=X q99 0
def r99_1:=X q99 1
def c99:CC:=(.seq (rN r99_0) (.seq (.reg r99_1 (some [(0,1),(0,2)])) .ret))
theorem o99:FnI 99 9 Tryz.f99 c99 [.cell 4 42]:=oM Tryz.func99
def r100_0:RL:=[oP 2 (.box (.k (.agg [(.bool false),(.vec [] 0 (some 0)),(.bool false),(.vec [] 0 (some 0))])))]
def r100_1:RL:=[mV 3 0,cL 4 87 [.t 3],cL 5 167 [.t 4],sT (.store 4 (.t 2) (.t 5))]
def c100:CC:=(.seq (rN r100_0) (.seq (rN r100_1) .ret))
theorem o100:FnI 100 6 Tryz.f100 c100 [.cell 2 42]:=oM Tryz.func100
def q101:=V (RS Tryz.f101=·)
def r101_0:=X q101 0
def r101_1:=X q101 1
def r101_2:=X q101 2
def r101_3:=X q101 3
def c101:CC:=(.seq (rN r101_0) (.seq (.reg r101_1 (some [(0,2),(1,2),(0,4),(1,4),(2,4),(3,4),(0,5),(1,5),(2,5),(3,5),(4,5)])) (.seq (.reg r101_2 (some [(1,3),(1,6),(3,6),(4,6),(1,8),(3,8),(4,8),(6,8),(1,14),(3,14),(4,14),(6,14),(8,14),(9,14),(10,14)])) (.seq (rN r101_3) .ret))))
theorem o101:FnI 101 28 Tryz.f101 c101 [.cell 4 42]:=oM Tryz.func101
def q102:=V (RS Tryz.f102=·)
def r102_0:=X q102 0
def r102_1:=X q102 1
def r102_2:=X q102 2
def c102:CC:=(.seq (rN r102_0) (.seq (rN r102_1) (.seq (rN r102_2) .ret)))
theorem o102:FnI 102 15 Tryz.f102 c102 [.cell 4 42]:=oM Tryz.func102
def q103:=V (RS Tryz.f103=·)
def r103_0:=X q103 0
def r103_1:=X q103 1
def r103_2:=X q103 2
def r103_3:=X q103 3
def r103_4:=X q103 4
def r103_5:=X q103 5
def r103_6:=X q103 6
def r103_7:=X q103 7
def r103_8:=X q103 8
def r103_9:=X q103 9
def l103_1:CC:=(.seq (.seq (rN r103_7) (.cond (.t 23) .skip (.exit 2))) (.block 3 (.seq (rN r103_8) (rN r103_9))))
def r103_10:=X q103 10
def r103_11:=X q103 11
def r103_12:=X q103 12
def l103_0:CC:=(.seq (.seq (rN r103_5) (.cond (.t 17) .skip (.exit 0))) (.seq (.block 1 (.seq (rN r103_6) (.seq (.block 2 (.loop l103_1)) (.seq (rN r103_10) (.cond (.t 30) (rN r103_11) .skip))))) (rN r103_12)))
def r103_13:=X q103 13
def r103_14:=X q103 14
def r103_15:=X q103 15
def c103:CC:=(.seq (rN r103_0) (.seq (.seq (rN r103_1) (.cond (.t 12) (.seq (rN r103_2) .ret) .skip)) (.seq (rN r103_3) (.seq (.seq (rN r103_4) (.block 0 (.loop l103_0))) (.seq (.seq (rN r103_13) (.cond (.t 38) (rN r103_14) .skip)) (.seq (rN r103_15) .ret))))))
theorem o103:FnI 103 45 Tryz.f103 c103 [.tmp 2,.tmp 3]:=oM Tryz.func103
def r105_0:RL:=[oP 4 (.mov (kI 0))]
def r105_1:RL:=[mV 5 0,mV 6 1,bK 7 .sub 6 1,bK 8 .quo 7 2,mV 9 1,cL 10 170 [.t 5,.t 8,.t 9]]
def r105_2:RL:=[bK 12 .eql 10 0,mV 11 12]
def r105_3:RL:=[oP 4 (.mov (kI 0))]
def r105_4:RL:=[bK 14 .eql 10 1,mV 13 14]
def r105_5:RL:=[oP 4 (.mov (kI 1))]
def r105_6:RL:=[oP 4 (.mov (.k (.int .i64 (-1))))]
def c105:CC:=(.seq (rN r105_0) (.seq (.seq (rN r105_1) (.block 0 (.seq (rN r105_2) (.cond (.t 11) (.seq (rN r105_3) .ret) (.seq (rN r105_4) (.cond (.t 13) (.seq (rN r105_5) .ret) .skip)))))) (.seq (rN r105_6) .ret)))
theorem o105:FnI 105 15 Tryz.f105 c105 [.tmp 4]:=oM Tryz.func105
def q153:=V (RS Tryz.f153=·)
def r153_0:=X q153 0
def r153_1:=X q153 1
def r153_2:=X q153 2
def r153_3:=X q153 3
def r153_4:=X q153 4
def r153_5:=X q153 5
def r153_6:=X q153 6
def r153_7:=X q153 7
def r153_8:=X q153 8
def r153_9:=X q153 9
def r153_10:=X q153 10
def r153_11:=X q153 11
def l153_0:CC:=(.seq (rN r153_7) (.seq (.cond (.t 29) .skip (.exit 0)) (.seq (.block 1 (.seq (rN r153_8) (.seq (rN r153_9) (.cond (.t 35) (.seq (rN r153_10) .ret) .skip)))) (rN r153_11))))
def r153_12:=X q153 12
def c153:CC:=(.seq (rN r153_0) (.seq (.seq (rN r153_1) (.cond (.t 15) (.seq (rN r153_2) .ret) .skip)) (.seq (rN r153_3) (.seq (.seq (rN r153_4) (.cond (.t 25) (.seq (rN r153_5) .ret) .skip)) (.seq (.seq (rN r153_6) (.block 0 (.loop l153_0))) (.seq (rN r153_12) .ret))))))
theorem o153:FnI 153 40 Tryz.f153 c153 [.tmp 2,.tmp 3,.tmp 4]:=oM Tryz.func153
def q154:=V (RS Tryz.f154=·)
def r154_0:=X q154 0
def r154_1:=X q154 1
def r154_2:=X q154 2
def r154_3:=X q154 3
def r154_4:=X q154 4
def r154_5:=X q154 5
def r154_6:=X q154 6
def r154_7:=X q154 7
def r154_8:=X q154 8
def r154_9:=X q154 9
def r154_10:=X q154 10
def l154_1:CC:=(.seq (rN r154_7) (.seq (.cond (.t 28) .skip (.exit 2)) (.seq (.block 3 (.seq (rN r154_8) (.reg r154_9 (some [(3,8)])))) (rN r154_10))))
def r154_11:=X q154 11
def l154_0:CC:=(.seq (rN r154_3) (.seq (.cond (.t 15) .skip (.exit 0)) (.seq (.block 1 (.seq (rN r154_4) (.seq (rN r154_5) (.seq (rN r154_6) (.block 2 (.loop l154_1)))))) (rN r154_11))))
def r154_12:=X q154 12
def c154:CC:=(.seq (rN r154_0) (.seq (rN r154_1) (.seq (.seq (rN r154_2) (.block 0 (.loop l154_0))) (.seq (rN r154_12) .ret))))
theorem o154:FnI 154 43 Tryz.f154 c154 [.tmp 6]:=oM Tryz.func154
def r155_0:RL:=[oP 5 (.box (.k (.agg [(.bool false),(.vec [] 0 (some 0))])))]
def r155_1:RL:=[ldO 6 false 1 2,mV 7 0,iX 8 1 6 7,ldO 9 false 1 8,mV 10 1,iX 11 1 9 10,ldO 12 false 1 11,cL 13 35 [.t 12],sT (.store 2 (.t 5) (.t 13))]
def c155:CC:=(.seq (rN r155_0) (.seq (rN r155_1) .ret))
theorem o155:FnI 155 14 Tryz.f155 c155 [.cell 5 40]:=oM Tryz.func155
def q156:=V (RS Tryz.f156=·)
def r156_0:=X q156 0
def r156_1:=X q156 1
def r156_2:=X q156 2
def r156_3:=X q156 3
def r156_4:=X q156 4
def r156_5:=X q156 5
def r156_6:=X q156 6
def r156_7:=X q156 7
def r156_8:=X q156 8
def r156_9:=X q156 9
def r156_10:=X q156 10
def r156_11:=X q156 11
def l156_0:CC:=(.seq (rN r156_7) (.seq (.cond (.t 29) .skip (.exit 0)) (.seq (.block 1 (.seq (rN r156_8) (.seq (rN r156_9) (.cond (.t 35) (.seq (rN r156_10) .ret) .skip)))) (rN r156_11))))
def r156_12:=X q156 12
def c156:CC:=(.seq (rN r156_0) (.seq (.seq (rN r156_1) (.cond (.t 15) (.seq (rN r156_2) .ret) .skip)) (.seq (rN r156_3) (.seq (.seq (rN r156_4) (.cond (.t 25) (.seq (rN r156_5) .ret) .skip)) (.seq (.seq (rN r156_6) (.block 0 (.loop l156_0))) (.seq (rN r156_12) .ret))))))
theorem o156:FnI 156 40 Tryz.f156 c156 [.tmp 2,.tmp 3,.tmp 4]:=oM Tryz.func156
def r157_0:=V (RR Tryz.f157 0=·)
def r157_1:=V (RR Tryz.f157 1=·)
def r157_2:=V (RR Tryz.f157 2=·)
def r157_3:=V (RR Tryz.f157 3=·)
def r157_4:=V (RR Tryz.f157 4=·)
def r157_5:=V (RR Tryz.f157 5=·)
def r157_6:=V (RR Tryz.f157 6=·)
def r157_7:=V (RR Tryz.f157 7=·)
def r157_8:=V (RR Tryz.f157 8=·)
def l157_0:CC:=(.seq (rN r157_4) (.seq (.cond (.t 22) .skip (.exit 0)) (.seq (.block 1 (.seq (rN r157_5) (.seq (rN r157_6) (rN r157_7)))) (rN r157_8))))
def r157_9:=V (RR Tryz.f157 9=·)
def r157_10:=V (RR Tryz.f157 10=·)
def r157_11:=V (RR Tryz.f157 11=·)
def r157_12:=V (RR Tryz.f157 12=·)
def r157_13:=V (RR Tryz.f157 13=·)
def r157_14:=V (RR Tryz.f157 14=·)
def r157_15:=V (RR Tryz.f157 15=·)
def r157_16:=V (RR Tryz.f157 16=·)
def l157_2:CC:=(.seq (.seq (rN r157_15) (.cond (.t 57) .skip (.exit 4))) (.block 5 (rN r157_16)))
def r157_17:=V (RR Tryz.f157 17=·)
def r157_18:=V (RR Tryz.f157 18=·)
def r157_19:=V (RR Tryz.f157 19=·)
def r157_20:=V (RR Tryz.f157 20=·)
def r157_21:=V (RR Tryz.f157 21=·)
def r157_22:=V (RR Tryz.f157 22=·)
def r157_23:=V (RR Tryz.f157 23=·)
def r157_24:=V (RR Tryz.f157 24=·)
def r157_25:=V (RR Tryz.f157 25=·)
def r157_26:=V (RR Tryz.f157 26=·)
def r157_27:=V (RR Tryz.f157 27=·)
def r157_28:=V (RR Tryz.f157 28=·)
def r157_29:=V (RR Tryz.f157 29=·)
def l157_4:CC:=(.seq (.seq (rN r157_26) (.cond (.t 101) .skip (.exit 8))) (.seq (.block 9 (.seq (.reg r157_27 (some [(0,4),(0,7),(0,12),(4,12),(7,12),(8,12),(0,15),(4,15),(7,15),(8,15),(0,19),(4,19),(7,19),(8,19),(12,19),(15,19),(0,22),(4,22),(7,22),(8,22),(12,22),(15,22),(0,25),(4,25),(7,25),(8,25),(12,25),(15,25),(19,25),(22,25),(23,25),(24,25)])) (.reg r157_28 (some [(3,5),(3,6),(5,6),(3,7)])))) (rN r157_29)))
def r157_30:=V (RR Tryz.f157 30=·)
def l157_3:CC:=(.seq (.seq (rN r157_24) (.cond (.t 94) .skip (.exit 6))) (.seq (.block 7 (.seq (rN r157_25) (.block 8 (.loop l157_4)))) (rN r157_30)))
def r157_31:=V (RR Tryz.f157 31=·)
def r157_32:=V (RR Tryz.f157 32=·)
def l157_1:CC:=(.seq (rN r157_12) (.seq (.cond (.t 41) .skip (.exit 2)) (.seq (.block 3 (.seq (rN r157_13) (.seq (rN r157_14) (.seq (.block 4 (.loop l157_2)) (.seq (.seq (rN r157_17) (.cond (.t 62) (.seq (rN r157_18) .ret) .skip)) (.seq (.seq (rN r157_19) (.cond (.t 66) (.seq (.reg r157_20 (some [(7,11)])) (rN r157_21)) .skip)) (.seq (rN r157_22) (.seq (.seq (rN r157_23) (.block 6 (.loop l157_3))) (rN r157_31))))))))) (rN r157_32))))
def r157_33:=V (RR Tryz.f157 33=·)
def r157_34:=V (RR Tryz.f157 34=·)
def r157_35:=V (RR Tryz.f157 35=·)
def c157:CC:=(.seq (rN r157_0) (.seq (rN r157_1) (.seq (rN r157_2) (.seq (.seq (rN r157_3) (.block 0 (.loop l157_0))) (.seq (rN r157_9) (.seq (rN r157_10) (.seq (.seq (rN r157_11) (.block 2 (.loop l157_1))) (.seq (.seq (rN r157_33) (.cond (.t 144) (.seq (rN r157_34) .ret) .skip)) (.seq (rN r157_35) .ret)))))))))
theorem o157:FnI 157 149 Tryz.f157 c157 [.cell 2 40]:=oM Tryz.func157
def q159:=V (RS Tryz.f159=·)
def r159_0:=X q159 0
def r159_1:=X q159 1
def r159_2:=X q159 2
def r159_3:=X q159 3
def r159_4:=X q159 4
def r159_5:=X q159 5
def r159_6:=X q159 6
def r159_7:=X q159 7
def r159_8:=X q159 8
def l159_0:CC:=(.seq (rN r159_3) (.seq (.cond (.t 13) .skip (.exit 0)) (.seq (.block 1 (.seq (rN r159_4) (.seq (rN r159_5) (.seq (.reg r159_6 (some [(0,2),(0,5),(2,5),(3,5),(0,6),(2,6),(3,6),(5,6)])) (rN r159_7))))) (rN r159_8))))
def r159_9:=X q159 9
def c159:CC:=(.seq (rN r159_0) (.seq (rN r159_1) (.seq (.seq (rN r159_2) (.block 0 (.loop l159_0))) (.seq (rN r159_9) .ret))))
theorem o159:FnI 159 35 Tryz.f159 c159 [.cell 2 42]:=oM Tryz.func159
def q160:=V (RS Tryz.f160=·)
def r160_0:=X q160 0
def r160_1:=X q160 1
def r160_2:=X q160 2
def c160:CC:=(.seq (rN r160_0) (.seq (rN r160_1) (.seq (.reg r160_2 (some [(1,4),(2,4)])) .ret)))
theorem o160:FnI 160 12 Tryz.f160 c160 [.cell 2 42]:=oM Tryz.func160
def q166:=V (RS Tryz.f166=·)
def r166_0:=X q166 0
def r166_1:=X q166 1
def r166_2:=X q166 2
def c166:CC:=(.seq (rN r166_0) (.seq (rN r166_1) (.seq (.reg r166_2 (some [(1,4),(2,4)])) .ret)))
theorem o166:FnI 166 12 Tryz.f166 c166 [.cell 2 42]:=oM Tryz.func166
def q167:=V (RS Tryz.f167=·)
def r167_0:=X q167 0
def r167_1:=X q167 1
def c167:CC:=(.seq (rN r167_0) (.seq (rN r167_1) .ret))
theorem o167:FnI 167 7 Tryz.f167 c167 [.cell 2 42]:=oM Tryz.func167
def q169:=V (RS Tryz.f169=·)
def r169_0:=X q169 0
def r169_1:=X q169 1
def r169_2:=X q169 2
def r169_3:=X q169 3
def r169_4:=X q169 4
def r169_5:=X q169 5
def r169_6:=X q169 6
def r169_7:=X q169 7
def r169_8:=X q169 8
def r169_9:=X q169 9
def r169_10:=X q169 10
def r169_11:=X q169 11
def c169:CC:=(.seq (rN r169_0) (.seq (.seq (rN r169_1) (.cond (.t 18) (.seq (rN r169_2) .ret) .skip)) (.seq (rN r169_3) (.seq (.seq (rN r169_4) (.cond (.t 23) (.seq (.reg r169_5 (some [(0,1),(0,6),(1,6),(2,6)])) (.seq (.seq (rN r169_6) (.cond (.t 31) (.seq (rN r169_7) .ret) .skip)) (rN r169_8))) .skip)) (.seq (rN r169_9) (.seq (rN r169_10) (.seq (rN r169_11) .ret)))))))
theorem o169:FnI 169 53 Tryz.f169 c169 [.cell 4 42,.tmp 5]:=oM Tryz.func169
def q170:=V (RS Tryz.f170=·)
def r170_0:=X q170 0
def r170_1:=X q170 1
def r170_2:=X q170 2
def r170_3:=X q170 3
def r170_4:=X q170 4
def r170_5:=X q170 5
def r170_6:=X q170 6
def r170_7:=X q170 7
def l170_0:CC:=(.seq (.seq (rN r170_3) (.cond (.t 14) .skip (.exit 0))) (.seq (.block 1 (.seq (.seq (rN r170_4) (.cond (.t 19) (rN r170_5) .skip)) (rN r170_6))) (rN r170_7)))
def r170_8:=X q170 8
def c170:CC:=(.seq (rN r170_0) (.seq (rN r170_1) (.seq (.seq (rN r170_2) (.block 0 (.loop l170_0))) (.seq (rN r170_8) .ret))))
theorem o170:FnI 170 31 Tryz.f170 c170 [.tmp 6]:=oM Tryz.func170
def q201:=V (RS Tryz.f201=·)
def r201_0:=X q201 0
def r201_1:=X q201 1
def r201_2:=X q201 2
def c201:CC:=(.seq (rN r201_0) (.seq (.reg r201_1 (some [(0,2),(1,2),(0,4),(1,4),(2,4),(3,4),(0,5),(1,5),(2,5),(3,5),(4,5)])) (.seq (.reg r201_2 (some [(1,3),(1,6),(3,6),(4,6),(1,8),(3,8),(4,8),(6,8)])) .ret)))
theorem o201:FnI 201 25 Tryz.f201 c201 [.cell 4 42,.tmp 5]:=oM Tryz.func201
def q202:=V (RS Tryz.f202=·)
def r202_0:=X q202 0
def r202_1:=X q202 1
def r202_2:=X q202 2
def r202_3:=X q202 3
def r202_4:=X q202 4
def r202_5:=X q202 5
def r202_6:=X q202 6
def r202_7:=X q202 7
def l202_0:CC:=(.seq (.seq (rN r202_5) (.cond (.t 18) .skip (.exit 0))) (.seq (.block 1 (rN r202_6)) (rN r202_7)))
def r202_8:=X q202 8
def c202:CC:=(.seq (rN r202_0) (.seq (.seq (rN r202_1) (.cond (.t 13) (.seq (rN r202_2) .ret) .skip)) (.seq (rN r202_3) (.seq (.seq (rN r202_4) (.block 0 (.loop l202_0))) (.seq (rN r202_8) .ret)))))
theorem o202:FnI 202 25 Tryz.f202 c202 [.cell 4 40,.tmp 5]:=oM Tryz.func202
end
open Go.Limb
def RowC:List Int->List AV->Prop
 | [],[]=>True
 |z::r,u::v::cs=>zag z (.agg [u,v])/\RowC r cs
 |_,_=>False
theorem zcp:∀{r:List Int} {cs:List AV},RowC r cs->cs.length=r.length*2
 | [],[],_=>rfl
 |_::_,_::_::_,h=>by have:=zcp h.2;simp[this];omega
 | [],_::_,h=>h.elim
 |_::_,[],h=>h.elim
 |_::_,[_],h=>h.elim
theorem zev:∀{r:List Int} {cs:List AV},RowC r cs->∀j,j<r.length->∃u v,(cs.drop (j*2)).take 2=[u,v]/\zag (r.getD j 0) (.agg [u,v])
 | [],[],_,j,hj=>absurd hj (by simp)
 |z::r,u::v::cs,h,0,_=>⟨u,v,rfl,h.1⟩
 |z::r,u::v::cs,h,j+1,hj=>by
  obtain⟨a,b,h1,h2⟩:=zev h.2 j (by simpa using hj);refine⟨a,b,?_,by simpa using h2⟩;rw[show(j+1)*2=j*2+2 by omega];exact h1
 | [],_::_,h,_,_=>h.elim
 |_::_,[],h,_,_=>h.elim
 |_::_,[_],h,_,_=>h.elim
theorem ztj:∀{r:List Int} {cs:List AV},RowC r cs->∀j z u v,j<r.length->zag z (.agg [u,v])->RowC (r.set j z) (setL cs (j*2) [u,v])
 | [],[],_,j,_,_,_,hj,_=>absurd hj (by simp)
 |z::r,u::v::cs,h,0,y,a,b,_,hy=>⟨hy,h.2⟩
 |z::r,u::v::cs,h,j+1,y,a,b,hj,hy=>by
  have:=ztj h.2 j y a b (by simpa using hj) hy;rw[show(j+1)*2=j*2+2 by omega];exact⟨h.1,this⟩
 | [],_::_,h,_,_,_,_,_,_=>h.elim
 |_::_,[],h,_,_,_,_,_,_=>h.elim
 |_::_,[_],h,_,_,_,_,_,_=>h.elim
theorem zkj:∀{r:List Int} {cs:List AV},RowC r cs->∀z u v,zag z (.agg [u,v])->RowC (r++[z]) (cs++[u,v])
 | [],[],_,z,u,v,h=>⟨h,trivial⟩
 |_::_,_::_::_,h,z,u,v,hz=>⟨h.1,zkj h.2 z u v hz⟩
 | [],_::_,h,_,_,_,_=>h.elim
 |_::_,[],h,_,_,_,_=>h.elim
 |_::_,[_],h,_,_,_,_=>h.elim
theorem qbu:∀{r:List Int} {cs:List AV},RowC r cs->∀m d H,cs.mapM (frzI m H (d+1))=some cs:=by
 intro r cs h m d H;refine znh (λa ha=>?_)
 induction r generalizing cs with
 |nil=>
  cases cs with
  |nil=>simp at ha
  |cons _ _=>exact h.elim
 |cons z r ih=>
  match cs,h with
  |u::v::cs,h=>
   obtain⟨⟨l,c,_,_,_,e⟩,h2⟩:=h;injection e with e
   injection e with e1 e2
   injection e2 with e2 _
   rcases List.mem_cons.1 ha with h | h
   ·rw[h,e1];rfl
   ·rcases List.mem_cons.1 h with h | h
    ·rw[h,e2];rfl
    ·exact ih h2 h
theorem zzp:∀{r:List Int} {cs:List AV},RowC r cs->qW cs=true:=by
 intro r
 induction r with
 |nil=>
  intro cs h;cases cs with
  |nil=>rfl
  |cons _ _=>exact h.elim
 |cons z r ih=>
  intro cs h
  match cs,h with
  |u::v::cs,h=>
   obtain⟨⟨l,c,_,_,_,e⟩,h2⟩:=h;injection e with e
   injection e with e1 e2
   injection e2 with e2 _
   rw[e1,e2]
   show qW cs=true
   exact ih h2
theorem zhy:∀{r:List Int} {cs:List AV},RowC r cs->AV.scalL cs=true:=by
 intro r
 induction r with
 |nil=>
  intro cs h;cases cs with
  |nil=>rfl
  |cons _ _=>exact h.elim
 |cons z r ih=>
  intro cs h
  match cs,h with
  |u::v::cs,h=>
   obtain⟨⟨l,c,_,_,_,e⟩,h2⟩:=h;injection e with e
   injection e with e1 e2
   injection e2 with e2 _
   rw[e1,e2]
   show AV.scalL cs=true
   exact ih h2
def zfu(r:List Int)(a:AV):Prop:= ∃cs c,a= .vec cs r.length c/\RowC r cs
def MatV(M:List (List Int))(a:AV):Prop:= ∃rows c,a= .vec rows M.length c/\rows.length=M.length/\∀i,i<M.length->zfu (M.getD i []) (rows.getD i .junk)
def ztk(M:List (List Int)):Prop:=1<=M.length/\M.length<=16/\∀i,i<M.length->1<=(M.getD i []).length/\(M.getD i []).length<=16/\(M.getD i []).length=(M.getD 0 []).length
theorem zwe{M:List (List Int)}{a:AV}(h:MatV M a)(hs:ztk M):Rt 132 [a] [] (.tup [.int .i64 (M.length:Nat),.int .i64 ((M.getD 0 []).length:Nat),.bool true]) []:=by
 obtain⟨rows,c,rfl,hl,hr⟩:=h;obtain⟨h1,h2,h3⟩:=hs;have d1:decide ((M.length:Int)<1)=false:=dF;have d2:decide ((16:Int)<(M.length:Nat))=false:=dF;obtain⟨cs0,c0,e0,r0⟩:=hr 0 (by omega);refine oF o132 ?_;simp only[c132,r132_0,r132_1,SS,fC,reduceCtorEq,reduceIte,qQ,d1,d2];simp only[r132_3,SS,reduceCtorEq,reduceIte,qQ];refine zaf (λk E H=>∃i,i+k=M.length/\E 0= .vec rows M.length c/\E 15= .vec rows M.length c/\E 16= .int .i64 (M.length:Nat)/\E 17= .int .i64 (i:Nat)/\H=[]) (n:=M.length) ⟨0,by omega,by simp only[UU,qQ],by simp only[UU,qQ,reduceIte],by simp only[UU,qQ,reduceIte],by simp only[UU,qQ,reduceIte];rfl,rfl⟩ ?_;rintro k E H ⟨i,hik,h0,h15,h16,h17,rfl⟩;refine wM ?_;simp only[l132_0,r132_4,SS,reduceCtorEq,reduceIte,h16,h17];refine⟨λhlt=>?_,λhge=>?_⟩
 ·obtain⟨k,rfl⟩:∃k',k=k'+1:=⟨k-1,by omega⟩
  obtain⟨csi,ci,ei,ri⟩:=hr i (by omega);obtain⟨g1,g2,g3⟩:=h3 i (by omega);have d3:decide (((M.getD i []).length:Int)<1)=false:=dF;have d4:decide ((16:Int)<((M.getD i []).length:Nat))=false:=dF;have d5:decide (((M.getD i []).length:Int)≠((M.getD 0 []).length:Nat))=false:=dF;have w5:=wS1 i (by omega);simp only[r132_5,r132_6,r132_8,SS,fC,reduceCtorEq,reduceIte,qQ,h0,h15,h17,qV,Int.toNat_zero,ei,e0,hl,d3,d4,d5,w5];refine⟨⟨by omega,by omega⟩,by omega,⟨by omega,by omega⟩,by omega,?_⟩;refine⟨k,_,_,by omega,⟨i+1,by omega,?_,?_,?_,?_,rfl⟩,.refl⟩<;>simp only[UU,qQ,reduceIte, *]
 ·simp only[r132_9,SS,fC,reduceCtorEq,reduceIte,qQ,h0,Int.toNat_zero,e0,hl];refine⟨⟨by omega,by omega⟩,by omega,rfl,?_⟩;exact dR
theorem zca{H X:Heap}{i:Nat}(h:i<H.length):getB (H++X) i=getB H i:=by
 unfold getB;rw[qS h]
theorem zwf{H:Heap}{cs:List AV}{X:Heap}:getB (H++some cs::X) H.length=some cs:=by
 unfold getB;rw[qE (qB _)];simp
theorem zah{H:Heap}{i j:Nat}{x:Option (List AV)}(h:i≠j):getB (H.set i x) j=getB H j:=by
 unfold getB;rw[xP h]
theorem zbd{H:Heap}{i:Nat}{cs:List AV}(h:i<H.length):getB (H.set i (some cs)) i=some cs:=by
 unfold getB;rw[xJ h]
theorem zal{H:Heap}{i:Nat}{cs:List AV}(h:getB H i=some cs):i<H.length:=zht h
def zck(n:Nat)(p:Nat×Option Nat):AV:= .sl p.1 0 n 2 p.2
structure MatH(H:Heap)(o:Nat)(ps:List (Nat×Option Nat))(n:Nat)(M:List (List Int)):Prop where
 outer:getB H o=some (ps.map (zck n))
 len:ps.length=M.length
 cols:∀i,i<M.length->(M.getD i []).length=n
 rows:∀i,i<M.length->∃cs,getB H (ps.getD i (0,none)).1=some cs/\RowC (M.getD i []) cs
 nodup:(o::ps.map (·.1)).Nodup
def zzq(H:Heap)(r:List Int)(a:AV)(bad:List Nat):Prop:=
 (r=[]/\a= .vec [] 0 (some 0))\/(r≠[]/\∃id cs,a= .sl id 0 r.length 2 none/\getB H id=some cs/\RowC r cs/\id∉bad)
theorem qya{H:Heap}{r:List Int}{a:AV}{bad:List Nat}{z:Int}{u v:AV}{t fr n0:Nat}(h:zzq H r a bad)(hz:zag z (.agg [u,v]))(ht:getB H t=some [u,v])(hr:r.length<1100)(hfr:fr∉bad)(hfr2:H.length=fr):
  ∃e rd cs,zby n0 fr H 2 32 a (.sl t 0 1 2 (some 1))=some (.sl fr 0 (r.length+1) 2 none,e,rd)/\RowC (r++[z]) cs/\getB (zad e (H++[none])) fr=some cs/\(zad e (H++[none])).length=H.length+1/\
   (∀i∈bad,i<H.length->getB (zad e (H++[none])) i=getB H i)/\(∀i∈keys e,i=fr\/∃n c,a= .sl i 0 n 2 c)/\(∀i∈rd,i=t\/∃n c,a= .sl i 0 n 2 c):=by
 have hs:AV.scalL [u,v]=true:=zhy (r:=[z]) (cs:=[u,v]) ⟨hz,trivial⟩
 have hel:zdr H 2 1 (.sl t 0 1 2 (some 1))=some ([u,v],[t]):=by
  simp[zdr,ht,need]
 rcases h with⟨rfl,rfl⟩ | ⟨hne,id,cs,rfl,hg,hc,hb⟩
 ·refine⟨[(fr,some [u,v])],[t],[u,v],?_,⟨hz,trivial⟩,?_,?_,?_,?_,?_⟩
  ·simp only[zby,lenA,qT,hel];simp[need]
  ·simp only[zad];rw[qR _ _ (by omega),<-hfr2,xY];exact zwf
  ·simp[zad]
  ·intro i hi hlt;simp only[zad];rw[zah (by intro e;exact hfr (e ▸ hi)),zca hlt]
  ·intro i hi;simp[keys]at hi;exact .inl hi
  ·intro i hi;simp at hi;exact .inl hi
 ·have hlt:=zal hg;have hl:=zcp hc;refine⟨[(id,none),(fr,some (cs++[u,v]))],[id,t],cs++[u,v],?_,zkj hc z u v hz,?_,?_,?_,?_,?_⟩
  ·have e1:¬((none:Option Nat)=some r.length):=by simp
   have e2:id≠fr:=by omega
   have b1:4*(r.length+1)*32<=2^48:=by
    have:(2:Nat)^48=281474976710656:=rfl;omega
   have b2:r.length+1<2^62:=by
    have:(2:Nat)^62=4611686018427387904:=rfl;omega
   simp only[zby,lenA,qT,hel,hg,need,xL,if_false,true_and,hl,qB,b1,b2,and_self,if_true,e1,xC,hs,e2,ne_eq,not_false_eq_true];rw[qY (by omega)]
  ·simp only[zad];rw[zbd (by simp;omega)]
  ·simp[zad]
  ·intro i hi hlt2;simp only[zad];rw[zah (by intro e;exact hfr (e ▸ hi)),zah (by intro e;exact hb (e ▸ hi)),zca hlt2]
  ·intro i hi;simp[keys]at hi;rcases hi with h | h
   ·exact .inr ⟨_,_,by rw[h]⟩
   ·exact .inl h
  ·intro i hi;simp at hi;rcases hi with h | h
   ·exact .inr ⟨_,_,by rw[h]⟩
   ·exact .inl h
theorem ziw{α:Type}{H:List α}{x y:α}:(H++[x]).set H.length y=H++[y]:=by
 rw[qR _ _ (qB _),xY];rfl
theorem zbr{H:Heap}{cs:List AV}:getB (H++[some cs]) H.length=some cs:=zwf
def ztl(i:Nat)(st:Heap×AV)(p:List AV×List AV):Heap×AV:=
 match zby 0 (st.1.length+1+1) (st.1++[some p.1]++[some p.2]) 2 32 st.2 (.sl (st.1.length+1) 0 1 2 (some 1))with
 |some (v,e,_)=>((zad e (st.1++[some p.1]++[some p.2]++[none])).set 0 (some (((getB (zad e (st.1++[some p.1]++[some p.2]++[none])) 0).getD []).set i v)),v)
 |none=>st
structure CpOK(i:Nat)(oc:List AV)(ids:List Nat)(H0:Heap)(r:List Int)(st:Heap×AV):Prop where
 part:zzq st.1 r st.2 (0::ids)
 outer:getB st.1 0=some (oc.set i st.2)
 keep:∀id∈ids,getB st.1 id=getB H0 id
 len:H0.length<=st.1.length
theorem qbv{i:Nat}{oc:List AV}{ids:List Nat}{H0:Heap}{r:List Int}{st:Heap×AV}{x:List AV}{u v:AV}{z:Int}(hids:∀id∈ids,id<H0.length/\id≠0)(h:CpOK i oc ids H0 r st)(hi:i<oc.length)(hz:zag z (.agg [u,v]))(hr:r.length<1100):
  CpOK i oc ids H0 (r++[z]) (ztl i st (x,[u,v]))/\∃e rd,zby 0 (st.1.length+1+1) (st.1++[some x]++[some [u,v]]) 2 32 st.2 (.sl (st.1.length+1) 0 1 2 (some 1))=some ((ztl i st (x,[u,v])).2,e,rd)/\
   getB (zad e (st.1++[some x]++[some [u,v]]++[none])) 0=some (oc.set i st.2)/\(ztl i st (x,[u,v])).1=(zad e (st.1++[some x]++[some [u,v]]++[none])).set 0 (some (oc.set i (ztl i st (x,[u,v])).2))/\∃id n,(ztl i st (x,[u,v])).2= .sl id 0 n 2 none:=by
 obtain⟨hp,hg,hkeep,hlen⟩:=h;have h0lt:0<st.1.length:=zal hg;have hl2:(st.1++[some x]++[some [u,v]]).length=st.1.length+1+1:=by simp
 have hk2:∀y,y<st.1.length->getB (st.1++[some x]++[some [u,v]]) y=getB st.1 y:=by
  intro y hy;rw[xD,zca hy]
 have hp2:zzq (st.1++[some x]++[some [u,v]]) r st.2 (0::ids):=by
  rcases hp with⟨h1,h2⟩ | ⟨h1,id,cs',h2,h3,h4,h5⟩
  ·exact .inl ⟨h1,h2⟩
  ·exact .inr ⟨h1,id,cs',h2,by rw[hk2 _ (zal h3)];exact h3,h4,h5⟩
 have ht2:getB (st.1++[some x]++[some [u,v]]) (st.1.length+1)=some [u,v]:=by
  have:st.1.length+1=(st.1++[some x]).length:=by simp
  rw[this];exact zbr
 have hfb:st.1.length+1+1∉0::ids:=by
  intro hm;rcases List.mem_cons.1 hm with h | h
  ·omega
  ·have:=(hids _ h).1;omega
 obtain⟨e,rd,cs',hap,hrow,hfr,hl3,hsame,hke,hrd⟩:=qya (n0:=0) (fr:=st.1.length+1+1) hp2 hz ht2 hr hfb hl2
 have g3:getB (zad e (st.1++[some x]++[some [u,v]]++[none])) 0=some (oc.set i st.2):=by
  rw[hsame 0 (by simp) (by omega),hk2 0 h0lt];exact hg
 have hc:ztl i st (x,[u,v])=((zad e (st.1++[some x]++[some [u,v]]++[none])).set 0 (some (oc.set i (.sl (st.1.length+1+1) 0 (r.length+1) 2 none))),.sl (st.1.length+1+1) 0 (r.length+1) 2 none):=by
  unfold ztl;rw[hap];simp only[g3,Option.getD_some,xT]
 rw[hc];refine⟨⟨.inr ⟨by simp,_,cs',by simp,?_,hrow,hfb⟩,?_,?_,?_⟩,e,rd,hap,g3,rfl,_,_,rfl⟩
 ·show getB (List.set _ 0 _) _=_
  rw[zah (by omega)];exact hfr
 ·show getB (List.set _ 0 _) _=_
  rw[zbd (by omega)]
 ·intro id hid
  show getB (List.set _ 0 _) _=_
  have:=hids id hid;rw[zah (by omega),hsame id (by simp[hid]) (by omega),hk2 id (by omega)];exact hkeep id hid
 ·show _<=(List.set _ 0 _).length
  rw[xX];omega
def ztm:List Int->List AV->List (List AV×List AV)->Prop
 | [],[],[]=>True
 |z::r,a::b::cs,(x,y)::l=>x=[a,b]/\(∃u v,y=[u,v]/\zag z (.agg [u,v]))/\zag z (.agg [a,b])/\Rt 122 [.agg x] [] (.agg y) []/\ztm r cs l
 |_,_,_=>False
theorem qre:∀{r:List Int} {cs:List AV},RowC r cs->∃l,ztm r cs l:=by
 intro r
 induction r with
 |nil=>
  intro cs h;cases cs with
  |nil=>exact⟨[],trivial⟩
  |cons _ _=>exact h.elim
 |cons z r ih=>
  intro cs h
  match cs,h with
  |a::b::cs,h=>
   obtain⟨l,hl⟩:=ih h.2;obtain⟨w,hw,t⟩:=zlw h.1;have hw0:=hw;obtain⟨lw,cw,_,_,_,rfl⟩:=hw0;exact⟨([a,b],_)::l,rfl,⟨_,_,rfl,hw⟩,h.1,t,hl⟩
theorem zoy:∀{r:List Int} {cs:List AV} {l:List (List AV×List AV)},ztm r cs l->l.length=r.length
 | [],[],[],_=>rfl
 |_::_,_::_::_,(_,_)::_,h=>by have:=zoy h.2.2.2.2;simp[this]
 | [],[],_::_,h=>h.elim
 | [],_::_,_,h=>by cases ‹List (List AV×List AV)› <;> exact h.elim
 |_::_,[],_,h=>by cases ‹List (List AV×List AV)› <;> exact h.elim
 |_::_,[_],_,h=>by cases ‹List (List AV×List AV)› <;> exact h.elim
 |_::_,_::_::_,[],h=>h.elim
theorem zwg:∀{r:List Int} {cs:List AV} {l:List (List AV×List AV)},ztm r cs l->∀j,j<r.length->∃a b u v,(cs.drop (j*2)).take 2=[a,b]/\l[j]?=some ([a,b],[u,v])/\zag (r.getD j 0) (.agg [a,b])/\zag (r.getD j 0) (.agg [u,v])/\
  Rt 122 [.agg [a,b]] [] (.agg [u,v]) []:=by
 intro r
 induction r with
 |nil=>intro cs l _ j hj;exact absurd hj (by simp)
 |cons z r ih=>
  intro cs l h j hj
  match cs,l,h with
  |a::b::cs,(x,y)::l,h=>
   obtain⟨rfl,⟨u,v,rfl,hu⟩,ha,t,hl⟩:=h;cases j with
   |zero=>exact⟨a,b,u,v,rfl,rfl,ha,hu,t⟩
   |succ j=>
    obtain⟨a',b',u',v',h1,h2,h3,h4,h5⟩:=ih hl j (by simpa using hj);refine⟨a',b',u',v',?_,by simpa using h2,by simpa using h3,by simpa using h4,h5⟩;rw[show(j+1)*2=j*2+2 by omega];exact h1
def zqp(i:Nat)(st:Heap×AV)(l:List (List AV×List AV)):Heap×AV:=l.foldl (ztl i) st
theorem zrg{α β:Type}(f:β->α->β)(b:β)(l:List α)(j:Nat)(x:α)(h:l[j]?=some x):(l.take (j+1)).foldl f b=f ((l.take j).foldl f b) x:=by
 rw[xK,h];simp
theorem qbw{i:Nat}{oc:List AV}{ids:List Nat}{H0:Heap}{r:List Int}{cs:List AV}{l:List (List AV×List AV)}(hids:∀id∈ids,id<H0.length/\id≠0)(h00:getB H0 0=some oc)(hi:i<oc.length)(hoci:oc.getD i .junk= .vec [] 0 (some 0))
  (hp:ztm r cs l) (hr:r.length<1100):∀j,j<=r.length->CpOK i oc ids H0 (r.take j) (zqp i (H0,.vec [] 0 (some 0)) (l.take j)):=by
 intro j
 induction j with
 |zero=>
  intro _;refine⟨.inl ⟨rfl,rfl⟩,?_,λ_ _=>rfl,qB _⟩
  show getB H0 0=some (oc.set i (.vec [] 0 (some 0)))
  rw[h00]
  have:oc.set i (.vec [] 0 (some 0))=oc:=by
   rw[<-hoci,qX,qK hi];simp
  rw[this]
 |succ j ih=>
  intro hj;obtain⟨a,b,u,v,_,h2,_,h4,_⟩:=zwg hp j (by omega);have:=(qbv (x:=[a,b]) hids (ih (by omega)) hi h4 (by rw[xG];omega)).1;unfold zqp at this ⊢;rw[zrg _ _ _ _ _ h2]
  have htk:r.take j++[r.getD j 0]=r.take (j+1):=by
   rw[xK,qX,qK (by omega)];rfl
  rw[htk]at this;exact this
theorem qrf{r:List Int}{cs:List AV}{c:Option Nat}{l:List (List AV×List AV)}(hpr:ztm r cs l)(hr:RowC r cs)(hn:r.length<=16){arg:AV}{i N:Nat}{oc:List AV}(hoc:oc.length=N)(hi:i<N)(hN:N<=16){ids:List Nat}{H0:Heap}(h00:getB H0 0=some oc)
  (hoci:oc.getD i .junk= .vec [] 0 (some 0)) (hids:∀id∈ids,id<H0.length/\id≠0) {v10:AV} {E:Env} {Q:Post} (e0:E 0=arg) (e3:E 3= .sl 0 0 N 1 (some N)) (e4:E 4= .int .i64 (i:Nat)) (e10:E 10=v10) (e11:E 11= .int .i64 (N:Nat))
  (e12:E 12= .int .i64 (i:Nat)) (e18:E 18= .vec cs r.length c) (e19:E 19= .int .i64 (r.length:Nat)) (e20:E 20= .int .i64 0)
  (hQ:∀E',E' 0=arg->E' 3= .sl 0 0 N 1 (some N)->E' 10=v10->E' 11= .int .i64 (N:Nat)->E' 12= .int .i64 (i:Nat)->Q (.exit 2) E' (zqp i (H0,.vec [] 0 (some 0)) l).1):
  Wg 0 38 (.loop l58_1) E H0 Q:=by
 have hall:=qbw hids h00 (by omega) hoci hpr (by omega)
 refine zaf (λk E H=>∃j,j+k=r.length/\H=(zqp i (H0,.vec [] 0 (some 0)) (l.take j)).1/\E 0=arg/\E 3= .sl 0 0 N 1 (some N)/\E 4= .int .i64 (i:Nat)/\E 10=v10/\
  E 11= .int .i64 (N:Nat)/\E 12= .int .i64 (i:Nat)/\E 18= .vec cs r.length c/\E 19= .int .i64 (r.length:Nat)/\E 20= .int .i64 (j:Nat)) (n:=r.length) ⟨0,by omega,rfl,e0,e3,e4,e10,e11,e12,e18,e19,e20⟩ ?_
 rintro k E H ⟨j,hjk,hH,e0,e3,e4,e10,e11,e12,e18,e19,e20⟩;refine wM ?_;simp only[l58_1,r58_6,SS,reduceIte,e19,e20];refine⟨λhlt=>?_,λhge=>?_⟩
 ·obtain⟨k,rfl⟩:∃k',k=k'+1:=⟨k-1,by omega⟩
  obtain⟨u,v,x,y,hu,hl,hz,hw,tn⟩:=zwg hpr j (by omega);have hok:=hall j (by omega);obtain⟨hok2,e,rd,hap,g3,hH4,idn,nn,hv2⟩:=qbv (x:=[u,v]) hids hok (by omega) hw (by rw[xG];omega);have hnext:zqp i (H0,.vec [] 0 (some 0)) (l.take (j+1))=ztl i (zqp i (H0,.vec [] 0 (some 0)) (l.take j)) ([u,v],[x,y]):=zrg _ _ _ _ _ hl;generalize zqp i (H0,.vec [] 0 (some 0)) (l.take j)=st at*;subst hH;obtain⟨hp,hg,hkeep,hlen⟩:=hok;have hscz:AV.scalL [u,v]=true:=zhy (r:=[r.getD j 0]) (cs:=[u,v]) ⟨hz,trivial⟩;obtain⟨lz,cz,_,_,_,ez⟩:=hz;injection ez with ez
  injection ez with ez1 ez2
  injection ez2 with ez2 _
  obtain⟨lw,cw,_,_,_,ew⟩:=hw;injection ew with ew
  injection ew with ew1 ew2
  injection ew2 with ew2 _
  subst ez1 ez2 ew1 ew2;have hcl:=zcp hr;have h0lt:0<st.1.length:=zal hg;have w5:=wS1 j (by omega);simp only[r58_7,SS,reduceIte,qJ,qQ,qZ,e18,e20,qV,hcl,hu,zbr,ziw];refine⟨⟨by omega,by omega⟩,by omega,?_⟩;have g0:getB (st.1++[some [AV.bool (decide (r.getD j 0<0)),AV.vec (u32s lz) lz.length cz]]) 0=some (oc.set i st.2):=by rw[zca h0lt];exact hg
  have ga:(oc.set i st.2).getD i AV.junk=st.2:=by
   rw[qX,xJ (by omega)];rfl
  simp only[r58_8,SS,fC,reduceIte,qJ,qQ,qZ,e3,e4,qV,g0,ga,xX,hoc,zbr];refine⟨⟨by omega,by omega⟩,by omega,?_⟩;refine zaa tn ?_;simp only[SS,reduceIte,qJ,qQ,qZ,zdi];rw[hap];simp only[SS,g3,qV,xX,hoc,hv2];refine⟨⟨by omega,by omega⟩,by omega,by simp[dynB,zvn],?_⟩;simp only[r58_9,SS,reduceIte,qQ,e20,w5];refine⟨k,_,_,by omega,⟨j+1,by omega,?_,?_,?_,?_,?_,?_,?_,?_,?_,?_⟩,.refl⟩
  ·rw[hnext,hH4,hv2,xT]
  all_goals simp only[UU,qQ,reduceIte, *]
 ·have hk:j=r.length:=by omega
  subst hk;have hl:=zoy hpr;rw[qY (by omega)]at hH;rw[hH];exact hQ _ (by simp only[UU,qQ, *]) (by simp only[UU,qQ, *]) (by simp only[UU,qQ, *]) (by simp only[UU,qQ, *]) (by simp only[UU,qQ, *])
abbrev nilV:AV:= .vec [] 0 (some 0)
def cpM(N:Nat)(ls:List (List (List AV×List AV))):Nat->Heap
 |0=>[some (List.replicate N nilV)]
 |i+1=>(zqp i (cpM N ls i,nilV) (ls.getD i [])).1
structure CpM(N n:Nat)(M:List (List Int))(H:Heap)(i:Nat)(ps:List (Nat×Option Nat)):Prop where
 len:ps.length=i
 outer:getB H 0=some (ps.map (zck n)++List.replicate (N-i) nilV)
 rows:∀i',i'<i->∃cs,getB H (ps.getD i' (0,none)).1=some cs/\RowC (M.getD i' []) cs
 nodup:(0::ps.map (·.1)).Nodup
 lt:∀p∈ps,p.1<H.length
theorem quu{N n i:Nat}{ps:List (Nat×Option Nat)}(hl:ps.length=i)(hi:i<N):(ps.map (zck n)++List.replicate (N-i) nilV).getD i .junk=nilV:=by
 rw[qX,qE (by simp;omega),List.getElem?_replicate,if_pos (by simp;omega)];rfl
theorem qkg{N n i:Nat}{M:List (List Int)}{H:Heap}{ps:List (Nat×Option Nat)}(h:CpM N n M H i ps):∀id∈ps.map (·.1),id<H.length/\id≠0:=by
 intro id hid;have hn:=h.nodup;rw[qA]at hn;refine⟨?_,λe=>hn.1 (e ▸ hid)⟩;obtain⟨p,hp,rfl⟩:=List.mem_map.1 hid;exact h.lt p hp
theorem jcp{N n:Nat}{M:List (List Int)}{cf:Nat->List AV}{ls:List (List (List AV×List AV))}(hn:1<=n/\n<=16)(hc:∀i,i<N->(M.getD i []).length=n)(hls:∀i,i<N->ztm (M.getD i []) (cf i) (ls.getD i [])):
  ∀i,i<=N->∃ps,CpM N n M (cpM N ls i) i ps:=by
 intro i
 induction i with
 |zero=>
  intro _;refine⟨[],rfl,?_,λ_ h=>absurd h (by omega),by simp,by simp⟩;simp[cpM,getB]
 |succ i ih=>
  intro hi;obtain⟨ps,h⟩:=ih (by omega);have hri:=hc i (by omega);have hok:=qbw (qkg h) h.outer (by simp[h.len];omega) (quu h.len (by omega)) (hls i (by omega)) (by omega) (M.getD i []).length (qB _);rw[xQ,qY (by rw[zoy (hls i (by omega))];omega)]at hok;obtain⟨hp,hg,hkeep,hlen⟩:=hok;rcases hp with⟨h1,_⟩ | ⟨_,id,cs,hid,hb,hrow,hnm⟩
  ·rw[h1]at hri;simp at hri;omega
  ·rw[hri]at hid;have hnm2:id≠0/\id∉ps.map (·.1):=⟨λe=>hnm (by simp[e]),λhm=>hnm (by simp only[qN];exact .inr hm)⟩
   refine⟨ps++[(id,none)],by simp[h.len],?_,?_,?_,?_⟩
   ·show getB (zqp i (cpM N ls i,nilV) (ls.getD i [])).1 0=_
    rw[hg,hid]
    have e:List.replicate (N-i) nilV=nilV::List.replicate (N-(i+1)) nilV:=by
     rw[<-xS];congr 1;omega
    rw[e,qR _ _ (by simp[h.len])];simp[h.len,zck]
   ·intro i' hi';show∃cs,getB (zqp i (cpM N ls i,nilV) (ls.getD i [])).1 _=some cs/\_
    rcases xU i' i with hlt | hge
    ·obtain⟨cs',h1,h2⟩:=h.rows i' hlt;refine⟨cs',?_,h2⟩
     have e:(ps++[(id,none)]).getD i' (0,none)=ps.getD i' (0,none):=by
      rw[qX,qS (by rw[h.len];exact hlt),qX]
     rw[e,hkeep _ (by
      rw[qX,qK (by rw[h.len];exact hlt)];exact List.mem_map.2 ⟨_,qO _,rfl⟩)]
     exact h1
    ·have e:i'=i:=by omega
     subst e;refine⟨cs,?_,hrow⟩
     have e:(ps++[(id,(none:Option Nat))]).getD i' (0,none)=(id,none):=by
      rw[qX,qE (by rw[h.len];exact qB _),h.len,xY];rfl
     rw[e];exact hb
   ·rw[xV];have hn0:=h.nodup;rw[qA]at hn0 ⊢;refine⟨?_,?_⟩
    ·intro hm;rcases List.mem_append.1 hm with hm | hm
     ·exact hn0.1 hm
     ·simp at hm;exact hnm2.1 hm.symm
    ·rw[List.nodup_append];refine⟨hn0.2,by simp,?_⟩;intro x hx y hy;simp at hy;subst hy;intro e;exact hnm2.2 (e ▸ hx)
   ·intro p hp;rcases List.mem_append.1 hp with hp | hp
    ·have:=h.lt p hp;exact qP this hlen
    ·simp at hp;subst hp;exact zal hb
theorem jcq{M:List (List Int)}{a:AV}{n:Nat}(h:MatV M a)(hn:1<=n/\n<=16)(hN:M.length<=16)(hc:∀i,i<M.length->(M.getD i []).length=n):
  ∃ps H',MatH H' 0 ps n M/\Rt 58 [a] [] (.sl 0 0 M.length 1 (some M.length)) H':=by
 obtain⟨rows,c,rfl,hl,hr⟩:=h
 have hex:∀i,i<M.length->∃l cs c,rows.getD i .junk= .vec cs (M.getD i []).length c/\RowC (M.getD i []) cs/\ztm (M.getD i []) cs l:=by
  intro i hi;obtain⟨cs,c,h1,h2⟩:=hr i hi;obtain⟨l,hl⟩:=qre h2;exact⟨l,cs,c,h1,h2,hl⟩
 have hch:∃(ls:List (List (List AV×List AV))) (cf:Nat->List AV),∀i,i<M.length->(∃c,rows.getD i .junk= .vec (cf i) (M.getD i []).length c)/\RowC (M.getD i []) (cf i)/\ztm (M.getD i []) (cf i) (ls.getD i []):=by
  refine⟨(List.range M.length).map λi=>if h:i<M.length then Classical.choose (hex i h)else[],λi=>if h:i<M.length then Classical.choose (Classical.choose_spec (hex i h))else[],λi hi=>?_⟩;obtain⟨c,h1,h2,h3⟩:=Classical.choose_spec (Classical.choose_spec (hex i hi))
  have e:((List.range M.length).map λi=>if h:i<M.length then Classical.choose (hex i h)else[]).getD i []=Classical.choose (hex i hi):=by
   rw[qX,qG,List.getElem?_range hi];simp[hi]
  rw[e];simp only[hi,dif_pos];exact⟨⟨c,h1⟩,h2,h3⟩
 obtain⟨ls,cf,hls⟩:=hch;have hall:=jcp (N:=M.length) (cf:=cf) hn hc (λi hi=>(hls i hi).2.2);obtain⟨ps,hps⟩:=hall M.length (qB _);refine⟨ps,cpM M.length ls M.length,⟨?_,hps.len,hc,hps.rows,hps.nodup⟩,?_⟩
 ·have:=hps.outer;rw[xY,xR,yX]at this;exact this
 refine oF o58 ?_;simp only[c58,r58_0,r58_1,SS,reduceCtorEq,reduceIte,qQ,qV];refine⟨by omega,⟨by omega,by omega,by omega,by omega⟩,?_⟩;simp only[r58_2,SS,reduceCtorEq,reduceIte,qQ];refine zaf (λk E H=>∃i,i+k=M.length/\H=cpM M.length ls i/\E 0= .vec rows M.length c/\E 3= .sl 0 0 M.length 1 (some M.length)/\E 10= .vec rows M.length c/\E 11= .int .i64 (M.length:Nat)/\E 12= .int .i64 (i:Nat)) (n:=M.length) ⟨0,by omega,rfl,?_,?_,?_,?_,?_⟩ ?_
 ·simp only[UU,qQ]
 ·simp only[UU,qQ,reduceIte]
 ·simp only[UU,qQ,reduceIte]
 ·simp only[UU,qQ,reduceIte]
 ·simp only[UU,qQ,reduceIte];rfl
 rintro k E H ⟨i,hik,rfl,e0,e3,e10,e11,e12⟩;refine wM ?_;simp only[l58_0,r58_3,SS,reduceCtorEq,reduceIte,e11,e12];refine⟨λhlt=>?_,λhge=>?_⟩
 ·obtain⟨k,rfl⟩:∃k',k=k'+1:=⟨k-1,by omega⟩
  obtain⟨⟨ci,hci⟩,hrow,hpi⟩:=hls i (by omega);obtain⟨qs,hqs⟩:=hall i (by omega);have w5:=wS1 i (by omega);simp only[r58_4,r58_5,SS,fC,reduceCtorEq,reduceIte,qQ,e0,e12,qV,hci,hl];refine⟨⟨by omega,by omega⟩,by omega,?_⟩;refine qrf (c:=ci) hpi hrow (by rw[hc i (by omega)];omega) (N:=M.length) (i:=i) (by simp[hqs.len];omega) (by omega) hN hqs.outer (quu hqs.len (by omega)) (qkg hqs) (v10:= .vec rows M.length c) (arg:= .vec rows M.length c) ?_ ?_ ?_ ?_ ?_ ?_ ?_ ?_ ?_ (λE1 f0 f3 f10 f11 f12=>?rest)
  case rest=>
   simp only[r58_10,SS,reduceCtorEq,reduceIte,qQ,f12,w5];refine⟨k,_,_,by omega,⟨i+1,by omega,rfl,?_,?_,?_,?_,?_⟩,.refl⟩<;>simp only[UU,qQ,reduceIte, *]
  all_goals simp only[UU,qQ,reduceIte, *]
 ·have hk:i=M.length:=by omega
  subst hk;simp only[r58_11,SS,reduceIte,qQ,e3];exact kR
end Go.Proofs.YtpflahgcdgdkjaaGreatDoor
namespace Go.Proofs.YtpflahgcdgdkjaaGreatDoor
open Nat renaming reduceEqDiff -> qQ, reduceLeDiff -> qZ, reduceAdd -> qJ, le_refl -> qB, lt_of_lt_of_le -> qP, zero_add -> xZ, sub_self -> xY, lt_or_ge -> xU, zero_le -> xC, add_sub_cancel_left -> xH, one_ne_zero -> xL, not_lt_zero -> xM, mul_one -> yQ
open List renaming getD_eq_getElem?_getD -> qX, getElem?_eq_getElem -> qK, take_of_length_le -> qY, nodup_cons -> qA, getElem?_cons_zero -> qD, getElem?_append_right -> qE, getElem?_map -> qG, getElem?_cons_succ -> qH, getElem_map -> qI, length_map -> qM, mem_cons -> qN, getElem_mem -> qO, set_append_right -> qR, getElem?_append_left -> qS, take_length -> xQ, length_set -> xX, getElem?_set_self -> xJ, take_add_one -> xK, drop_zero -> xW, map_append -> xV, length_append -> xA, mem_or_eq_of_mem_set -> xB, append_assoc -> xD, getElem?_set -> xE, map_map -> xI, length_singleton -> xN, getElem?_eq_none -> xO, getElem?_set_ne -> xP, replicate_succ -> xS, set_set -> xT, nil_append -> yZ
open Go.AL.AV.closed renaming closedL -> qW
open Int renaming toNat_natCast -> qV
open Option renaming bind_eq_some_iff -> qU, bind_some -> qT
open Option.some renaming injEq -> qC
open Bool renaming and_self -> qL
open Go Go.AL
def ck(B:Nat)(z:Int):Option Int:=if z.natAbs<B then some z else none
def ent(M:List (List Int))(i j:Nat):Int:=(M.getD i []).getD j 0
def setM(M:List (List Int))(i j:Nat)(z:Int):List (List Int):=M.set i ((M.getD i []).set j z)
def newE(B:Nat)(M:List (List Int))(k i j:Nat)(last:Int):Option Int:=
 if last=0 then none else(ck B last).bind λ_=>(ck B (ent M k k*ent M i j)).bind λp=>(ck B (ent M i k*ent M k j)).bind λq=>(ck B (p-q)).bind λs=>ck B (s/last)
def elJ(B k i:Nat)(last:Int):Nat->Nat->List (List Int)->Option (List (List Int))
 |0,_,M=>some M
 |m+1,j,M=>(newE B M k i j last).bind λz=>elJ B k i last m (j+1) (setM M i j z)
def elI(B n k:Nat)(last:Int):Nat->Nat->List (List Int)->Option (List (List Int))
 |0,_,M=>some M
 |m+1,i,M=>(elJ B k i last (n-(k+1)) (k+1) M).bind λM'=>elI B n k last m (i+1) M'
def piv(M:List (List Int))(k:Nat):Nat->Nat->Nat
 |0,p=>p
 |m+1,p=>if ent M p k=0 then piv M k m (p+1)else p
def zdm(M:List (List Int))(p k:Nat):List (List Int):=(M.set p (M.getD k [])).set k (M.getD p [])
def detG(B n:Nat):Nat->Nat->List (List Int)->Int->Bool->Option Int
 |0,_,_,last,neg=>some (if neg then -last else last)
 |m+1,k,M,last,neg=>if piv M k (n-k) k=n then some 0 else
  (elI B n k last (n-(k+1)) (k+1) (if k<piv M k (n-k) k then zdm M (piv M k (n-k) k) k else M)).bind λM2=>detG B n m (k+1) M2 (ent M2 k k) (if k<piv M k (n-k) k then !neg else neg)
def detO(B:Nat)(M:List (List Int)):Option Int:=detG B M.length M.length 0 M 1 false
theorem zcr{B:Nat}{z y:Int}(h:ck B z=some y):y=z/\z.natAbs<B:=by
 unfold ck at h;split at h
 ·simp at h;exact⟨h.symm,by assumption⟩
 ·simp at h
theorem zwh{B:Nat}{M:List (List Int)}{k i j:Nat}{last z:Int}(h:newE B M k i j last=some z):last≠0/\last.natAbs<B/\(ent M k k*ent M i j).natAbs<B/\(ent M i k*ent M k j).natAbs<B/\(ent M k k*ent M i j-ent M i k*ent M k j).natAbs<B/\
  z=(ent M k k*ent M i j-ent M i k*ent M k j)/last/\z.natAbs<B:=by
 unfold newE at h;split at h
 ·simp at h
 ·rename_i h0;simp only[qU]at h;obtain⟨l,h1,p,h2,q,h3,s,h4,h5⟩:=h;obtain⟨_,k1⟩:=zcr h1;obtain⟨rfl,k2⟩:=zcr h2;obtain⟨rfl,k3⟩:=zcr h3;obtain⟨rfl,k4⟩:=zcr h4;obtain⟨rfl,k5⟩:=zcr h5;exact⟨h0,k1,k2,k3,k4,rfl,k5⟩
theorem zcu(M:List (List Int))(i j:Nat)(z:Int):(setM M i j z).length=M.length:=by simp[setM]
theorem quv{M:List (List Int)}{k:Nat}:∀{m p:Nat},p<=piv M k m p/\piv M k m p<=p+m:=by
 intro m
 induction m with
 |zero=>intro p;simp[piv]
 |succ m ih=>
  intro p;simp only[piv];split
  ·have:=ih (p:=p+1);omega
  ·omega
theorem jcr{M:List (List Int)}{k:Nat}:∀{m p:Nat},piv M k m p<p+m->ent M (piv M k m p) k≠0:=by
 intro m
 induction m with
 |zero=>intro p h;simp only[piv]at h;omega
 |succ m ih=>
  intro p h;simp only[piv]at h ⊢;split
  ·rename_i h0;rw[if_pos h0]at h;exact ih (by omega)
  ·assumption
def selR(M:List (List Int))(i:Nat)(cs:List Nat):List Int:=cs.map λj=>ent M i j
def selM(M:List (List Int))(rs cs:List Nat):List (List Int):=rs.map λi=>selR M i cs
def minK(M:List (List Int))(k:Nat):List (List Int):=selM M (List.range k++[k]) (List.range k++[k])
def zds(B:Nat)(M:List (List Int)):Nat->Option (List Int)
 |0=>some []
 |k+1=>(zds B M k).bind λl=>(detO B (minK M k)).bind λd=>(ck B d).bind λd=>some (l++[d])
def zkk(B:Nat)(M:List (List Int)):Option (List Int):=zds B M M.length
theorem zdg{B:Nat}{M:List (List Int)}:∀{k:Nat} {l:List Int},zds B M k=some l->l.length=k:=by
 intro k
 induction k with
 |zero=>intro l h;simp only[zds,qC]at h;rw[<-h];rfl
 |succ k ih=>
  intro l h;simp only[zds,qU,qC]at h;obtain⟨l0,h1,d,_,d',_,rfl⟩:=h;simp[ih h1]
theorem zoz{B:Nat}{M:List (List Int)}:∀{k m:Nat} {l:List Int},zds B M (k+m)=some l->zds B M k=some (l.take k):=by
 intro k m
 induction m with
 |zero=>intro l h;have:=zdg h;rw[qY (by omega)];exact h
 |succ m ih=>
  intro l h;have h':zds B M ((k+m)+1)=some l:=h;simp only[zds,qU,qC]at h';obtain⟨l0,h1,d,_,d',_,rfl⟩:=h';rw[ih h1,List.take_append_of_le_length (by rw[zdg h1];omega)]
def symB(M:List (List Int)):Bool:=(List.range M.length).all λi=>(List.range i).all λj=>decide (ent M i j=ent M j i)
theorem zpa{M:List (List Int)}:symB M=true↔∀i,i<M.length->∀j,j<i->ent M i j=ent M j i:=by
 unfold symB;simp only[List.all_eq_true,List.mem_range,decide_eq_true_eq]
def defB(M:List (List Int))(ds:List Int):Bool:=symB M && ds.all λd=>decide (0<d)
theorem zrh{B:Nat}{M:List (List Int)}:∀{k:Nat} {l:List Int},zds B M k=some l->∀z∈l,z.natAbs<B:=by
 intro k
 induction k with
 |zero=>intro l h;simp only[zds,qC]at h;rw[<-h];simp
 |succ k ih=>
  intro l h z hz;simp only[zds,qU,qC]at h;obtain⟨l0,h1,d,_,d',hck,rfl⟩:=h;rcases List.mem_append.1 hz with e | e
  ·exact ih h1 z e
  ·simp at e;have:=(zcr hck)
   rw[e,this.1];exact this.2
def valZ(M:List (List Int))(ds:List Int):Int:=if symB M=false then 4 else if defB M ds=false then 5 else 0
def zcq(ds:List Int)(k:Nat):Int:=if k=0 then 1 else ds.getD (k-1) 0
def lamM(M:List (List Int))(i j:Nat):List (List Int):=selM M (List.range j++[i]) (List.range j++[j])
def lamO(B:Nat)(M:List (List Int))(i j:Nat):Option Int:=(detO B (lamM M i j)).bind (ck B)
def zkl(B:Nat)(M:List (List Int))(ds:List Int)(i j:Nat):Option Bool:=(lamO B M i j).bind λl=>(ck B (2*l)).bind λ_=>some (decide (2*(l.natAbs:Int)<=zcq ds (j+1)))
def lovO(B:Nat)(M:List (List Int))(ds:List Int)(i:Nat):Option Bool:=(lamO B M i (i-1)).bind λl=>(ck B (zcq ds (i-1)*zcq ds (i+1))).bind λp=>(ck B (l*l)).bind λq=>(ck B (p+q)).bind λs=>(ck B (4*s)).bind λx=>
 (ck B (zcq ds i*zcq ds i)).bind λr=>(ck B (3*r)).bind λy=>some (decide (y<=x))
def redJ(B:Nat)(M:List (List Int))(ds:List Int)(i:Nat):Nat->Nat->Option Bool
 |0,_=>some true
 |m+1,j=>(zkl B M ds i j).bind λb=>if b then redJ B M ds i m (j+1)else some false
def redI(B:Nat)(M:List (List Int))(ds:List Int):Nat->Nat->Option Bool
 |0,_=>some true
 |m+1,i=>(redJ B M ds i i 0).bind λb=>if b=false then some false else if i=0 then redI B M ds m (i+1)else(lovO B M ds i).bind λb=>if b then redI B M ds m (i+1)else some false
theorem zgj{B:Nat}{M:List (List Int)}{i j:Nat}{l:Int}(h:lamO B M i j=some l):detO B (lamM M i j)=some l/\l.natAbs<B:=by
 unfold lamO at h;rw[qU]at h;obtain⟨d,h1,h2⟩:=h;obtain⟨rfl,h3⟩:=zcr h2;exact⟨h1,h3⟩
open Go.Proofs Go.Limb
def DivB(B:Nat):Prop:=B<=BIG/\∀x y:Int,x.natAbs<B->y.natAbs<B->y≠0->∀m n c d,zbp m->zbp n->m.length<=1100->n.length<=1100->val m=x.natAbs->val n=y.natAbs->DivC m n c d
def pid(ps:List (Nat×Option Nat))(i:Nat):Nat:=(ps.getD i (0,none)).1
theorem zbv{ps:List (Nat×Option Nat)}{n i:Nat}(hi:i<ps.length):(ps.map (zck n)).getD i .junk= .sl (pid ps i) 0 n 2 (ps.getD i (0,none)).2:=by
 rw[qX,qG,qK hi];simp[zck,pid,qX,hi]
theorem zdw{H:Heap}{o n:Nat}{ps:List (Nat×Option Nat)}{M:List (List Int)}(h:MatH H o ps n M){i:Nat}(hi:i<M.length):∃cs,getB H (pid ps i)=some cs/\cs.length=n*2/\RowC (M.getD i []) cs/\
  ∀j,j<n->∃u v,(cs.drop (j*2)).take 2=[u,v]/\zag (ent M i j) (.agg [u,v]):=by
 obtain⟨cs,h1,h2⟩:=h.rows i hi;have hl:=zcp h2;rw[h.cols i hi]at hl;refine⟨cs,h1,hl,h2,λj hj=>?_⟩;exact zev h2 j (by rw[h.cols i hi];exact hj)
theorem zfm{ps:List (Nat×Option Nat)}{i:Nat}(hi:i<ps.length):pid ps i∈ps.map (·.1):=by
 unfold pid;rw[qX,qK hi];exact List.mem_map.2 ⟨_,qO _,rfl⟩
theorem qkh{ps:List (Nat×Option Nat)}(hn:(ps.map (·.1)).Nodup){i j:Nat}(hi:i<ps.length)(hj:j<ps.length)(h:pid ps i=pid ps j):i=j:=by
 unfold pid at h;rw[qX,qK hi,qX,qK hj]at h;have key:=List.pairwise_iff_getElem.1 hn;rcases Nat.lt_trichotomy i j with hlt | he | hlt
 ·exact absurd (by rw[qI,qI];exact h) (key i j (by simpa using hi) (by simpa using hj) hlt)
 ·exact he
 ·exact absurd (by rw[qI,qI];exact h.symm) (key j i (by simpa using hj) (by simpa using hi) hlt)
theorem zhz{H:Heap}{o n:Nat}{ps:List (Nat×Option Nat)}{M:List (List Int)}(h:MatH H o ps n M){i j:Nat}(hi:i<M.length)(hj:j<n){z:Int}{u v:AV}(hz:zag z (.agg [u,v])){cs:List AV}(hcs:getB H (pid ps i)=some cs):
  MatH (H.set (pid ps i) (some (setL cs (j*2) [u,v]))) o ps n (setM M i j z):=by
 have hnd:=h.nodup;rw[qA]at hnd;have hoi:pid ps i≠o:=λe=>hnd.1 (e ▸ zfm (by rw[h.len];exact hi))
 refine⟨by rw[zah hoi];exact h.outer,by rw[zcu];exact h.len,?_,?_,h.nodup⟩
 ·intro i' hi';rw[zcu]at hi';unfold setM;rw[qX,xE];split
  ·rename_i e;subst e;show((M.getD i []).set j z).length=n
   rw[xX];exact h.cols i hi
  ·rw[<-qX];exact h.cols i' hi'
 ·intro i' hi';rw[zcu]at hi';by_cases e:i=i'
  ·subst e;obtain⟨cs',h1,h2⟩:=h.rows i hi
   have:cs'=cs:=by
    have:=h1.symm.trans hcs;simpa using this
   subst this;refine⟨_,zbd (zal hcs),?_⟩;unfold setM;rw[qX,xJ hi];exact ztj h2 j z u v (by rw[h.cols i hi];exact hj) hz
  ·obtain⟨cs',h1,h2⟩:=h.rows i' hi';refine⟨cs',?_,?_⟩
   ·show getB (List.set H (pid ps i) _) (pid ps i')=_
    rw[zah (λe'=>e (qkh hnd.2 (by rw[h.len];exact hi) (by rw[h.len];exact hi') e'))];exact h1
   ·unfold setM;rw[qX,xP e,<-qX];exact h2
structure DS(n:Nat)(M:List (List Int))(last:Int)(neg:Bool)(k:Nat)(E:Env)(H:Heap)(ps:List (Nat×Option Nat))(b:Nat):Prop where
 mat:MatH H 1 ps n M
 rows:M.length=n
 e2:E 2= .ptr 0 0
 e3:E 3= .sl 1 0 n 1 (some n)
 e4:E 4= .int .i64 (n:Nat)
 e5:E 5= .ptr b 0
 e6:E 6= .bool neg
 e7:E 7= .int .i64 (k:Nat)
 last:∃u v,getB H b=some [u,v]/\zag last (.agg [u,v])
 res:∃u v,getB H 0=some [u,v]
 nodup:(0::b::1::ps.map (·.1)).Nodup
theorem DS.frame{n k b:Nat}{M:List (List Int)}{last:Int}{neg:Bool}{E E':Env}{H:Heap}{ps:List (Nat×Option Nat)}(h:DS n M last neg k E H ps b)(hE:∀t,t<8->E' t=E t):DS n M last neg k E' H ps b:=
 ⟨h.mat,h.rows,(hE 2 (by omega)).trans h.e2,(hE 3 (by omega)).trans h.e3,(hE 4 (by omega)).trans h.e4,(hE 5 (by omega)).trans h.e5,(hE 6 (by omega)).trans h.e6,(hE 7 (by omega)).trans h.e7,h.last,h.res,h.nodup⟩
theorem zkm{E:Env}{d:Nat}{v:AV}{t:Nat}(ht:t<8)(hd:8<=d):upd E d v t=E t:=by
 unfold upd;rw[if_neg (by omega)]
theorem zam{z:Int}{u v:AV}(h:zag z (.agg [u,v])):∃l c,u= .bool (decide (z<0))/\v= .vec (u32s l) l.length c:=by
 obtain⟨l,c,_,_,_,e⟩:=h;injection e with e
 injection e with e1 e2
 injection e2 with e2 _
 exact⟨l,c,e1,e2⟩
theorem jfe{B n k i b:Nat}{last:Int}{neg:Bool}(hB:DivB B)(hn:n<=16)(hk:k<n)(hi:k<i/\i<n){fin:List (List Int)}{Q:Post}:∀{E:Env} {H:Heap} {ps:List (Nat×Option Nat)} {M:List (List Int)},
  DS n M last neg k E H ps b->E 9= .int .i64 (i:Nat)->E 10= .int .i64 ((k+1:Nat):Int)->elJ B k i last (n-(k+1)) (k+1) M=some fin->
  (∀E' H',DS n fin last neg k E' H' ps b->E' 9= .int .i64 (i:Nat)->Q (.exit 6) E' H')->Wg 0 125 (.loop l98_3) E H Q:=by
 intro E H ps M hD h9 h10 hf hQ;refine zaf (λm E H=>∃j M,j+m=n/\k<j/\DS n M last neg k E H ps b/\E 9= .int .i64 (i:Nat)/\E 10= .int .i64 (j:Nat)/\elJ B k i last m j M=some fin) (n:=n-(k+1)) ⟨k+1,M,by omega,by omega,hD,h9,h10,hf⟩ ?_;clear hD h9 h10 hf M E H;rintro m E H ⟨j,M,hjm,hkj,hD,h9,h10,hf⟩;refine wM ?_;obtain⟨hM,hrows,e2,e3,e4,e5,e6,e7,⟨lu,lv,hlast,hl⟩,⟨ru,rv,hres⟩,hnd⟩:=hD;simp only[l98_3,r98_17,SS,reduceIte,qQ,e4,h10];refine⟨λhlt=>?_,λhge=>?_⟩
 ·obtain⟨m,rfl⟩:∃m',m=m'+1:=⟨m-1,by omega⟩
  have hj:j<n:=by omega
  simp only[elJ,qU]at hf;obtain⟨z,hz,hf⟩:=hf;obtain⟨b0,b1,b2,b3,b4,hzz,b5⟩:=zwh hz;obtain⟨csi,gi,li,ri,fi⟩:=zdw hM (i:=i) (by omega);obtain⟨csk,gk,lk,rk,fk⟩:=zdw hM (i:=k) (by omega);obtain⟨u1,v1,x1,y1⟩:=fk k hk;obtain⟨u2,v2,x2,y2⟩:=fi j hj;obtain⟨u3,v3,x3,y3⟩:=fi k hk;obtain⟨u4,v4,x4,y4⟩:=fk j hj;obtain⟨p,hp,t1⟩:=zMul y1 y2 (qP b2 hB.1);obtain⟨q,hq,t2⟩:=zMul y3 y4 (qP b3 hB.1);obtain⟨s,hs,t3⟩:=zSub hp hq (qP b4 hB.1);obtain⟨d,hd,t4⟩:=zQuo hs hl b0 (hB.2 _ _ b4 b1 b0) (by rw[<-hzz];exact qP b5 hB.1);rw[<-hzz]at hd;have oi:=zbv (ps:=ps) (n:=n) (i:=i) (by rw[hM.len];omega);have ok:=zbv (ps:=ps) (n:=n) (i:=k) (by rw[hM.len];omega);have hol:(ps.map (zck n)).length=n:=by rw[qM,hM.len];exact hrows
  have hou:=hM.outer;have hpc:=hp.closed;have hqc:=hq.closed;have hsc:=hs.closed;have w5:=wS1 j (by omega);have hd0:=hd;obtain⟨ld,cd,_,_,_,rfl⟩:=hd0;have hdr:(lu,lv)=(lu,lv):=rfl;have hlast2:([lu,lv].drop 0).take 2=[lu,lv]:=rfl
  have c1:qW [.agg [u1,v1],.agg [u2,v2]]=true:=by
   simp only[qW,y1.closed,y2.closed,qL]
  have c2:qW [.agg [u3,v3],.agg [u4,v4]]=true:=by
   simp only[qW,y3.closed,y4.closed,qL]
  have c3:qW [p,q]=true:=by simp only[qW,hpc,hqc,qL]
  have c4:qW [s,.agg [lu,lv]]=true:=by simp only[qW,hsc,hl.closed,qL]
  simp only[r98_18,SS,fC,reduceIte,qQ,e3,e7,h9,h10,qV,hou,hol,oi,ok,gi,gk,li,lk,x1,x2];refine⟨⟨by omega,by omega⟩,by omega,⟨by omega,by omega⟩,by omega,⟨by omega,by omega⟩,by omega,⟨by omega,by omega⟩,by omega,⟨by omega,by omega⟩,by omega,?_⟩;refine zaa t1 ?_ c1 hpc;simp only[SS,fC,reduceIte,qQ,e3,e7,h9,h10,qV,hou,hol,oi,ok,gi,gk,li,lk,x3,x4];refine⟨⟨by omega,by omega⟩,by omega,⟨by omega,by omega⟩,by omega,⟨by omega,by omega⟩,by omega,⟨by omega,by omega⟩,by omega,?_⟩;refine zaa t2 ?_ c2 hqc;simp only[SS,reduceIte,qQ];refine zaa t3 ?_ c3 hsc;simp only[SS,reduceIte,qJ,qQ,qZ,e5,hlast];refine zaa t4 ?_ c4;simp only[SS,reduceIte,qJ,qQ,qV,gi,li];refine⟨⟨by omega,by omega⟩,by omega,rfl,?_⟩;have hs2:((csi.set (j*2) (AV.bool (decide (z<0)))).set (j*2+1) (AV.vec (u32s ld) ld.length cd))=setL csi (j*2) [AV.bool (decide (z<0)),AV.vec (u32s ld) ld.length cd]:=rfl;rw[hs2];simp only[r98_19,SS,reduceIte,qQ,h10,w5];have hnd2:=hnd;simp only[qA,qN,not_or]at hnd2;have hpi:pid ps i∈ps.map (·.1):=zfm (by rw[hM.len];omega);have hpi0:pid ps i≠0:=λe=>hnd2.1.2.2 (e ▸ hpi)
  have hpib:pid ps i≠b:=λe=>hnd2.2.1.2 (e ▸ hpi)
  refine⟨m,_,_,by omega,⟨j+1,setM M i j z,by omega,by omega,⟨zhz hM (by omega) hj hd gi,by rw[zcu];exact hrows,?_,?_,?_,?_,?_,?_,⟨lu,lv,?_,hl⟩,⟨ru,rv,?_⟩,hnd⟩,?_,?_,hf⟩,.refl⟩
  ·simp only[UU,qQ,e2]
  ·simp only[UU,qQ,e3]
  ·simp only[UU,qQ,e4]
  ·simp only[UU,qQ,e5]
  ·simp only[UU,qQ,e6]
  ·simp only[UU,qQ,e7]
  ·rw[zah hpib];exact hlast
  ·rw[zah hpi0];exact hres
  ·simp only[UU,qQ,h9]
  ·simp only[UU,qQ,reduceIte]
 ·have hk2:m=0:=by omega
  subst hk2;simp only[elJ,qC]at hf;subst hf;refine hQ _ _ (DS.frame (E:=E) ⟨hM,hrows,e2,e3,e4,e5,e6,e7,⟨lu,lv,hlast,hl⟩,⟨ru,rv,hres⟩,hnd⟩ (λt ht=>?_)) ?_
  ·repeat rw[zkm ht (by decide)]
  ·simp only[UU,qQ,h9]
theorem jcs{B n k b:Nat}{last:Int}{neg:Bool}(hB:DivB B)(hn:n<=16)(hk:k<n){fin:List (List Int)}{Q:Post}{E:Env}{H:Heap}{ps:List (Nat×Option Nat)}{M:List (List Int)}
  (hD:DS n M last neg k E H ps b) (h9:E 9= .int .i64 ((k+1:Nat):Int)) (hf:elI B n k last (n-(k+1)) (k+1) M=some fin)
  (hQ:∀E' H',DS n fin last neg k E' H' ps b->Q (.exit 4) E' H'):Wg 0 125 (.loop l98_2) E H Q:=by
 refine zaf (λm E H=>∃i M,i+m=n/\k<i/\DS n M last neg k E H ps b/\E 9= .int .i64 (i:Nat)/\elI B n k last m i M=some fin) (n:=n-(k+1)) ⟨k+1,M,by omega,by omega,hD,h9,hf⟩ ?_;clear hD h9 hf M E H;rintro m E H ⟨i,M,him,hki,hD,h9,hf⟩;refine wM ?_;have hD0:=hD;obtain⟨hM,hrows,e2,e3,e4,e5,e6,e7,hlast,hres,hnd⟩:=hD;simp only[l98_2,r98_15,SS,reduceIte,qQ,e4,h9];refine⟨λhlt=>?_,λhge=>?_⟩
 ·obtain⟨m,rfl⟩:∃m',m=m'+1:=⟨m-1,by omega⟩
  simp only[elI,qU]at hf;obtain⟨M',hf1,hf2⟩:=hf;have w5:=wS1 i (by omega);have w6:=wS1 k (by omega);simp only[r98_16,SS,reduceIte,qQ,e7,w6];refine jfe hB hn hk ⟨hki,by omega⟩ (ps:=ps) (b:=b) (last:=last) (neg:=neg) (i:=i) (hD0.frame (λt ht=>?_)) ?_ ?_ hf1 (λE1 H1 hD1 f9=>?rest)
  case rest=>
   simp only[r98_20,SS,reduceIte,qQ,f9,w5];refine⟨m,_,_,by omega,⟨i+1,M',by omega,by omega,hD1.frame (λt ht=>?_),?_,hf2⟩,.refl⟩
   ·repeat rw[zkm ht (by decide)]
   ·simp only[UU,qQ,reduceIte]
  ·repeat rw[zkm ht (by decide)]
  ·simp only[UU,qQ,h9]
  ·simp only[UU,qQ,reduceIte]
 ·have hk2:m=0:=by omega
  subst hk2;simp only[elI,qC]at hf;subst hf;refine hQ _ _ (hD0.frame (λt ht=>?_))
  repeat rw[zkm ht (by decide)]
theorem jff{n k b:Nat}{last:Int}{neg:Bool}(hn:n<=16)(hk:k<n){Q:Post}{E:Env}{H:Heap}{ps:List (Nat×Option Nat)}{M:List (List Int)}
  (hD:DS n M last neg k E H ps b) (h8:E 8= .int .i64 (k:Nat))
  (hQ:∀E',DS n M last neg k E' H ps b->E' 8= .int .i64 (piv M k (n-k) k:Nat)->Q (.exit 2) E' H):Wg 0 125 (.loop l98_1) E H Q:=by
 refine zaf (λm E H'=>∃p,p+m=n/\k<=p/\H'=H/\DS n M last neg k E H ps b/\E 8= .int .i64 (p:Nat)/\piv M k m p=piv M k (n-k) k) (n:=n-k) ⟨k,by omega,by omega,rfl,hD,h8,rfl⟩ ?_;clear hD h8 E;rintro m E H' ⟨p,hpm,hkp,rfl,hD,h8,hp⟩;refine wM ?_;have hD0:=hD;obtain⟨hM,hrows,e2,e3,e4,e5,e6,e7,hlast,hres,hnd⟩:=hD;cases m with
 |zero=>
  have d1:decide ((p:Int)<(n:Nat))=false:=dF;simp only[l98_1,r98_7,SS,fC,reduceIte,qQ,e4,h8,d1];simp only[piv]at hp;refine hQ _ (hD0.frame (λt ht=>?_)) ?_
  ·repeat rw[zkm ht (by decide)]
  ·simp only[UU,qQ,h8,hp]
 |succ m=>
  have d1:decide ((p:Int)<(n:Nat))=true:=dT;obtain⟨csp,gp,lp,rp,fp⟩:=zdw hM (i:=p) (by omega);obtain⟨u,v,x,y⟩:=fp k hk;have op:=zbv (ps:=ps) (n:=n) (i:=p) (by rw[hM.len];omega);have hol:(ps.map (zck n)).length=n:=by rw[qM,hM.len];exact hrows
  have hou:=hM.outer;have t:=zwb y;have c1:qW [.agg [u,v]]=true:=by simp only[qW,y.closed,qL]
  have w5:=wS1 p (by omega);simp only[l98_1,r98_7,SS,fC,reduceIte,qQ,e3,e4,e7,h8,d1,qV,hou,hol,op,gp,lp,x];refine⟨⟨by omega,by omega⟩,by omega,⟨by omega,by omega⟩,by omega,?_⟩;refine zaa t ?_ c1;simp only[SS,fC,reduceIte,qQ];simp only[piv]at hp;refine⟨λh0=>?_,λh0=>?_⟩
  ·have h0:ent M p k=0:=Int.sign_eq_zero_iff_zero.1 h0;rw[if_pos h0]at hp;simp only[r98_8,SS,reduceIte,qQ,h8,w5];refine⟨m,_,_,by omega,⟨p+1,by omega,by omega,rfl,hD0.frame (λt ht=>?_),?_,hp⟩,.refl⟩
   ·repeat rw[zkm ht (by decide)]
   ·simp only[UU,qQ,reduceIte]
  ·have h0:¬ent M p k=0:=λe=>h0 (by rw[e];rfl)
   rw[if_neg h0]at hp;refine hQ _ (hD0.frame (λt ht=>?_)) ?_
   ·repeat rw[zkm ht (by decide)]
   ·simp only[UU,qQ,h8,hp]
def zfq(ps:List (Nat×Option Nat))(p k:Nat):List (Nat×Option Nat):=(ps.set p (ps.getD k (0,none))).set k (ps.getD p (0,none))
theorem zpb{α:Type}{l:List α}{p k i:Nat}{d:α}(hp:p<l.length)(hk:k<l.length):((l.set p (l.getD k d)).set k (l.getD p d)).getD i d=l.getD (if i=k then p else if i=p then k else i) d:=by
 rw[qX,xE];by_cases h1:k=i
 ·subst h1;rw[if_pos rfl,if_pos (by simpa using hk),if_pos rfl];rfl
 ·rw[if_neg h1,if_neg (λe=>h1 e.symm),xE];by_cases h2:p=i
  ·subst h2;rw[if_pos rfl,if_pos hp,if_pos rfl];rfl
  ·rw[if_neg h2,if_neg (λe=>h2 e.symm),qX]
theorem qbx{H:Heap}{o n:Nat}{ps:List (Nat×Option Nat)}{M:List (List Int)}(h:MatH H o ps n M){p k:Nat}(hp:p<M.length)(hk:k<M.length):
  MatH (H.set o (some (((ps.map (zck n)).set p (.sl (pid ps k) 0 n 2 (ps.getD k (0,none)).2)).set k (.sl (pid ps p) 0 n 2 (ps.getD p (0,none)).2)))) o (zfq ps p k) n (zdm M p k)/\(∀x,x∈(zfq ps p k).map (·.1)↔x∈ps.map (·.1))/\((zfq ps p k).map (·.1)).Nodup:=by
 have hnd:=h.nodup;rw[qA]at hnd;have hlen:=h.len
 have hidx:∀i,i<M.length->(if i=k then p else if i=p then k else i)<M.length:=by
  intro i hi;split
  ·exact hp
  ·split<;>omega
 have hpid:∀i,pid (zfq ps p k) i=pid ps (if i=k then p else if i=p then k else i):=by
  intro i;unfold pid zfq;rw[zpb (by omega) (by omega)]
 have hsl:(zfq ps p k).length=ps.length:=by simp[zfq]
 have hmem:∀x,x∈(zfq ps p k).map (·.1)↔x∈ps.map (·.1):=by
  intro x;constructor
  ·intro hx;obtain⟨q,hq,rfl⟩:=List.mem_map.1 hx;unfold zfq at hq;rcases xB hq with hq | rfl
   ·rcases xB hq with hq | rfl
    ·exact List.mem_map.2 ⟨q,hq,rfl⟩
    ·exact zfm (i:=k) (by omega)
   ·exact zfm (i:=p) (by omega)
  ·intro hx;obtain⟨q,hq,rfl⟩:=List.mem_map.1 hx;obtain⟨i,hi,rfl⟩:=List.mem_iff_getElem.1 hq;have e:=hpid (if i=k then p else if i=p then k else i)
   have e2:(if(if i=k then p else if i=p then k else i)=k then p else if(if i=k then p else if i=p then k else i)=p then k else(if i=k then p else if i=p then k else i))=i:=by
    by_cases h1:i=k
    ·subst h1;rw[if_pos rfl];by_cases h2:p=i
     ·rw[if_pos h2];exact h2
     ·rw[if_neg h2,if_pos rfl]
    ·rw[if_neg h1];by_cases h2:i=p
     ·subst h2;rw[if_pos rfl,if_pos rfl]
     ·rw[if_neg h2,if_neg h1,if_neg h2]
   rw[e2]at e;have e3:pid ps i=ps[i].1:=by unfold pid;rw[qX,qK hi];rfl
   rw[<-e3,<-e];exact zfm (by rw[hsl,hlen];exact hidx i (by omega))
 have hnd2:((zfq ps p k).map (·.1)).Nodup:=by
  refine List.pairwise_iff_getElem.2 (λi j hi hj hij=>?_);rw[qI,qI];simp only[qM,hsl]at hi hj;have e1:(zfq ps p k)[i]'(by rw[hsl];exact hi)=(zfq ps p k).getD i (0,none):=by rw[qX,qK (by rw[hsl];exact hi)];rfl
  have e2:(zfq ps p k)[j]'(by rw[hsl];exact hj)=(zfq ps p k).getD j (0,none):=by rw[qX,qK (by rw[hsl];exact hj)];rfl
  rw[e1,e2];intro e;have e':pid (zfq ps p k) i=pid (zfq ps p k) j:=e;rw[hpid,hpid]at e';have:=qkh hnd.2 (by rw[hlen];exact hidx i (by omega)) (by rw[hlen];exact hidx j (by omega)) e';revert this;by_cases h1:i=k
  ·by_cases h3:j=p
   ·rw[if_pos h1,if_neg (show¬j=k by omega),if_pos h3];omega
   ·rw[if_pos h1,if_neg (show¬j=k by omega),if_neg h3];omega
  ·by_cases h2:i=p
   ·by_cases h3:j=k
    ·rw[if_neg h1,if_pos h2,if_pos h3];omega
    ·rw[if_neg h1,if_pos h2,if_neg h3,if_neg (show¬j=p by omega)];omega
   ·by_cases h3:j=k
    ·rw[if_neg h1,if_neg h2,if_pos h3];omega
    ·by_cases h4:j=p
     ·rw[if_neg h1,if_neg h2,if_neg h3,if_pos h4];omega
     ·rw[if_neg h1,if_neg h2,if_neg h3,if_neg h4];omega
 refine⟨⟨?_,?_,?_,?_,?_⟩,hmem,hnd2⟩
 ·rw[zbd (zal h.outer)];have e1:AV.sl (pid ps k) 0 n 2 (ps.getD k (0,none)).2=zck n (ps.getD k (0,none)):=rfl;have e2:AV.sl (pid ps p) 0 n 2 (ps.getD p (0,none)).2=zck n (ps.getD p (0,none)):=rfl;rw[e1,e2,<-List.map_set,<-List.map_set];rfl
 ·rw[hsl,hlen];simp[zdm]
 ·intro i hi;have hi:i<M.length:=by simpa[zdm]using hi
  unfold zdm;rw[zpb hp hk];exact h.cols _ (hidx i hi)
 ·intro i hi;have hi:i<M.length:=by simpa[zdm]using hi
  obtain⟨cs,h1,h2⟩:=h.rows _ (hidx i hi);refine⟨cs,?_,?_⟩
  ·show getB _ (pid (zfq ps p k) i)=_
   have hne:o≠pid ps (if i=k then p else if i=p then k else i):=λe=>hnd.1 (by rw[e];exact zfm (by rw[hlen];exact hidx i hi))
   rw[hpid,zah hne];exact h1
  ·unfold zdm;rw[zpb hp hk];exact h2
 ·rw[qA];exact⟨λhm=>hnd.1 ((hmem _).1 hm),hnd2⟩
def zri:Nat->Nat->List Nat
 |0,_=>[]
 |f+1,n=>if n=0 then[]else n%4294967296::zri f (n/4294967296)
def zau(n:Nat):List Nat:=zri n n
theorem zwi:∀f n,n<=f->zbp (zri f n)/\val (zri f n)=n:=by
 intro f
 induction f with
 |zero=>
  intro n h;have:n=0:=by omega
  subst this;exact⟨zbp.nil,rfl⟩
 |succ f ih=>
  intro n h;unfold zri;by_cases h0:n=0
  ·rw[if_pos h0,h0];exact⟨zbp.nil,rfl⟩
  ·rw[if_neg h0];obtain⟨h1,h2⟩:=ih (n/4294967296) (by omega);refine⟨⟨Dig.cons (Nat.mod_lt _ (by decide)) h1.1,?_⟩,?_⟩
   ·cases e:zri f (n/4294967296)with
    |nil=>
     rw[e]at h2;have:n/4294967296=0:=h2.symm
     show n%4294967296≠0
     omega
    |cons d r=>
     have:=h1.2;rw[e]at this;exact this
   ·rw[Limb.val,h2];omega
theorem zak(n:Nat):zbp (zau n):=(zwi n n (qB _)).1
theorem zar(n:Nat):val (zau n)=n:=(zwi n n (qB _)).2
def intV(z:Int):AV:= .agg [.bool (decide (z<0)),.vec (u32s (zau z.natAbs)) (zau z.natAbs).length none]
theorem qki(l:List Nat):AV.wk.wkL (u32s l)=u32s l:=by
 induction l with
 |nil=>rfl
 |cons d l ih=>show AV.wk (.int .u32 d)::AV.wk.wkL (u32s l)=_;rw[ih];rfl
theorem zag.wk{z:Int}{a:AV}(h:zag z a):a.wk=intV z:=by
 obtain⟨l,c,hc,_,hv,rfl⟩:=h;have:l=zau z.natAbs:=zdf hc (zak _) (hv.trans (zar _).symm);subst this;simp only[AV.wk,AV.wk.wkL,qki,intV]
theorem zbk{z:Int}(h:z.natAbs<BIG):zag z (intV z):=
 ⟨zau z.natAbs,none,zak _,canon_len (zak _) (by rw[zar];exact h),zar _,rfl⟩
theorem zcb(k i:Nat):zan [] k i=k+i:=by simp[zan]
theorem zgz{H:Heap}(σ:Nat->Nat)(hσ:∀i,σ i=H.length+i):∀(L X:Heap),zad (effs σ X.length L) (H++(X++List.replicate L.length none))=H++(X++L.map (renB σ)):=by
 intro L
 induction L with
 |nil=>intro X;simp[effs,zad]
 |cons c L ih=>
  intro X;simp only[effs,zad,List.length_cons,xS]
  have e:(H++(X++none::List.replicate L.length none)).set (σ X.length) (renB σ c)=H++((X++[renB σ c])++List.replicate L.length none):=by
   rw[hσ,qR _ _ (by omega),xH,qR _ _ (qB _),xY];simp
  rw[e];have:=ih (X++[renB σ c]);rw[xA,xN]at this;rw[this];simp
theorem zdz{f:FuncId}{args:List AV}{v:AV}{H H0:Heap}{K:AV->Eff->List Nat->Nat->Prop}(h:Rt f args [] v H0)(ha:qW args=true)
  (hk:K (v.ren (zan [] H.length)) (effs (zan [] H.length) 0 H0) [] H0.length):zls Tryz.prog G f args H K:=by
 refine⟨_,_,_,_,?_,hk⟩;have:=CallR0.mk (P:= Tryz.prog) (Γ:=G) (f:=f) (args:=args) (k:=H.length) (H:=H++List.replicate H0.length none) [] args [] v H0 h rfl .nil (by simp) (zaw _ _ ha).symm (zbg _ _ ha) (by intro i c h;simp at h);exact .base this
theorem qby{H L:Heap}{σ:Nat->Nat}{i:Nat}{cs:List AV}(h:getB L i=some cs):getB (H++L.map (renB σ)) (H.length+i)=some (cs.map (AV.ren σ)):=by
 unfold getB at h ⊢;rw[qE (by omega),xH,qG];cases hx:L[i]? with
 |none=>rw[hx]at h;simp at h
 |some c=>
  rw[hx]at h;cases c with
  |none=>simp at h
  |some c=>simp at h;subst h;rfl
theorem zkn{H L:Heap}{n:Nat}{ps:List (Nat×Option Nat)}{M:List (List Int)}(h:MatH L 0 ps n M):MatH (H++L.map (renB (zan [] H.length))) H.length (ps.map λp=>(H.length+p.1,p.2)) n M:=by
 have hp:∀i,i<ps.length->pid (ps.map λp=>(H.length+p.1,p.2)) i=H.length+pid ps i:=by
  intro i hi;unfold pid;rw[qX,qG,qK hi,qX,qK hi];rfl
 refine⟨?_,by rw[qM];exact h.len,h.cols,?_,?_⟩
 ·have:=qby (H:=H) (σ:=zan [] H.length) h.outer;rw[Nat.add_zero]at this;rw[this,xI,xI]
  have e:(AV.ren (zan [] H.length) ∘ zck n)=(zck n ∘ λp=>(H.length+p.1,p.2)):=by
   funext p;simp[zck,AV.ren,zcb]
  rw[e]
 ·intro i hi;obtain⟨cs,h1,h2⟩:=h.rows i hi;refine⟨cs,?_,h2⟩
  show getB _ (pid _ i)=_
  have h1':getB L (pid ps i)=some cs:=h1;rw[hp i (by rw[h.len];exact hi),qby h1',zaw _ _ (zzp h2)]
 ·have hnd:=h.nodup;rw[qA]at hnd ⊢;rw[xI];refine⟨?_,?_⟩
  ·intro hm;obtain⟨p,hp,e⟩:=List.mem_map.1 hm;have e:H.length+p.1=H.length:=e;exact hnd.1 (List.mem_map.2 ⟨p,hp,by omega⟩)
  ·refine List.pairwise_iff_getElem.2 (λi j hi hj hij=>?_);have:=List.pairwise_iff_getElem.1 hnd.2 i j (by simpa using hi) (by simpa using hj) hij;rw[qI,qI]at this ⊢;simp only[Function.comp];omega
theorem zzr{H X:Heap}{o n:Nat}{ps:List (Nat×Option Nat)}{M:List (List Int)}(h:MatH H o ps n M):MatH (H++X) o ps n M:=
 ⟨by rw[zca (zal h.outer)];exact h.outer,h.len,h.cols,λi hi=>by
  obtain⟨cs,h1,h2⟩:=h.rows i hi;exact⟨cs,by rw[zca (zal h1)];exact h1,h2⟩,h.nodup⟩
theorem zpc{H:Heap}{o n x:Nat}{y:Option (List AV)}{ps:List (Nat×Option Nat)}{M:List (List Int)}(h:MatH H o ps n M)(h1:x≠o)(h2:x∉ps.map (·.1)):MatH (H.set x y) o ps n M:=
 ⟨by rw[zah h1];exact h.outer,h.len,h.cols,λi hi=>by
  obtain⟨cs,g1,g2⟩:=h.rows i hi;refine⟨cs,?_,g2⟩;have hne:x≠(ps.getD i (0,none)).1:=λe=>h2 (by rw[e];exact zfm (ps:=ps) (by rw[h.len];exact hi))
  rw[zah hne];exact g1,h.nodup⟩
theorem mDet{B:Nat}{M:List (List Int)}{a:AV}{d:Int}(hB:DivB B)(h:MatV M a)(hN:1<=M.length/\M.length<=16)(hc:∀i,i<M.length->(M.getD i []).length=M.length)(hd:detO B M=some d):
  Rt 98 [a] [] (intV d) []:=by
 obtain⟨ps0,L,hL,tc⟩:=jcq h ⟨hN.1,hN.2⟩ hN.2 hc;obtain⟨v1,hv1,ts⟩:=zfb 1 (by omega) (by omega)
 have ha:qW [a]=true:=by
  obtain⟨rows,c,rfl,_⟩:=h;rfl
 have hv1':=hv1;obtain⟨l1,c1,_,_,_,rfl⟩:=hv1';refine oFw o98 ?_;simp only[c98,r98_0,r98_1,SS,reduceCtorEq,reduceIte];refine zdz tc ha ?_;simp only[zay,SS,reduceIte,qQ,AV.ren,zcb,Nat.add_zero]
 have hH1:zad (effs (zan [] 1) 0 L) (some [AV.bool false,AV.vec [] 0 (some 0)]::List.replicate (List.length L) none)=some [AV.bool false,AV.vec [] 0 (some 0)]::L.map (renB (zan [] 1)):=
  zgz (H:=[some [AV.bool false,AV.vec [] 0 (some 0)]]) (zan [] 1) (λi=>zcb 1 i) L []
 rw[hH1];have hM1:MatH (some [AV.bool false,AV.vec [] 0 (some 0)]::L.map (renB (zan [] 1))) 1 (ps0.map λp=>(1+p.1,p.2)) M.length M:=zkn (H:=[some [AV.bool false,AV.vec [] 0 (some 0)]]) hL;generalize hHH:(some [AV.bool false,AV.vec [] 0 (some 0)]::L.map (renB (zan [] 1)):Heap)=H1 at*;have g0:getB H1 0=some [AV.bool false,AV.vec [] 0 (some 0)]:=by rw[<-hHH];rfl
 have hlt0:=zal g0;simp only[r98_2,r98_3,SS,reduceIte,qQ];refine zaa ts ?_;simp only[SS,reduceIte,qJ,qQ,qZ,zbr,ziw];simp only[r98_4,SS];have hlast0:=hv1;have hM2:=zzr (X:=[some [AV.bool (decide ((1:Int)<0)),AV.vec (u32s l1) l1.length c1]]) hM1
 have hids:∀x∈(ps0.map λp=>(1+p.1,p.2)).map (·.1),2<=x/\x<H1.length:=by
  intro x hx;have hnd:=hL.nodup;rw[qA]at hnd;rw[xI]at hx;obtain⟨p,hp,rfl⟩:=List.mem_map.1 hx;have hp0:p.1≠0:=λe=>hnd.1 (List.mem_map.2 ⟨p,hp,e⟩)
  refine⟨by show 2<=1+p.1;omega,?_⟩;obtain⟨i,hi,e⟩:=List.mem_iff_getElem.1 hp;obtain⟨cs,h1,_⟩:=hM1.rows i (by rw[<-hL.len];exact hi);have:=zal h1;rw[qX,qG,qK hi,e]at this;exact this
 have hnd0:(0::H1.length::1::(ps0.map λp=>(1+p.1,p.2)).map (·.1)).Nodup:=by
  have hn1:=hM1.nodup;have h1lt:=zal hM1.outer;rw[qA,qA];refine⟨?_,?_,hn1⟩
  ·intro hm;rcases List.mem_cons.1 hm with e | hm
   ·omega
   ·rcases List.mem_cons.1 hm with e | hm
    ·omega
    ·have:=hids _ hm;omega
  ·intro hm;rcases List.mem_cons.1 hm with e | hm
   ·omega
   ·have:=hids _ hm;omega
 refine zaf (λm E H=>∃k M' last neg ps,k+m=M.length/\DS M.length M' last neg k E H ps H1.length/\detG B M.length m k M' last neg=some d) (n:=M.length) ⟨0,M,1,false,_,by omega,⟨hM2,rfl,?_,?_,?_,?_,?_,?_,⟨_,_,zbr,hlast0⟩,⟨_,_,(zca hlt0).trans g0⟩,hnd0⟩,hd⟩ ?_
 ·simp only[UU,qQ,reduceIte]
 ·simp only[UU,qQ,reduceIte]
 ·simp only[UU,qQ,reduceIte]
 ·simp only[UU,qQ,reduceIte]
 ·simp only[UU,qQ,reduceIte]
 ·simp only[UU,qQ,reduceIte];rfl
 rintro m E H ⟨k,M',last,neg,ps,hkm,hD,hdet⟩;have hD0:=hD;obtain⟨hM,hrows,e2,e3,e4,e5,e6,e7,⟨lu,lv,hlast,hl⟩,⟨ru,rv,hres⟩,hnd⟩:=hD;refine wM ?_;simp only[l98_0,r98_5,SS,reduceCtorEq,reduceIte,qQ,e4,e7];refine⟨λhlt=>?_,λhge=>?_⟩
 ·obtain⟨m,rfl⟩:∃m',m=m'+1:=⟨m-1,by omega⟩
  have hk:k<M.length:=by omega
  simp only[detG]at hdet;have hpl:=quv (M:=M') (k:=k) (m:=M.length-k) (p:=k);have w6:=wS1 k (by omega);simp only[r98_6,SS,reduceIte,qQ,e7];refine jff hN.2 hk (hD0.frame (λt ht=>?_)) ?_ (λE1 hD1 f8=>?rest)
  case rest=>
   generalize hpv:piv M' k (M.length-k) k=p at*;have hD10:=hD1;obtain⟨hM3,hrows3,f2,f3,f4,f5,f6,f7,⟨lu3,lv3,hlast3,hl3⟩,⟨ru3,rv3,hres3⟩,hnd3⟩:=hD1;simp only[r98_9,SS,reduceCtorEq,reduceIte,qQ,f4,f8];refine⟨λhpn=>?_,λhpn=>?_⟩
   ·have hpn:p=M.length:=by omega
    rw[if_pos hpn,qC]at hdet;subst hdet;simp only[r98_10,SS,reduceIte,qJ,qQ,qZ,f2,hres3];refine⟨.inl trivial,_,_,zeu (id:=0) (by simp only[UU,qQ,f2]) (zbd (zal hres3)),.drop _ _ rfl (by intro i cs h;omega),rfl⟩
   ·have hpn:p≠M.length:=by omega
    rw[if_neg hpn,qU]at hdet;obtain⟨M2,hel,hdet⟩:=hdet;by_cases hkp:k<p
    ·rw[if_pos hkp]at hel hdet;have d1:decide ((k:Int)<(p:Nat))=true:=dT;have ok3:=zbv (ps:=ps) (n:=M.length) (i:=k) (by rw[hM3.len];omega);have op3:=zbv (ps:=ps) (n:=M.length) (i:=p) (by rw[hM3.len];omega);have hol3:(ps.map (zck M.length)).length=M.length:=by rw[qM,hM3.len];exact hrows3
     have hou3:=hM3.outer;obtain⟨hMs,hmem,hnds⟩:=qbx hM3 (p:=p) (k:=k) (by omega) (by omega);simp only[r98_11,SS,fC,reduceIte,qQ,f7,f8,d1];simp only[r98_12,SS,fC,reduceIte,qQ,f3,f7,f8,qV,hou3,hol3,ok3,op3];have gs:getB (List.set H 1 (some ((List.map (zck M.length) ps).set p (AV.sl (pid ps k) 0 M.length 2 (ps.getD k (0,none)).snd)))) 1=some ((List.map (zck M.length) ps).set p (AV.sl (pid ps k) 0 M.length 2 (ps.getD k (0,none)).snd)):=zbd (zal hou3);simp only[SS,gs,xX,hol3,xT];refine⟨⟨by omega,by omega⟩,by omega,⟨by omega,by omega⟩,by omega,⟨by omega,by omega⟩,by omega,⟨by omega,by omega⟩,by omega,rfl,?_⟩;simp only[r98_13,SS,reduceIte,qQ,f6];simp only[r98_14,SS,reduceIte,qQ,f7,w6];have hnd6:=hnd3;simp only[qA,qN,not_or]at hnd6
     have hnd7:(0::H1.length::1::(zfq ps p k).map (·.1)).Nodup:=by
      simp only[qA,qN,not_or];exact⟨⟨hnd6.1.1,hnd6.1.2.1,λhm=>hnd6.1.2.2 ((hmem _).1 hm)⟩,⟨hnd6.2.1.1,λhm=>hnd6.2.1.2 ((hmem _).1 hm)⟩,λhm=>hnd6.2.2.1 ((hmem _).1 hm),hnds⟩
     refine jcs hB hN.2 hk (ps:=zfq ps p k) (b:=H1.length) (last:=last) (neg:=!neg) (M:=zdm M' p k) ⟨hMs,by simp[zdm,hrows3],?_,?_,?_,?_,?_,?_,⟨lu3,lv3,?_,hl3⟩,⟨ru3,rv3,?_⟩,hnd7⟩ ?_ hel (λE3 H3 hD3=>?rest2)
     case rest2=>
      obtain⟨hM4,hrows4,g2,g3,g4,g5,g6,g7,⟨lu4,lv4,hlast4,hl4⟩,⟨ru4,rv4,hres4⟩,hnd4⟩:=hD3;obtain⟨csk,gk,lk,rk,fk⟩:=zdw hM4 (i:=k) (by omega);obtain⟨u,v,hx,hy⟩:=fk k hk;have ok:=zbv (ps:=zfq ps p k) (n:=M.length) (i:=k) (by rw[hM4.len];omega);have hol:((zfq ps p k).map (zck M.length)).length=M.length:=by rw[qM,hM4.len];exact hrows4
      have hou:=hM4.outer;obtain⟨ly,cy,hy1,hy2⟩:=zam hy;subst hy1 hy2;simp only[r98_21,SS,fC,reduceCtorEq,reduceIte,qJ,qQ,qZ,g3,g5,g7,qV,hou,hol,ok,gk,lk,hx,hlast4];refine⟨⟨by omega,by omega⟩,by omega,⟨by omega,by omega⟩,by omega,?_⟩;simp only[r98_22,SS,reduceIte,qQ,g7,w6];have hnd5:=hnd4;simp only[qA,qN,not_or]at hnd5;refine⟨m,_,_,by omega,⟨k+1,M2,_,(!neg),zfq ps p k,by omega,⟨zpc hM4 (λe=>hnd5.2.1.1 e) (λhm=>hnd5.2.1.2 hm),hrows4,?_,?_,?_,?_,?_,?_,⟨_,_,zbd (zal hlast4),hy⟩,⟨ru4,rv4,?_⟩,hnd4⟩,hdet⟩,.refl⟩
      ·simp only[UU,qQ,g2]
      ·simp only[UU,qQ,g3]
      ·simp only[UU,qQ,g4]
      ·simp only[UU,qQ,g5]
      ·simp only[UU,qQ,g6]
      ·simp only[UU,qQ,reduceIte]
      ·rw[zah (λe=>hnd5.1.1 e.symm)];exact hres4
     ·simp only[UU,qQ,f2]
     ·simp only[UU,qQ,f3]
     ·simp only[UU,qQ,f4]
     ·simp only[UU,qQ,f5]
     ·simp only[UU,qQ,reduceIte]
     ·simp only[UU,qQ,f7]
     ·rw[zah (λe=>hnd6.2.1.1 e.symm)];exact hlast3
     ·rw[zah (by decide)];exact hres3
     ·simp only[UU,qQ,reduceIte]
    ·rw[if_neg hkp]at hel hdet;have d1:decide ((k:Int)<(p:Nat))=false:=dF;simp only[r98_11,SS,fC,reduceIte,qQ,f7,f8,d1];simp only[r98_14,SS,reduceIte,qQ,f7,w6];refine jcs hB hN.2 hk (hD10.frame (λt ht=>?_)) ?_ hel (λE3 H3 hD3=>?rest2)
     case rest2=>
      obtain⟨hM4,hrows4,g2,g3,g4,g5,g6,g7,⟨lu4,lv4,hlast4,hl4⟩,⟨ru4,rv4,hres4⟩,hnd4⟩:=hD3;obtain⟨csk,gk,lk,rk,fk⟩:=zdw hM4 (i:=k) (by omega);obtain⟨u,v,hx,hy⟩:=fk k hk;have ok:=zbv (ps:=ps) (n:=M.length) (i:=k) (by rw[hM4.len];omega);have hol:((ps).map (zck M.length)).length=M.length:=by rw[qM,hM4.len];exact hrows4
      have hou:=hM4.outer;obtain⟨ly,cy,hy1,hy2⟩:=zam hy;subst hy1 hy2;simp only[r98_21,SS,fC,reduceCtorEq,reduceIte,qJ,qQ,qZ,g3,g5,g7,qV,hou,hol,ok,gk,lk,hx,hlast4];refine⟨⟨by omega,by omega⟩,by omega,⟨by omega,by omega⟩,by omega,?_⟩;simp only[r98_22,SS,reduceIte,qQ,g7,w6];have hnd5:=hnd4;simp only[qA,qN,not_or]at hnd5;refine⟨m,_,_,by omega,⟨k+1,M2,_,neg,ps,by omega,⟨zpc hM4 (λe=>hnd5.2.1.1 e) (λhm=>hnd5.2.1.2 hm),hrows4,?_,?_,?_,?_,?_,?_,⟨_,_,zbd (zal hlast4),hy⟩,⟨ru4,rv4,?_⟩,hnd4⟩,hdet⟩,.refl⟩
      ·simp only[UU,qQ,g2]
      ·simp only[UU,qQ,g3]
      ·simp only[UU,qQ,g4]
      ·simp only[UU,qQ,g5]
      ·simp only[UU,qQ,g6]
      ·simp only[UU,qQ,reduceIte]
      ·rw[zah (λe=>hnd5.1.1 e.symm)];exact hres4
     ·repeat rw[zkm ht (by decide)]
     ·simp only[UU,qQ,reduceIte]
  ·repeat rw[zkm ht (by decide)]
  ·simp only[UU,qQ,reduceIte]
 ·have hm:m=0:=by omega
  subst hm;simp only[detG,qC]at hdet;have c4:qW [.agg [lu,lv]]=true:=by simp only[qW,hl.closed,qL]
  simp only[r98_23,SS,reduceIte,qQ,e6];refine⟨λhn=>?_,λhn=>?_⟩
  ·rw[if_pos hn]at hdet;obtain⟨w,hw,tn⟩:=zNeg hl;rw[hdet]at hw;have hw0:=hw;obtain⟨lw,cw,_,_,_,rfl⟩:=hw0;simp only[r98_24,SS,reduceIte,qJ,qQ,qZ,e5,hlast];refine zaa tn ?_ c4;simp only[SS,reduceIte,qJ,qQ,qZ,e2,hres];refine⟨.inl trivial,_,_,zeu (id:=0) (by simp only[UU,qQ,e2]) (zbd (zal hres)),.drop _ _ rfl (by intro i cs h;omega),hw.wk⟩
  ·rw[if_neg (by rw[hn];simp)]at hdet;subst hdet;obtain⟨lw,cw,h1,h2⟩:=zam hl;subst h1 h2;simp only[r98_25,SS,reduceIte,qJ,qQ,qZ,e5,hlast,e2,hres];refine⟨.inl trivial,_,_,zeu (id:=0) (by simp only[UU,qQ,e2]) (zbd (zal hres)),.drop _ _ rfl (by intro i cs h;omega),hl.wk⟩
def zfv:List Int->List AV
 | []=>[]
 |z::r=> .bool (decide (z<0)):: .vec (u32s (zau z.natAbs)) (zau z.natAbs).length none::zfv r
def rowV(r:List Int):AV:= .vec (zfv r) r.length none
def matC(M:List (List Int)):AV:= .vec (M.map rowV) M.length none
theorem qkj:∀{r:List Int} {cs:List AV},RowC r cs->AV.wk.wkL cs=zfv r:=by
 intro r
 induction r with
 |nil=>
  intro cs h;cases cs with
  |nil=>rfl
  |cons _ _=>exact h.elim
 |cons z r ih=>
  intro cs h
  match cs,h with
  |u::v::cs,h=>
   have hw:=h.1.wk;simp only[AV.wk,AV.wk.wkL,intV,AV.agg.injEq,List.cons.injEq,and_true]at hw
   show u.wk::v.wk::AV.wk.wkL cs=_
   rw[ih h.2,hw.1,hw.2];rfl
theorem qkk{r:List Int}{a:AV}(h:zfu r a):a.wk=rowV r:=by
 obtain⟨cs,c,rfl,hc⟩:=h;simp only[AV.wk,qkj hc,rowV]
def qkl(r:List Int):Prop:= ∀z∈r,z.natAbs<BIG
theorem zia:∀{r:List Int},qkl r->RowC r (zfv r)
 | [],_=>trivial
 |z::r,h=>⟨zbk (h z (by simp)),zia (λy hy=>h y (by simp[hy]))⟩
theorem qyb{r:List Int}(h:qkl r):zfu r (rowV r):=⟨_,_,rfl,zia h⟩
theorem qkm:∀{r:List Int} {cs:List AV},RowC r cs->qkl r:=by
 intro r
 induction r with
 |nil=>intro cs _ z hz;simp at hz
 |cons z r ih=>
  intro cs h y hy
  match cs,h with
  |u::v::cs,h=>
   rcases List.mem_cons.1 hy with e | e
   ·rw[e];exact h.1.fits
   ·exact ih h.2 y e
def qfq(M:List (List Int)):Prop:= ∀r∈M,qkl r
theorem zwj{M:List (List Int)}{a:AV}(h:MatV M a):qfq M:=by
 obtain⟨rows,c,_,_,hr⟩:=h;intro r hr';obtain⟨i,hi,rfl⟩:=List.mem_iff_getElem.1 hr';obtain⟨cs,c,_,h2⟩:=hr i hi;rw[qX,qK hi]at h2;exact qkm h2
theorem zly{M:List (List Int)}(h:qfq M):MatV M (matC M):=by
 refine⟨M.map rowV,none,rfl,by simp,λi hi=>?_⟩;rw[qX,qX,qG,qK hi];exact qyb (h _ (qO _))
theorem zzs{M:List (List Int)}{a:AV}(h:MatV M a):a.wk=matC M:=by
 obtain⟨rows,c,rfl,hl,hr⟩:=h;simp only[AV.wk,matC,zlt];congr 1;refine List.ext_getElem? (λi=>?_);rw[qG,qG];rcases xU i M.length with hi | hi
 ·have:=qkk (hr i hi);rw[qX,qX,qK hi,qK (by omega)]at this;rw[qK hi,qK (by omega)];simpa using this
 ·rw[xO hi,xO (by omega)];rfl
def Grow(H:Heap)(sz n:Nat)(cs:List AV)(a:AV)(bad:List Nat):Prop:=
 (n=0/\cs=[]/\a= .vec [] 0 (some 0))\/(0<n/\cs.length=n*sz/\∃id,a= .sl id 0 n sz none/\getB H id=some cs/\id∉bad)
theorem Grow.mono{H H':Heap}{sz n:Nat}{cs:List AV}{a:AV}{bad bad':List Nat}(h:Grow H sz n cs a bad)(hH:∀id,getB H id=some cs->a= .sl id 0 n sz none->getB H' id=some cs)(hb:∀id,a= .sl id 0 n sz none->id∉bad->id∉bad'):Grow H' sz n cs a bad':=by
 rcases h with h | ⟨h1,h2,id,h3,h4,h5⟩
 ·exact .inl h
 ·exact .inr ⟨h1,h2,id,h3,hH id h4 h3,hb id h3 h5⟩
theorem zha{H:Heap}{sz n:Nat}{cs xs:List AV}{a:AV}{bad:List Nat}{bytes:Nat}(h:Grow H sz n cs a bad)(hx:xs.length=sz)(hs:AV.scalL xs=true)(hb:bytes<=64)(hn:n<1100)(hfr:H.length+1∉bad):
  ∃e rd,(∀n0,zby n0 (H.length+1) (H++[some xs]) sz bytes a (.sl H.length 0 1 sz (some 1))=some (.sl (H.length+1) 0 (n+1) sz none,e,rd))/\Grow (zad e (H++[some xs]++[none])) sz (n+1) (cs++xs) (.sl (H.length+1) 0 (n+1) sz none) bad/\
   (zad e (H++[some xs]++[none])).length=H.length+2/\(∀i,i<H.length->(∀m c,a≠ .sl i 0 m sz c)->getB (zad e (H++[some xs]++[none])) i=getB H i)/\(∀i∈keys e,i=H.length+1\/∃m,a= .sl i 0 m sz none)/\(∀i∈rd,i=H.length\/∃m,a= .sl i 0 m sz none):=by
 have hg:getB (H++[some xs]) H.length=some xs:=zbr
 have b1:4*(n+1)*bytes<=2^48:=by
  have:4*(n+1)*bytes<=4*1100*64:=Nat.mul_le_mul (by omega) hb;have:(2:Nat)^48=281474976710656:=rfl;omega
 have b2:n+1<2^62:=by
  have:(2:Nat)^62=4611686018427387904:=rfl;omega
 have hel:zdr (H++[some xs]) sz 1 (.sl H.length 0 1 sz (some 1))=some (xs,[H.length]):=by
  simp only[zdr,hg,need,qB,xZ,Nat.one_mul,hx,and_self,if_true];rw[xW,qY (by omega)]
 rcases h with⟨rfl,rfl,rfl⟩ | ⟨h0,hl,id,rfl,hc,hnb⟩
 ·refine⟨[(H.length+1,some xs)],[H.length],λn0=>?_,.inr ⟨by omega,by simp;omega,H.length+1,rfl,?_,hfr⟩,by simp[zad],?_,?_,?_⟩
  ·simp only[zby,lenA,qT,hel];have b1':4*(0+1)*bytes<=2^48:=b1;simp only[need,xL,if_false,Nat.zero_mul,xC,b1',b2,and_self,if_true,List.take_zero,yZ]
  ·simp only[zad];rw[zbd (by simp)];rfl
  ·intro i hi _;simp only[zad];rw[zah (by omega),xD,zca hi]
  ·intro i hi;simp[keys]at hi;exact .inl hi
  ·intro i hi;simp at hi;exact .inl hi
 ·have hid:=zal hc;have hc2:getB (H++[some xs]) id=some cs:=by rw[zca hid];exact hc
  refine⟨[(id,none),(H.length+1,some (cs++xs))],[id,H.length],λn0=>?_,.inr ⟨by omega,by rw[xA,hl,hx,Nat.add_mul,Nat.one_mul],H.length+1,rfl,?_,hfr⟩,by simp[zad],?_,?_,?_⟩
  ·simp only[zby,lenA,qT,hel,hc2];have e1:¬((none:Option Nat)=some n):=by simp
   have e2:id≠H.length+1:=by omega
   simp only[need,xL,if_false,hl,qB,b1,b2,and_self,if_true,e1,xC,hs,e2,ne_eq,not_false_eq_true];rw[qY (by omega)]
  ·simp only[zad];rw[zbd (by simp)]
  ·intro i hi ha;simp only[zad];rw[zah (by omega),zah (λe=>ha n none (by rw[e])),xD,zca hi]
  ·intro i hi;simp[keys]at hi;rcases hi with e | e
   ·exact .inr ⟨n,by rw[e]⟩
   ·exact .inl e
  ·intro i hi;simp at hi;rcases hi with e | e
   ·exact .inr ⟨n,by rw[e]⟩
   ·exact .inl e
def i64n(l:List Nat):List AV:=l.map λ(n:Nat)=>AV.int .i64 (n:Int)
theorem zfw(l:List Nat):(i64n l).length=l.length:=by simp[i64n]
theorem zwk(l:List Nat)(i:Nat)(h:i<l.length)(d:AV):(i64n l).getD i d= .int .i64 ((l.getD i 0:Nat):Int):=by simp[i64n,h]
theorem ztn(l:List Nat)(m d:Nat)(H:Heap):(i64n l).mapM (frzI m H (d+1))=some (i64n l):=by
 refine znh (λa ha=>?_);simp only[i64n,List.mem_map]at ha;obtain⟨n,_,rfl⟩:=ha;rfl
theorem qrg{H:Heap}{id n:Nat}{c:Option Nat}{l:List Nat}(hb:getB H id=some (i64n l))(hn:n=l.length):AL.Fin 0 (.sl id 0 n 1 c) H (.vec (i64n l) n c) []:=by
 refine .freeze 2 _ _ _ ?_ (by intro i cs h;omega);have e:=ztn l 0 0 H;rw[frzI];simp only[xM,if_false,hb,need,xZ,yQ,hn,zfw,qB,if_true,xW];rw[qY (by rw[zfw];omega),e];rfl
theorem jct(k more:Nat)(hk:k<=16):Rt 186 [.int .i64 (k:Nat),.int .i64 (more:Nat)] [] (.vec (i64n (List.range k++[more])) (k+1) none) []:=by
 refine oF o186 ?_;simp only[c186,r186_0,r186_1,r186_2,SS,reduceCtorEq];refine zaf (λm E H=>∃i a,i+m=k/\E 0= .int .i64 (k:Nat)/\E 1= .int .i64 (more:Nat)/\E 5=a/\E 6= .int .i64 (i:Nat)/\Grow H 1 i (i64n (List.range i)) a []) (n:=k) ⟨0,_,by omega,by simp only[UU,qQ],by simp only[UU,qQ],rfl,by simp only[UU,qQ,reduceIte];rfl,.inl ⟨rfl,rfl,by simp only[UU,qQ,reduceIte]⟩⟩ ?_;rintro m E H ⟨i,a,him,e0,e1,e5,e6,hG⟩;refine wM ?_;simp only[l186_0,r186_3,SS,reduceCtorEq,reduceIte,qQ,e0,e6];refine⟨λhlt=>?_,λhge=>?_⟩
 ·obtain⟨m,rfl⟩:∃m',m=m'+1:=⟨m-1,by omega⟩
  have w5:=wS1 i (by omega);obtain⟨e,rd,hap,hG2,hl2,hk2,_,_⟩:=zha (bytes:=8) (xs:=[.int .i64 (i:Nat)]) hG rfl rfl (by omega) (by omega) (by simp);simp only[r186_4,r186_5,SS,reduceIte,qQ,qZ,e5,e6,zdi,hap,w5];refine⟨m,_,_,by omega,⟨i+1,_,by omega,?_,?_,rfl,?_,?_⟩,.refl⟩
  ·simp only[UU,qQ,e0]
  ·simp only[UU,qQ,e1]
  ·simp only[UU,qQ,reduceIte]
  ·have:i64n (List.range i)++[.int .i64 ((i:Nat):Int)]=i64n (List.range (i+1)):=by simp[i64n,List.range_succ]
   rw[this]at hG2;simp only[UU,qQ,reduceIte];exact hG2
 ·have hm:i=k:=by omega
  subst hm;obtain⟨e,rd,hap,hG2,hl2,hk2,_,_⟩:=zha (bytes:=8) (xs:=[.int .i64 (more:Nat)]) hG rfl rfl (by omega) (by omega) (by simp);simp only[r186_6,SS,reduceIte,qQ,qZ,e5,e1,zdi,hap];refine⟨.inl trivial,_,rfl,?_⟩;rcases hG2 with⟨h,_⟩ | ⟨_,_,id,h1,h2,_⟩
  ·omega
  ·have:i64n (List.range i)++[.int .i64 ((more:Nat):Int)]=i64n (List.range i++[more]):=by simp[i64n]
   rw[this]at h2;injection h1 with h1
   rw[h1];exact qrg h2 (by simp)
def zwl(H:Heap)(n:Nat)(ps:List (Nat×Option Nat))(M:List (List Int)):Prop:=ps.length=M.length/\∀i,i<M.length->(M.getD i []).length=n/\∃cs,getB H (pid ps i)=some cs/\RowC (M.getD i []) cs
theorem qyc{H:Heap}{r:List Int}{cs:List AV}{a:AV}{bad:List Nat}(h:Grow H 2 r.length cs a bad)(hr:RowC r cs)(h0:r≠[]):∃id,a= .sl id 0 r.length 2 none/\getB H id=some cs/\id∉bad:=by
 rcases h with⟨h,_⟩ | ⟨_,_,id,h1,h2,h3⟩
 ·exact absurd (List.length_eq_zero_iff.1 h) h0
 ·exact⟨id,h1,h2,h3⟩
theorem zwm{m:Nat}{H:Heap}{n:Nat}{ps:List (Nat×Option Nat)}{M:List (List Int)}(h:zwl H n ps M)(hm:∀q∈ps,m<=q.1):∃vs,(ps.map (zck n)).mapM (frzI m H 2)=some vs/\vs.length=M.length/\∀i,i<M.length->zfu (M.getD i []) (vs.getD i .junk):=by
 obtain⟨hl,hr⟩:=h
 have key:∀(qs:List (Nat×Option Nat)) (N:List (List Int)),qs.length=N.length->(∀q∈qs,m<=q.1)->(∀i,i<N.length->(N.getD i []).length=n/\∃cs,getB H (pid qs i)=some cs/\RowC (N.getD i []) cs)->
   ∃vs,(qs.map (zck n)).mapM (frzI m H 2)=some vs/\vs.length=N.length/\∀i,i<N.length->zfu (N.getD i []) (vs.getD i .junk):=by
  intro qs
  induction qs with
  |nil=>
   intro N hN _ _;exact⟨[],rfl,hN,λi hi=>absurd hi (by rw[<-hN];simp)⟩
  |cons q qs ih=>
   intro N hN hm hr
   match N,hN with
   |r::N,hN=>
    obtain⟨vs,h1,h2,h3⟩:=ih N (by simpa using hN) (λq hq=>hm q (by simp[hq])) (λi hi=>by
     have:=hr (i+1) (by simpa using hi);simpa[pid]using this)
    obtain⟨hn,cs,hb,hc⟩:=hr 0 (by simp);have hb:getB H q.1=some cs:=hb;have hn:r.length=n:=hn;have hc:RowC r cs:=hc;have hcl:=zcp hc
    have e1:frzI m H 2 (zck n q)=some (.vec cs n q.2):=by
     have e:=qbu hc m 0 H;unfold zck;rw[frzI];simp only[Nat.not_lt.2 (hm q (by simp)),if_false,hb,need,xZ,hcl,hn,qB,if_true,xW];rw[qY (by omega),e];rfl
    refine⟨.vec cs n q.2::vs,?_,by simp[h2],?_⟩
    ·rw[List.map_cons,List.mapM_cons,e1,h1];rfl
    ·intro i hi;cases i with
     |zero=>exact⟨cs,q.2,by rw[<-hn];rfl,hc⟩
     |succ i=>simpa using h3 i (by simpa using hi)
 exact key ps M hl hm hr
theorem zto{H:Heap}{n:Nat}{ps:List (Nat×Option Nat)}{M:List (List Int)}(h:zwl H n ps M):∃vs,(ps.map (zck n)).mapM (frzI 0 H 2)=some vs/\vs.length=M.length/\∀i,i<M.length->zfu (M.getD i []) (vs.getD i .junk):=
 zwm h λ_ _=>xC _
theorem qrh{H:Heap}{n:Nat}{ps:List (Nat×Option Nat)}{M:List (List Int)}{o:Nat}(ho:getB H o=some (ps.map (zck n)))(h:zwl H n ps M):∃v,AL.Fin 0 (.sl o 0 M.length 1 none) H v []/\v.wk=matC M:=by
 obtain⟨vs,h1,h2,h3⟩:=zto h;have hl:=h.1;refine⟨.vec vs M.length none,.freeze 3 _ _ _ ?_ (by intro i cs h;omega),zzs ⟨vs,none,rfl,h2,h3⟩⟩;rw[frzI];simp only[xM,if_false,ho,need,xZ,yQ,qM,hl,qB,if_true,xW];rw[qY (by simp[hl]),h1];rfl
theorem zjo{H:Heap}{sz n:Nat}{cs:List AV}{a:AV}{bad:List Nat}(h:Grow H sz n cs a bad){x:Nat}(hx:x∈bad):∀m c,a≠ .sl x 0 m sz c:=by
 intro m c e;rcases h with⟨_,_,h⟩ | ⟨_,_,id,h1,_,h3⟩
 ·rw[h]at e;simp at e
 ·rw[h1]at e;injection e with e1
  exact h3 (e1 ▸ hx)
theorem qyd{M:List (List Int)}{n:Nat}{rows:List AV}{c c2:Option Nat}{ks:List Nat}(hl:rows.length=M.length)(hr:∀i,i<M.length->zfu (M.getD i []) (rows.getD i .junk))(hc:∀i,i<M.length->(M.getD i []).length=n){i:Nat}(hi:i<M.length)(hks:∀k∈ks,k<n)(hkl:ks.length<=16)(hn:n<=16)(hN:M.length<=16)
  {v7 v13 v14 v15:AV} {bad:List Nat} {H0:Heap} (hbad:∀x∈bad,x<H0.length) {E:Env} {Q:Post} (e0:E 0= .vec rows M.length c) (e2:E 2= .vec (i64n ks) ks.length c2) (e7:E 7=v7) (e9:E 9= .int .i64 (i:Nat)) (e10:E 10= .vec [] 0 (some 0)) (e13:E 13=v13) (e14:E 14=v14) (e15:E 15=v15)
  (e19:E 19= .vec (i64n ks) ks.length c2) (e20:E 20= .int .i64 (ks.length:Nat)) (e21:E 21= .int .i64 0)
  (hQ:∀E' H' cs,E' 0= .vec rows M.length c->E' 2= .vec (i64n ks) ks.length c2->E' 7=v7->E' 13=v13->E' 14=v14->E' 15=v15->RowC (selR M i ks) cs->Grow H' 2 ks.length cs (E' 10) bad->(∀x∈bad,getB H' x=getB H0 x)->H0.length<=H'.length->Q (.exit 2) E' H'):
  Wg 0 42 (.loop l185_1) E H0 Q:=by
 refine zaf (λm E H=>∃j cs,j+m=ks.length/\E 0= .vec rows M.length c/\E 2= .vec (i64n ks) ks.length c2/\E 7=v7/\E 9= .int .i64 (i:Nat)/\E 13=v13/\E 14=v14/\E 15=v15/\E 19= .vec (i64n ks) ks.length c2/\E 20= .int .i64 (ks.length:Nat)/\E 21= .int .i64 (j:Nat)/\
  RowC (selR M i (ks.take j)) cs/\Grow H 2 j cs (E 10) bad/\(∀x∈bad,getB H x=getB H0 x)/\H0.length<=H.length) (n:=ks.length) ⟨0,[],by omega,e0,e2,e7,e9,e13,e14,e15,e19,e20,e21,trivial,.inl ⟨rfl,rfl,e10⟩,λ_ _=>rfl,qB _⟩ ?_
 clear e0 e2 e7 e9 e10 e13 e14 e15 e19 e20 e21 E;rintro m E H ⟨j,cs,hjm,e0,e2,e7,e9,e13,e14,e15,e19,e20,e21,hrc,hG,hkeep,hlen⟩;refine wM ?_;simp only[l185_1,r185_7,SS,reduceIte,e20,e21];refine⟨λhlt=>?_,λhge=>?_⟩
 ·obtain⟨m,rfl⟩:∃m',m=m'+1:=⟨m-1,by omega⟩
  have hj:j<ks.length:=by omega
  have gk:=zwk ks j hj AV.junk
  have hkj:ks.getD j 0<n:=by
   rw[qX,qK hj];exact hks _ (qO _)
  obtain⟨csi,ci,hei,hci⟩:=hr i hi;have hcl:=zcp hci;obtain⟨u,v,hu,hz⟩:=zev hci (ks.getD j 0) (by rw[hc i hi];exact hkj);have w5:=wS1 j (by omega);have hs:=zhy (r:=[(M.getD i []).getD (ks.getD j 0) 0]) (cs:=[u,v]) ⟨hz,trivial⟩;obtain⟨e,rd,hap,hG2,hl2,hk2,_,_⟩:=zha (bytes:=32) (xs:=[u,v]) hG rfl hs (by omega) (by omega) (by intro hm;have:=hbad _ hm;omega);obtain⟨lz,cz,hz1,hz2⟩:=zam hz;subst hz1 hz2;simp only[r185_8,r185_9,r185_10,SS,fC,reduceCtorEq,reduceIte,qJ,qQ,qZ,e0,e9,e19,e21,qV,gk,zfw,hl,hei,hcl,hc i hi,hu,zdi,hap,w5];refine⟨⟨by omega,by omega⟩,by omega,⟨by omega,by omega⟩,by omega,⟨by omega,by omega⟩,by omega,?_⟩
  have htk:ks.take (j+1)=ks.take j++[ks.getD j 0]:=by
   rw[xK,qX,qK hj];rfl
  refine⟨m,_,_,by omega,⟨j+1,cs++[AV.bool (decide ((M.getD i []).getD (ks.getD j 0) 0<0)),AV.vec (u32s lz) lz.length cz],by omega,?_,?_,?_,?_,?_,?_,?_,?_,?_,?_,?_,?_,?_,?_⟩,.refl⟩
  ·simp only[UU,qQ,e0]
  ·simp only[UU,qQ,e2]
  ·simp only[UU,qQ,e7]
  ·simp only[UU,qQ,e9]
  ·simp only[UU,qQ,e13]
  ·simp only[UU,qQ,e14]
  ·simp only[UU,qQ,e15]
  ·simp only[UU,qQ,e19]
  ·simp only[UU,qQ,e20]
  ·simp only[UU,qQ,reduceIte]
  ·rw[htk];unfold selR;rw[xV];exact zkj hrc _ _ _ hz
  ·simp only[UU,qQ,reduceIte];exact hG2
  ·intro x hx;have hxl:=hbad x hx;rw[hk2 x (by omega) (zjo hG hx)];exact hkeep x hx
  ·omega
 ·have hm:j=ks.length:=by omega
  subst hm;rw[xQ]at hrc;exact hQ _ _ cs (by simp only[UU,qQ,e0]) (by simp only[UU,qQ,e2]) (by simp only[UU,qQ,e7]) (by simp only[UU,qQ,e13]) (by simp only[UU,qQ,e14]) (by simp only[UU,qQ,e15]) hrc (by simp only[UU,qQ];exact hG) hkeep hlen
theorem qkn{M:List (List Int)}{a:AV}{n:Nat}{rs ks:List Nat}{c1 c2:Option Nat}(h:MatV M a)(hN:M.length<=16)(hn:n<=16)(hc:∀i,i<M.length->(M.getD i []).length=n)(hrs:∀i∈rs,i<M.length)(hrl:1<=rs.length/\rs.length<=16)(hks:∀k∈ks,k<n)(hkl:1<=ks.length/\ks.length<=16):
  Rt 185 [a,.vec (i64n rs) rs.length c1,.vec (i64n ks) ks.length c2] [] (matC (selM M rs ks)) []:=by
 obtain⟨rows,c,rfl,hl,hr⟩:=h;refine oFw o185 ?_;simp only[c185,r185_0,r185_1,r185_2,SS,reduceCtorEq,reduceIte,qQ]
 refine zaf (λm E H=>∃i ps,i+m=rs.length/\E 0= .vec rows M.length c/\E 2= .vec (i64n ks) ks.length c2/\E 13= .vec (i64n rs) rs.length c1/\E 14= .int .i64 (rs.length:Nat)/\E 15= .int .i64 (i:Nat)/\
  Grow H 1 i (ps.map (zck ks.length)) (E 7) (ps.map (·.1))/\zwl H ks.length ps (selM M (rs.take i) ks)/\∀x∈ps.map (·.1),x<H.length) (n:=rs.length) ⟨0,[],by omega,?_,?_,?_,?_,?_,.inl ⟨rfl,rfl,?_⟩,⟨rfl,λi hi=>absurd hi (by simp[selM])⟩,by simp⟩ ?_
 ·simp only[UU,qQ]
 ·simp only[UU,qQ]
 ·simp only[UU,qQ,reduceIte]
 ·simp only[UU,qQ,reduceIte]
 ·simp only[UU,qQ,reduceIte];rfl
 ·simp only[UU,qQ,reduceIte]
 rintro m E H ⟨i,ps,him,e0,e2,e13,e14,e15,hG,hR,hlt⟩;refine wM ?_;simp only[l185_0,r185_3,SS,reduceCtorEq,reduceIte,e14,e15];refine⟨λhlt2=>?_,λhge=>?_⟩
 ·obtain⟨m,rfl⟩:∃m',m=m'+1:=⟨m-1,by omega⟩
  have hi:i<rs.length:=by omega
  have gr:=zwk rs i hi AV.junk
  have hri:rs.getD i 0<M.length:=by
   rw[qX,qK hi];exact hrs _ (qO _)
  have w5:=wS1 i (by omega);simp only[r185_4,r185_5,r185_6,SS,fC,reduceIte,qQ,e2,e13,e15,qV,gr,zfw];refine⟨⟨by omega,by omega⟩,by omega,?_⟩
  have hbad:∃bad:List Nat,(∀x∈bad,x<H.length)/\(∀x∈ps.map (·.1),x∈bad)/\(∀id,E 7= .sl id 0 i 1 none->id∈bad):=by
   rcases hG with⟨_,_,h7⟩ | ⟨_,_,id,h7,hb,_⟩
   ·exact⟨ps.map (·.1),hlt,λx hx=>hx,λid hid=>by rw[h7]at hid;simp at hid⟩
   ·refine⟨id::ps.map (·.1),?_,λx hx=>by simp only[qN];exact .inr hx,λid' hid=>?_⟩
    ·intro x hx;rcases List.mem_cons.1 hx with e | e
     ·rw[e];exact zal hb
     ·exact hlt x e
    ·rw[h7]at hid;injection hid with hid
     rw[<-hid];simp
  obtain⟨bad,hb1,hb2,hb3⟩:=hbad;refine qyd (c:=c) (c2:=c2) (bad:=bad) (v7:=E 7) (v13:= .vec (i64n rs) rs.length c1) (v14:= .int .i64 (rs.length:Nat)) (v15:= .int .i64 (i:Nat)) hl hr hc hri hks hkl.2 hn hN hb1 ?_ ?_ ?_ ?_ ?_ ?_ ?_ ?_ ?_ ?_ ?_ (λE1 H1 cs f0 f2 f7 f13 f14 f15 hrc hG1 hkeep hlen=>?rest)
  case rest=>
   have hsl:(selR M (rs.getD i 0) ks).length=ks.length:=by simp[selR]
   rw[<-hsl]at hG1;obtain⟨id,hid,hgb,hnb⟩:=qyc hG1 hrc (by intro e;rw[e]at hsl;simp at hsl;omega);rw[hsl]at hid;have hidlt:=zal hgb
   have hG7:Grow H1 1 i (ps.map (zck ks.length)) (E1 7) (id::ps.map (·.1)):=by
    rw[f7];refine hG.mono (λid' h1 h2=>by rw[hkeep id' (hb3 id' h2)];exact h1) (λid' h2 h3=>?_);intro hm;rcases List.mem_cons.1 hm with e | e
    ·exact hnb (e ▸ hb3 id' h2)
    ·exact h3 e
   obtain⟨e,rd,hap,hG2,hl2,hk2,_,_⟩:=zha (bytes:=24) (xs:=[.sl id 0 ks.length 2 none]) hG7 rfl rfl (by omega) (by omega) (by
    intro hm;rcases List.mem_cons.1 hm with e | e
    ·omega
    ·have:=hlt _ e;omega)
   simp only[r185_11,r185_12,SS,reduceCtorEq,reduceIte,qQ,qZ,hid,f15,zdi,hap,w5];refine⟨m,_,_,by omega,⟨i+1,ps++[(id,none)],by omega,?_,?_,?_,?_,?_,?_,?_,?_⟩,.refl⟩
   ·simp only[UU,qQ,f0]
   ·simp only[UU,qQ,f2]
   ·simp only[UU,qQ,f13]
   ·simp only[UU,qQ,f14]
   ·simp only[UU,qQ,reduceIte]
   ·simp only[UU,qQ,reduceIte];have e3:(ps++[(id,none)]).map (zck ks.length)=ps.map (zck ks.length)++[.sl id 0 ks.length 2 none]:=by simp[zck]
    rw[e3];refine hG2.mono (λ_ h _=>h) (λid' _ h3 hm=>h3 ?_);rw[xV]at hm;rcases List.mem_append.1 hm with e | e
    ·simp only[qN];exact .inr e
    ·simp at e;simp[e]
   ·have hps:=hR.1
    have htk:rs.take (i+1)=rs.take i++[rs.getD i 0]:=by
     rw[xK,qX,qK hi];rfl
    have hml:(selM M (rs.take i) ks).length=i:=by simp[selM];omega
    refine⟨by rw[htk];simp[selM]at hps ⊢;omega,λi' hi'=>?_⟩;rw[htk]at hi' ⊢;have hsm:selM M (rs.take i++[rs.getD i 0]) ks=selM M (rs.take i) ks++[selR M (rs.getD i 0) ks]:=by simp[selM]
    rw[hsm]at hi' ⊢;rw[xA,xN,hml]at hi';rcases xU i' i with hii | hii
    ·have e4:(selM M (rs.take i) ks++[selR M (rs.getD i 0) ks]).getD i' []=(selM M (rs.take i) ks).getD i' []:=by
      rw[qX,qS (by omega),<-qX]
     have e5:pid (ps++[(id,none)]) i'=pid ps i':=by
      unfold pid;rw[qX,qS (by omega),<-qX]
     rw[e4,e5];obtain⟨g1,cs',g2,g3⟩:=hR.2 i' (by omega);have hpm:=zfm (ps:=ps) (i:=i') (by omega);refine⟨g1,cs',?_,g3⟩;rw[hk2 _ (by have:=hlt _ hpm;omega) (zjo hG7 (by simp only[qN];exact .inr hpm)),hkeep _ (hb2 _ hpm)];exact g2
    ·have e4:(selM M (rs.take i) ks++[selR M (rs.getD i 0) ks]).getD i' []=selR M (rs.getD i 0) ks:=by
      rw[qX,qE (by omega),show i'-(selM M (rs.take i) ks).length=0 by omega];rfl
     have e5:pid (ps++[(id,none)]) i'=id:=by
      unfold pid;rw[qX,qE (by omega),show i'-ps.length=0 by omega];rfl
     rw[e4,e5];refine⟨hsl,cs,?_,hrc⟩;rw[hk2 _ hidlt (zjo hG7 (by simp))];exact hgb
   ·intro x hx;rw[xV]at hx;rcases List.mem_append.1 hx with e | e
    ·have:=hlt x e;omega
    ·simp at e;omega
  all_goals simp only[UU,qQ,reduceIte, *]
 ·have hm:i=rs.length:=by omega
  subst hm;rw[xQ]at hR;simp only[r185_13,SS,reduceIte,qQ];rcases hG with⟨h0,_⟩ | ⟨_,_,id,h7,hb,_⟩
  ·omega
  ·obtain⟨v,hv1,hv2⟩:=qrh hb hR;have hml:(selM M rs ks).length=rs.length:=by simp[selM]
   rw[hml]at hv1;exact⟨.inl trivial,_,v,rfl,by rw[h7];exact hv1,hv2⟩
structure Sq(n:Nat)(M:List (List Int))(a:AV):Prop where
 mat:MatV M a
 len:M.length=n
 cols:∀i,i<n->(M.getD i []).length=n
 lo:1<=n
 hi:n<=8
theorem Sq.shape{n:Nat}{M:List (List Int)}{a:AV}(h:Sq n M a):ztk M:=by
 refine⟨by rw[h.len];exact h.lo,by rw[h.len];have:=h.hi;omega,λi hi=>?_⟩;rw[h.len]at hi;rw[h.cols i hi,h.cols 0 h.lo];have:=h.lo;have:=h.hi;omega
theorem Sq.closed{n:Nat}{M:List (List Int)}{a:AV}(h:Sq n M a):a.closed=true:=by
 obtain⟨rows,c,rfl,_⟩:=h.mat;rfl
theorem qko{n:Nat}{M:List (List Int)}{a:AV}(h:Sq n M a):Rt 118 [a] [] (.tup [.int .i64 (n:Nat),.bool true]) []:=by
 have t:=zwe h.mat h.shape;rw[h.len,h.cols 0 h.lo]at t;have c1:qW [a]=true:=by simp only[qW,h.closed,qL]
 refine oF o118 ?_;simp only[c118,r118_0,r118_1,SS,reduceCtorEq,reduceIte];refine zaa t ?_ c1;simp only[SS,reduceIte,qQ,qD,qH];have d1:decide (((n:Nat):Int)≠(n:Nat))=false:=by simp
 simp only[r118_2,SS,fC,reduceIte,qQ,d1];simp only[r118_4,SS,reduceIte,qQ];exact dR
theorem qye{n:Nat}{M:List (List Int)}{a:AV}(h:Sq n M a){k:Nat}(hk:k<n):Sq (k+1) (minK M k) (matC (minK M k))/\(minK M k).length=k+1:=by
 have hl:(minK M k).length=k+1:=by simp[minK,selM]
 have hf:=zwj h.mat
 have hent:∀i j,i<n->j<n->(ent M i j).natAbs<BIG:=by
  intro i j hi hj;have hc:=h.cols i hi;unfold ent;rw[qX (l:=M.getD i []),qK (by omega)];have hm:M.getD i []∈M:=by rw[qX,qK (by rw[h.len];exact hi)];exact qO _
  exact hf _ hm _ (qO _)
 refine⟨⟨zly ?_,hl,?_,by omega,by have:=h.hi;omega⟩,hl⟩
 ·intro r hr z hz;obtain⟨i,hi,rfl⟩:=List.mem_map.1 hr;obtain⟨j,hj,rfl⟩:=List.mem_map.1 hz
  have hb:∀x∈List.range k++[k],x<n:=by
   intro x hx;rcases List.mem_append.1 hx with e | e
   ·have:=List.mem_range.1 e;omega
   ·simp at e;omega
  exact hent i j (hb i hi) (hb j hj)
 ·intro i hi;unfold minK selM;rw[qX,qG,qK (by simp;omega)];simp[selR]
theorem zlz(z:Int):(intV z).cells=[.bool (decide (z<0)),.vec (u32s (zau z.natAbs)) (zau z.natAbs).length none]:=rfl
theorem qri{H:Heap}{id n:Nat}{r:List Int}{cs:List AV}{b:Bool}(hb:getB H id=some cs)(hr:RowC r cs)(hn:n=r.length):AL.Fin 0 (.tup [.sl id 0 n 2 none,.bool b]) H (.tup [.vec cs n none,.bool b]) []:=by
 refine .freeze 3 _ _ _ ?_ (by intro i cs h;omega);have e:=qbu hr 0 0 H;have hl:=zcp hr
 have e1:frzI 0 H 2 (.sl id 0 n 2 none)=some (.vec cs n none):=by
  rw[frzI];simp only[xM,if_false,hb,need,xZ,hn,hl,qB,if_true,xW];rw[qY (by omega),e];rfl
 rw[frzI];simp only[List.mapM_cons,List.mapM_nil,e1];rfl
theorem ztp{B n:Nat}{M:List (List Int)}{a:AV}{ds:List Int}(hB:DivB B)(h:Sq n M a)(hd:zkk B M=some ds):Rt 124 [a] [] (.tup [rowV ds,.bool true]) []:=by
 have hl:ds.length=n:=by rw[<-h.len];exact zdg hd
 have ts:=qko h;have c1:qW [a]=true:=by simp only[qW,h.closed,qL]
 have hn8:=h.hi;have hn1:=h.lo;refine oFw o124 ?_;simp only[c124,r124_0,r124_1,SS,reduceCtorEq,reduceIte];refine zaa ts ?_ c1;simp only[SS,reduceIte,qQ,qD,qH];simp only[r124_2,SS,fC,reduceIte,qQ];simp only[r124_4,r124_5,SS];refine zaf (λm E H=>∃k cs,k+m=n/\E 0=a/\E 4= .int .i64 (n:Nat)/\E 7= .int .i64 (k:Nat)/\RowC (ds.take k) cs/\Grow H 2 k cs (E 6) []) (n:=n) ⟨0,[],by omega,?_,?_,?_,trivial,.inl ⟨rfl,rfl,?_⟩⟩ ?_
 ·simp only[UU,qQ]
 ·simp only[UU,qQ,reduceIte]
 ·simp only[UU,qQ,reduceIte];rfl
 ·simp only[UU,qQ,reduceIte]
 rintro m E H ⟨k,cs,hkm,e0,e4,e7,hrc,hG⟩;refine wM ?_;simp only[l124_0,r124_6,SS,reduceCtorEq,reduceIte,qQ,e4,e7];refine⟨λhlt=>?_,λhge=>?_⟩
 ·obtain⟨m,rfl⟩:∃m',m=m'+1:=⟨m-1,by omega⟩
  have hk:k<n:=by omega
  have hpre:zds B M (k+1)=some (ds.take (k+1)):=by
   have:zds B M ((k+1)+m)=some ds:=by rw[show(k+1)+m=M.length by rw[h.len];omega];exact hd
   exact zoz this
  have hpre0:zds B M k=some (ds.take k):=by
   have:zds B M (k+(m+1))=some ds:=by rw[show k+(m+1)=M.length by rw[h.len];omega];exact hd
   exact zoz this
  simp only[zds,hpre0,qT,qU,qC]at hpre;obtain⟨d,hdet,d',hck,htake⟩:=hpre;obtain⟨rfl,hfit⟩:=zcr hck;obtain⟨hsq,hml⟩:=qye h hk;have hrl:(List.range k++[k]).length=k+1:=by simp
  have tf:=jct k k (by omega);rw[<-hrl]at tf
  have hb:∀x∈List.range k++[k],x<n:=by
   intro x hx;rcases List.mem_append.1 hx with e | e
   ·have:=List.mem_range.1 e;omega
   ·simp at e;omega
  have tsel:=qkn (n:=n) (rs:=List.range k++[k]) (ks:=List.range k++[k]) (c1:=none) (c2:=none) h.mat (by rw[h.len];omega) (by omega) (λi hi=>h.cols i (by rw[<-h.len];exact hi)) (λx hx=>by rw[h.len];exact hb x hx) (by omega) hb (by omega);have tdet:=mDet hB hsq.mat (by rw[hml];omega) (λi hi=>by rw[hml]at hi ⊢;exact hsq.cols i hi) hdet;have c2:qW [a,.vec (i64n (List.range k++[k])) (List.range k++[k]).length none,.vec (i64n (List.range k++[k])) (List.range k++[k]).length none]=true:=by simp only[qW,h.closed,AV.closed,qL]
  have hz:zag d' (intV d'):=zbk (qP hfit hB.1);have w5:=wS1 k (by omega);obtain⟨e,rd,hap,hG2,hl2,hk2,_,_⟩:=zha (bytes:=32) (xs:=[.bool (decide (d'<0)),.vec (u32s (zau d'.natAbs)) (zau d'.natAbs).length none]) hG rfl rfl (by omega) (by omega) (by simp);simp only[r124_7,SS,reduceCtorEq,reduceIte,qQ,e0,e7];refine zaa tf ?_;simp only[SS,reduceIte,qQ,e7];refine zaa tf ?_;simp only[SS,reduceIte,qQ];refine zaa tsel ?_ c2;simp only[SS,reduceIte,qQ];refine zaa tdet ?_;simp only[SS,reduceIte,qJ,qQ,qZ,zlz,show(intV d').firm=true from rfl];simp only[SS,zdi,hap];simp only[r124_8,SS,reduceIte,qQ,e7,w5];refine⟨m,_,_,by omega,⟨k+1,cs++[.bool (decide (d'<0)),.vec (u32s (zau d'.natAbs)) (zau d'.natAbs).length none],by omega,?_,?_,?_,?_,?_⟩,.refl⟩
  ·simp only[UU,qQ,e0]
  ·simp only[UU,qQ,e4]
  ·simp only[UU,qQ,reduceIte]
  ·rw[<-htake];exact zkj hrc _ _ _ hz
  ·simp only[UU,qQ,reduceIte];exact hG2
 ·have hm:k=n:=by omega
  subst hm;rw[qY (by omega)]at hrc;simp only[r124_9,SS,reduceIte,qQ];rcases hG with⟨h0,_⟩ | ⟨_,_,id,h7,hb,_⟩
  ·omega
  ·refine⟨.inl trivial,_,.tup [.vec cs k none,.bool true],rfl,?_,?_⟩
   ·simp only[UU,qQ,reduceIte,h7];exact qri hb hrc hl.symm
   ·simp only[AV.wk,AV.wk.wkL,qkj hrc,rowV,hl]
theorem quw{n:Nat}{M:List (List Int)}{rows:List AV}(hr:∀i,i<M.length->zfu (M.getD i []) (rows.getD i .junk))(hlen:M.length=n)(hc:∀i,i<n->(M.getD i []).length=n){i:Nat}(hi:i<n):∃cs c,rows.getD i .junk= .vec cs n c/\cs.length=n*2/\
  ∀j,j<n->∃u v,(cs.drop (j*2)).take 2=[u,v]/\zag (ent M i j) (.agg [u,v]):=by
 obtain⟨cs,c,h1,h2⟩:=hr i (by omega);have hl:=zcp h2;rw[hc i hi]at h1 hl;exact⟨cs,c,h1,hl,λj hj=>zev h2 j (by rw[hc i hi];exact hj)⟩
theorem zrj{n:Nat}{M:List (List Int)}{a:AV}(h:Sq n M a):Rt 119 [a] [] (.bool (symB M)) []:=by
 obtain⟨⟨rows,c,rfl,hl,hr⟩,hlen,hc,hlo,hhi⟩:=h;refine oF o119 ?_;simp only[c119,r119_0,r119_1,SS,reduceCtorEq,reduceIte];rw[hlen];refine zaf (λm E H=>∃i,i+m=n/\E 0= .vec rows n c/\E 6= .int .i64 (n:Nat)/\E 7= .int .i64 (i:Nat)/\H=[]/\∀i',i'<i->∀j,j<i'->ent M i' j=ent M j i') (n:=n) ⟨0,by omega,?_,?_,?_,rfl,λi' h=>absurd h (by omega)⟩ ?_
 ·simp only[UU,qQ]
 ·simp only[UU,qQ,reduceIte]
 ·simp only[UU,qQ,reduceIte];rfl
 rintro m E H ⟨i,him,e0,e6,e7,rfl,hsym⟩;refine wM ?_;simp only[l119_0,r119_2,SS,reduceCtorEq,reduceIte,e6,e7];refine⟨λhlt=>?_,λhge=>?_⟩
 ·obtain⟨m,rfl⟩:∃m',m=m'+1:=⟨m-1,by omega⟩
  have hi:i<n:=by omega
  have w5:=wS1 i (by omega);simp only[r119_3,r119_4,SS,reduceIte,qQ,e7];refine zaf (λm2 E H=>∃j,j+m2=i/\E 0= .vec rows n c/\E 3= .int .i64 (i:Nat)/\E 4= .int .i64 (j:Nat)/\E 6= .int .i64 (n:Nat)/\E 7= .int .i64 (i:Nat)/\H=[]/\∀j',j'<j->ent M i j'=ent M j' i) (n:=i) ⟨0,by omega,?_,?_,?_,?_,?_,rfl,λj' h=>absurd h (by omega)⟩ ?_
  ·simp only[UU,qQ,e0]
  ·simp only[UU,qQ,reduceIte]
  ·simp only[UU,qQ,reduceIte];rfl
  ·simp only[UU,qQ,e6]
  ·simp only[UU,qQ,e7]
  rintro m2 E2 H2 ⟨j,hjm,f0,f3,f4,f6,f7,rfl,hsj⟩;refine wM ?_;simp only[l119_1,r119_5,SS,reduceCtorEq,reduceIte,qQ,f3,f4];refine⟨λhlt3=>?_,λhge3=>?_⟩
  ·obtain⟨m2,rfl⟩:∃m',m2=m'+1:=⟨m2-1,by omega⟩
   have hj:j<i:=by omega
   obtain⟨ci,cci,gi,li,fi⟩:=quw hr hlen hc (i:=i) hi;obtain⟨cj,ccj,gj,lj,fj⟩:=quw hr hlen hc (i:=j) (by omega);obtain⟨u1,v1,x1,y1⟩:=fi j (by omega);obtain⟨u2,v2,x2,y2⟩:=fj i hi;have t:=zCmp y1 y2;have c1:qW [.agg [u1,v1],.agg [u2,v2]]=true:=by simp only[qW,y1.closed,y2.closed,qL]
   have w6:=wS1 j (by omega);have hl':rows.length=n:=by omega
   simp only[r119_6,SS,fC,reduceCtorEq,reduceIte,qQ,f0,f3,f4,qV,gi,gj,li,lj,hl',x1,x2];refine⟨⟨by omega,by omega⟩,by omega,⟨by omega,by omega⟩,by omega,⟨by omega,by omega⟩,by omega,⟨by omega,by omega⟩,by omega,?_⟩;refine zaa t ?_ c1;simp only[SS,reduceIte,qQ];refine⟨rfl,λhne=>?_,λheq=>?_⟩
   ·have hne2:ent M i j≠ent M j i:=by
     intro e;rw[if_neg (by omega),if_pos e]at hne;exact hne rfl
    have hb:symB M=false:=by
     cases hx:symB M with
     |false=>rfl
     |true=>exact absurd (zpa.1 hx i (by omega) j hj) hne2
    rw[hb];simp only[r119_7,SS];exact dR
   ·have heq2:ent M i j=ent M j i:=by
     have heq:(if ent M i j<ent M j i then(-1:Int)else if ent M i j=ent M j i then 0 else 1)=0:=by simpa using heq
     split at heq
     ·omega
     ·split at heq
      ·assumption
      ·omega
    simp only[r119_8,SS,reduceIte,qQ,f4,w6];refine⟨m2,_,_,by omega,⟨j+1,by omega,?_,?_,?_,?_,?_,rfl,?_⟩,.refl⟩
    ·simp only[UU,qQ,f0]
    ·simp only[UU,qQ,f3]
    ·simp only[UU,qQ,reduceIte]
    ·simp only[UU,qQ,f6]
    ·simp only[UU,qQ,f7]
    ·intro j' hj';rcases xU j' j with h | h
     ·exact hsj j' h
     ·rw[show j'=j by omega];exact heq2
  ·simp only[r119_9,SS,reduceIte,qQ,f7,w5];refine⟨m,_,_,by omega,⟨i+1,by omega,?_,?_,?_,rfl,?_⟩,.refl⟩
   ·simp only[UU,qQ,f0]
   ·simp only[UU,qQ,f6]
   ·simp only[UU,qQ,reduceIte]
   ·intro i' hi' j' hj';rcases xU i' i with h | h
    ·exact hsym i' h j' hj'
    ·have:i'=i:=by omega
     subst this;exact hsj j' (by omega)
 ·have hb:symB M=true:=zpa.2 (λi' hi' j hj=>hsym i' (by omega) j hj);rw[hb];simp only[r119_10,SS];exact dR
