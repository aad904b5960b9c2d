/- A part of the proof. -/
import Derived.Test.YtgfbaioffpcelaaGreatDoorPC
import Derived.Test.YtgfbaioffpcelaaGreatDoorProg
import Derived.KernelRfl
set_option linter.all false
set_option maxRecDepth 100000
open Nat renaming reduceEqDiff -> qQ, reduceLeDiff -> qX, reduceAdd -> qZ, le_refl -> qY, add_zero -> qI, lt_of_lt_of_le -> qO, pow_le_pow_right -> qP, pow_succ -> xJ, mul_assoc -> xK, mul_zero -> xW, lt_or_ge -> xV, mul_add -> xY, add_sub_cancel_left -> xU, mod_lt -> xA, zero_add -> xC, mod_eq_of_lt -> xH, mul_one -> xO, zero_le -> yZ, mul_comm -> yK, sub_self -> yA, eq_zero_or_pos -> yD, min_eq_left -> yI, div_add_mod -> yL, one_ne_zero -> yM, one_mul -> yO, mul_le_mul_left -> yR, lt_of_le_of_lt -> zX, zero_mul -> zJ, sub_zero -> zK, lt_trichotomy -> zV, not_lt_zero -> zE, div_lt_self -> zG, pow_dvd_pow -> zI
open List renaming getD_eq_getElem?_getD -> qJ, take_of_length_le -> qW, getElem?_eq_getElem -> qV, getElem?_append_right -> qA, set_append_right -> qB, nodup_cons -> qC, length_set -> qH, take_length -> qM, getElem?_append_left -> qN, getElem?_cons_zero -> qS, length_take -> xQ, getElem_map -> xZ, replicate_zero -> xB, length_map -> xE, getElem?_set_ne -> xG, getElem?_cons_succ -> xI, append_nil -> xM, getElem?_map -> xN, length_cons -> xP, mem_or_eq_of_mem_set -> xS, replicate_succ -> xT, mem_cons -> yQ, getElem?_replicate -> yJ, take_add_one -> yW, take_zero -> yV, drop_zero -> yY, getElem?_set_self -> yU, nil_append -> yB, set_cons_succ -> yC, getElem?_set -> yG, map_map -> yH, getElem?_eq_none -> yN, mapM_cons -> yP, set_cons_zero -> yS, length_append -> yT, map_set -> zZ, append_assoc -> zY, set_set -> zU, getElem_mem -> zB
open Int renaming toNat_natCast -> qK, lt_trichotomy -> qE, natCast_add -> qL, sign_eq_neg_one_of_neg -> qT, sign_eq_one_of_pos -> xD, fdiv_eq_ediv_of_nonneg -> yE, sub_eq_add_neg -> zQ, natCast_zero -> zA, mul_one -> zC, mul_neg -> zD
open Go.AL.AV.closed renaming closedL -> qU
open Option renaming bind_eq_some_iff -> qD, bind_some -> xX
open Option.some renaming injEq -> qG
open Bool renaming false_eq_true -> xL, and_self -> yX, not_eq_true' -> zW
namespace Go.Limb
def val:List Nat->Nat
 | []=>0
 |d::r=>d+4294967296*val r
def Dig(l:List Nat):Prop:= ∀d∈l,d<4294967296
def Top:List Nat->Prop
 | []=>True
 | [d]=>d≠0
 |_::d::r=>Top (d::r)
def zbn(l:List Nat):Prop:=Dig l/\Top l
theorem Dig.nil:Dig []:=by intro d h;simp at h
theorem Dig.cons{d:Nat}{r:List Nat}(h:d<4294967296)(hr:Dig r):Dig (d::r):=by
 intro x hx;rcases List.mem_cons.1 hx with e | e
 ·rw[e];exact h
 ·exact hr x e
theorem Dig.head{d:Nat}{r:List Nat}(h:Dig (d::r)):d<4294967296:=h d (by simp)
theorem Dig.tail{d:Nat}{r:List Nat}(h:Dig (d::r)):Dig r:=λx hx=>h x (by simp[hx])
theorem Dig.append{l r:List Nat}(h:Dig l)(hr:Dig r):Dig (l++r):=by
 intro x hx;rcases List.mem_append.1 hx with e | e
 ·exact h x e
 ·exact hr x e
theorem Dig.take{l:List Nat}(h:Dig l)(n:Nat):Dig (l.take n):=λx hx=>h x (List.mem_of_mem_take hx)
theorem Dig.getD{l:List Nat}(h:Dig l)(i:Nat):l.getD i 0<4294967296:=by
 rw[qJ];cases e:l[i]? with
 |none=>simp
 |some x=>exact h x (List.mem_of_getElem? e)
theorem zbn.nil:zbn []:=⟨Dig.nil,trivial⟩
theorem Top.tail{d:Nat}{r:List Nat}(h:Top (d::r)):Top r:=by
 cases r with
 |nil=>trivial
 |cons x r=>exact h
theorem zbn.tail{d:Nat}{r:List Nat}(h:zbn (d::r)):zbn r:=⟨h.1.tail,h.2.tail⟩
theorem zfd(l r:List Nat):val (l++r)=val l+4294967296^l.length*val r:=by
 induction l with
 |nil=>simp[val]
 |cons d l ih=>
  simp only[List.cons_append,val,ih,xP,xJ,xY]
  have:4294967296*(4294967296^l.length*val r)=4294967296^l.length*4294967296*val r:=by
   rw[<-xK,yK 4294967296]
  omega
theorem zfc{l:List Nat}(h:Dig l):val l<4294967296^l.length:=by
 induction l with
 |nil=>simp[val]
 |cons d l ih=>
  have h1:=ih h.tail;have h2:=h.head;simp only[val,xP,xJ];have:val l+1<=4294967296^l.length:=h1;have:(val l+1)*4294967296<=4294967296^l.length*4294967296:=Nat.mul_le_mul_right _ this;omega
theorem zft{l:List Nat}(ht:Top l)(hl:l≠[]):4294967296^(l.length-1)<=val l:=by
 induction l with
 |nil=>exact absurd rfl hl
 |cons d l ih=>
  cases l with
  |nil=>
   have:d≠0:=ht;simp[val];omega
  |cons x r=>
   have:=ih ht.tail (by simp);simp only[xP,Nat.add_sub_cancel]at this ⊢;rw[val,xJ];omega
theorem zdk:∀{l r:List Nat},zbn l->zbn r->val l=val r->l=r:=by
 intro l
 induction l with
 |nil=>
  intro r _ hr h;cases r with
  |nil=>rfl
  |cons x r=>
   have h1:=zft hr.2 (by simp);have h2:0<4294967296^((x::r).length-1):=Nat.pow_pos (by decide);rw[<-h]at h1;simp only[val]at h1;omega
 |cons d l ih=>
  intro r hl hr h;cases r with
  |nil=>
   have h1:=zft hl.2 (by simp);have h2:0<4294967296^((d::l).length-1):=Nat.pow_pos (by decide);rw[h]at h1;simp only[val]at h1;omega
  |cons x r=>
   simp only[val]at h;have h1:=hl.1.head;have h2:=hr.1.head;have:d=x/\val l=val r:=by omega
   rw[this.1,ih hl.tail hr.tail this.2]
theorem zgl{l:List Nat}(h:zbn l):val l=0↔l=[]:=by
 constructor
 ·intro e;exact zdk h zbn.nil e
 ·intro e;rw[e];rfl
def zdg(l:List Nat):Nat->Nat
 |0=>0
 |n+1=>if l.getD n 0=0 then zdg l n else n+1
theorem zhq(l:List Nat)(n:Nat):zdg l n<=n:=by
 induction n with
 |zero=>simp[zdg]
 |succ n ih=>simp only[zdg];split<;>omega
def zbi(l:List Nat):List Nat:=l.take (zdg l l.length)
theorem qgm{l:List Nat}{d:Nat}(h:d≠0):Top (l++[d]):=by
 induction l with
 |nil=>exact h
 |cons x l ih=>
  cases l with
  |nil=>exact h
  |cons y l=>exact ih
theorem zsi(l:List Nat):∀n,n<=l.length->Top (l.take (zdg l n))/\val (l.take (zdg l n))=val (l.take n):=by
 intro n
 induction n with
 |zero=>intro _;simp[zdg,Top]
 |succ n ih=>
  intro hn
  have e:l.take (n+1)=l.take n++[l.getD n 0]:=by
   rw[yW,qJ,qV (by omega)];rfl
  simp only[zdg];split
  ·rename_i h0;obtain⟨h1,h2⟩:=ih (by omega);refine⟨h1,?_⟩;rw[h2,e,zfd,h0];simp[val]
  ·rename_i h0;refine⟨?_,rfl⟩;rw[e];exact qgm h0
theorem zbc{l:List Nat}(h:Dig l):zbn (zbi l):=⟨h.take _,(zsi l l.length (qY _)).1⟩
theorem zbp(l:List Nat):val (zbi l)=val l:=by
 have:=(zsi l l.length (qY _)).2;rw[qM]at this;exact this
theorem zgc(l:List Nat):(zbi l).length=zdg l l.length:=by
 unfold zbi;rw[xQ];have:=zhq l l.length;omega
def cmpN(m n:List Nat):Nat->Int
 |0=>0
 |i+1=>if m.getD i 0=n.getD i 0 then cmpN m n i else if m.getD i 0<n.getD i 0 then -1 else 1
def cmpL(m n:List Nat):Int:=if m.length=n.length then cmpN m n m.length else if m.length<n.length then -1 else 1
def sgn(a b:Nat):Int:=if a<b then -1 else if a=b then 0 else 1
theorem zmw{l:List Nat}{n:Nat}(h:n<l.length):l.take (n+1)=l.take n++[l.getD n 0]:=by
 rw[yW,qJ,qV h];rfl
theorem qkn{m n:List Nat}(hm:Dig m)(hn:Dig n):∀i,i<=m.length->i<=n.length->cmpN m n i=sgn (val (m.take i)) (val (n.take i)):=by
 intro i
 induction i with
 |zero=>intro _ _;simp[cmpN,sgn,val]
 |succ i ih=>
  intro h1 h2;have e1:=zmw (l:=m) (n:=i) (by omega);have e2:=zmw (l:=n) (n:=i) (by omega);have l1:=zfc (hm.take i);have l2:=zfc (hn.take i);have n1:(m.take i).length=i:=by rw[xQ];omega
  have n2:(n.take i).length=i:=by rw[xQ];omega
  rw[n1]at l1;rw[n2]at l2;rw[cmpN,ih (by omega) (by omega),e1,e2,zfd,zfd,n1,n2];simp only[val,xW,qI];generalize val (m.take i)=a at*;generalize val (n.take i)=b at*;generalize m.getD i 0=x at*;generalize n.getD i 0=y at*;generalize 4294967296^i=p at*;unfold sgn;split
  ·rename_i h;subst h;have:(a+p*x<b+p*x)↔a<b:=by omega
   have h3:(a+p*x=b+p*x)↔a=b:=by omega
   simp only[this,h3]
  ·rename_i h;split
   ·rename_i h3;have:p*(x+1)<=p*y:=yR _ h3;rw[xY]at this;rw[if_pos (by omega)]
   ·rename_i h3;have:p*(y+1)<=p*x:=yR _ (by omega);rw[xY]at this;rw[if_neg (by omega),if_neg (by omega)]
theorem zdw{m n:List Nat}(hm:zbn m)(hn:zbn n):cmpL m n=sgn (val m) (val n):=by
 have key:∀{m n:List Nat},zbn m->zbn n->m.length<n.length->val m<val n:=by
  intro m n hm hn h;have h1:=zfc hm.1;have h2:=zft hn.2 (by intro e;rw[e]at h;simp at h);have h3:4294967296^m.length<=4294967296^(n.length-1):=qP (by decide) (by omega);omega
 unfold cmpL;split
 ·rename_i h;rw[qkn hm.1 hn.1 m.length (qY _) (by omega),qM,h,qM]
 ·rename_i h;split
  ·rename_i h2;have:=key hm hn h2;unfold sgn;rw[if_pos this]
  ·rename_i h2;have:=key hn hm (by omega);unfold sgn;rw[if_neg (by omega),if_neg (by omega)]
def sumL(m n:List Nat):Nat->Nat->Nat->List Nat->List Nat
 |0,_,c,out=>out++[c%4294967296]
 |k+1,i,c,out=>sumL m n k (i+1) ((c+m.getD i 0+n.getD i 0)/4294967296) (out++[(c+m.getD i 0+n.getD i 0)%4294967296])
theorem zbk(l:List Nat)(i:Nat):val (l.take (i+1))=val (l.take i)+4294967296^i*l.getD i 0:=by
 rcases xV i l.length with h | h
 ·rw[zmw h,zfd,xQ,yI (by omega)];simp[val]
 ·rw[qW h,qW (by omega),qJ,yN h];simp
theorem qko(m n:List Nat)(hm:Dig m)(hn:Dig n):∀(k i c:Nat) (out:List Nat),c<=1->out.length=i->Dig out->m.length<=i+k->n.length<=i+k->
  val out+4294967296^i*c=val (m.take i)+val (n.take i)->
  val (sumL m n k i c out)=val m+val n/\Dig (sumL m n k i c out)/\(sumL m n k i c out).length=i+k+1:=by
 intro k
 induction k with
 |zero=>
  intro i c out hc ho hd h1 h2 h;rw[qW (by omega),qW (by omega)]at h;simp only[sumL];refine⟨?_,hd.append (Dig.cons (xA _ (by decide)) Dig.nil),by simp[ho]⟩;rw[zfd,ho];simp only[val,xW,qI];rw[xH (by omega)];exact h
 |succ k ih=>
  intro i c out hc ho hd h1 h2 h;have b1:=hm.getD i;have b2:=hn.getD i
  have:=ih (i+1) ((c+m.getD i 0+n.getD i 0)/4294967296) (out++[(c+m.getD i 0+n.getD i 0)%4294967296]) (by omega) (by simp[ho])
   (hd.append (Dig.cons (xA _ (by decide)) Dig.nil)) (by omega) (by omega) (by
    rw[zbk,zbk,zfd,ho];simp only[val,xW,qI,xJ];generalize 4294967296^i=p at*;have e:c+m.getD i 0+n.getD i 0=(c+m.getD i 0+n.getD i 0)%4294967296+4294967296*((c+m.getD i 0+n.getD i 0)/4294967296):=by omega
    generalize (c+m.getD i 0+n.getD i 0)%4294967296=u at*;generalize (c+m.getD i 0+n.getD i 0)/4294967296=v at*;have e2:p*(c+m.getD i 0+n.getD i 0)=p*(u+4294967296*v):=by rw[e]
    simp only[xY]at e2;have e3:p*4294967296*v=p*(4294967296*v):=xK _ _ _;omega)
  simp only[sumL];refine⟨this.1,this.2.1,by omega⟩
theorem qsl{a b c u v p A B C:Nat}(hv:a+4294967296*v=u+(b+c))(h:A+p*b=C+B):A+p*a+p*4294967296*v=C+p*u+(B+p*c):=by
 have e2:p*(a+4294967296*v)=p*(u+(b+c)):=by rw[hv]
 simp only[xY]at e2;have e3:p*4294967296*v=p*(4294967296*v):=xK _ _ _;omega
theorem qkp{a b c u v p A B C V1 V2 V3 D:Nat}(h1:V1=A+p*a)(h2:V2=B+p*c)(h3:V3=C+p*u)(hD:D=p*4294967296)(hv:a+4294967296*v=u+(b+c))(h:A+p*b=C+B):V1+D*v=V3+V2:=by
 subst h1 h2 h3 hD;exact qsl hv h
theorem pw(i:Nat):4294967296^(i+1)=4294967296^i*4294967296:=by rw[xJ]
theorem qgn{l:List Nat}{i d:Nat}(h:l.length=i):val (l++[d])=val l+4294967296^i*d:=by
 rw[zfd,h];simp[val]
def brw(a b:Nat):Nat:=if a<b then 1 else 0
theorem zuk{a b:Nat}(ha:a<4294967296)(hb:b<=4294967296):a+4294967296*brw a b=(a+8589934592-b)%4294967296+b:=by
 unfold brw;split<;>omega
theorem qcy(a b:Nat):brw a b<=1:=by unfold brw;split<;>omega
def difL(m n:List Nat):Nat->Nat->Nat->List Nat->List Nat
 |0,_,_,out=>out
 |k+1,i,b,out=>difL m n k (i+1) (brw (m.getD i 0) (b+n.getD i 0)) (out++[(m.getD i 0+8589934592-(b+n.getD i 0))%4294967296])
theorem qcz{a b c d p:Nat}(h:a+p*b=c+d)(hlt:c<p)(hv:d<=a)(hb:b<=1):b=0:=by
 rcases xV b 1 with h2 | h2
 ·omega
 ·have e:b=1:=by omega
  rw[e,xO]at h;omega
theorem zpn(m n:List Nat)(hm:Dig m)(hn:Dig n)(hnm:n.length<=m.length)(hv:val n<=val m):∀(k i b:Nat) (out:List Nat),b<=1->out.length=i->Dig out->m.length=i+k->
  val (m.take i)+4294967296^i*b=val out+val (n.take i)->
  val (difL m n k i b out)+val n=val m/\Dig (difL m n k i b out)/\(difL m n k i b out).length=m.length:=by
 intro k
 induction k with
 |zero=>
  intro i b out hb ho hd h1 h;have h1:m.length=i:=h1;have hlt:=zfc hd;rw[ho]at hlt;rw[qW (by omega),qW (by omega)]at h;simp only[difL];have hb0:=qcz h hlt hv hb;rw[hb0,xW]at h;clear hlt;exact⟨by omega,hd,by omega⟩
 |succ k ih=>
  intro i b out hb ho hd h1 h;have b1:=hm.getD i;have b2:=hn.getD i;simp only[difL];refine ih (i+1) _ _ (qcy _ _) (by simp[ho]) (hd.append (Dig.cons (xA _ (by decide)) Dig.nil)) (by omega) ?_;exact qkp (zbk m i) (zbk n i) (qgn ho) (pw i) (zuk b1 (by omega)) h
def mulR(n:List Nat)(x i:Nat):Nat->Nat->Nat->List Nat->Nat×List Nat
 |0,_,c,out=>(c,out)
 |k+1,j,c,out=>mulR n x i k (j+1) ((c+(x*n.getD j 0+out.getD (i+j) 0))/4294967296) (out.set (i+j) ((c+(x*n.getD j 0+out.getD (i+j) 0))%4294967296))
def mulL(n:List Nat):List Nat->Nat->List Nat->List Nat
 | [],_,out=>out
 |x::m,i,out=>mulL n m (i+1) ((mulR n x i n.length 0 0 out).2.set (i+n.length) ((mulR n x i n.length 0 0 out).1))
theorem zgu{l:List Nat}{i v:Nat}(h:i<l.length):val (l.set i v)+4294967296^i*l.getD i 0=val l+4294967296^i*v:=by
 induction l generalizing i with
 |nil=>simp at h
 |cons d l ih=>
  cases i with
  |zero=>simp[val];omega
  |succ i=>
   have:=ih (i:=i) (by simpa using h);simp only[yC,val,List.getD_cons_succ,xJ];have e1:4294967296^i*4294967296*l.getD i 0=4294967296*(4294967296^i*l.getD i 0):=by rw[yK (4294967296^i),xK]
   have e2:4294967296^i*4294967296*v=4294967296*(4294967296^i*v):=by rw[yK (4294967296^i),xK]
   omega
theorem Dig.set{l:List Nat}{i v:Nat}(h:Dig l)(hv:v<4294967296):Dig (l.set i v):=by
 intro a ha;rcases xS ha with e | e
 ·exact h a e
 ·rw[e];exact hv
theorem zxm(n:List Nat)(hn:Dig n)(x i:Nat)(hx:x<4294967296):∀(k j c:Nat) (out:List Nat),c<4294967296->j+k=n.length->i+n.length<out.length->Dig out->
  (mulR n x i k j c out).1<4294967296/\(mulR n x i k j c out).2.length=out.length/\Dig (mulR n x i k j c out).2/\
  (∀t,i+n.length<=t->(mulR n x i k j c out).2.getD t 0=out.getD t 0)/\
  val (mulR n x i k j c out).2+4294967296^(i+n.length)*(mulR n x i k j c out).1+4294967296^i*(x*val (n.take j))=val out+4294967296^(i+j)*c+4294967296^i*(x*val n):=by
 intro k
 induction k with
 |zero=>
  intro j c out hc hj hl hd;have hj:j=n.length:=by omega
  subst hj;refine⟨hc,rfl,hd,λ_ _=>rfl,?_⟩;simp only[mulR,qM]
 |succ k ih=>
  intro j c out hc hj hl hd;have b1:=hn.getD j;have b2:=hd.getD (i+j);have hxy:x*n.getD j 0<=4294967295*4294967295:=Nat.mul_le_mul (by omega) (by omega);have hS:c+(x*n.getD j 0+out.getD (i+j) 0)<4294967296*4294967296:=by omega
  obtain⟨h1,h2,h3,h4,h5⟩:=ih (j+1) ((c+(x*n.getD j 0+out.getD (i+j) 0))/4294967296) (out.set (i+j) ((c+(x*n.getD j 0+out.getD (i+j) 0))%4294967296)) (by omega) (by omega) (by simpa using hl)
   (hd.set (xA _ (by decide)))
  simp only[mulR];refine⟨h1,by simpa using h2,h3,λt ht=>?_,?_⟩
  ·rw[h4 t ht,qJ,xG (by omega),qJ]
  ·have hs:=zgu (l:=out) (i:=i+j) (v:=(c+(x*n.getD j 0+out.getD (i+j) 0))%4294967296) (by omega);rw[zbk]at h5;generalize mulR n x i k (j+1) ((c+(x*n.getD j 0+out.getD (i+j) 0))/4294967296) (out.set (i+j) ((c+(x*n.getD j 0+out.getD (i+j) 0))%4294967296))=R at*;generalize val (out.set (i+j) ((c+(x*n.getD j 0+out.getD (i+j) 0))%4294967296))=V at*;have e:c+(x*n.getD j 0+out.getD (i+j) 0)=(c+(x*n.getD j 0+out.getD (i+j) 0))%4294967296+4294967296*((c+(x*n.getD j 0+out.getD (i+j) 0))/4294967296):=by omega
   generalize (c+(x*n.getD j 0+out.getD (i+j) 0))%4294967296=u at*;generalize (c+(x*n.getD j 0+out.getD (i+j) 0))/4294967296=v at*;have e2:4294967296^(i+j)*(c+(x*n.getD j 0+out.getD (i+j) 0))=4294967296^(i+j)*(u+4294967296*v):=by rw[e]
   have e3:4294967296^(i+(j+1))*v=4294967296^(i+j)*(4294967296*v):=by rw[<-Nat.add_assoc,xJ,xK]
   have e4:4294967296^i*(x*(val (n.take j)+4294967296^j*n.getD j 0))=4294967296^i*(x*val (n.take j))+4294967296^(i+j)*(x*n.getD j 0):=by
    rw[xY,xY,Nat.pow_add,Nat.mul_left_comm x,xK]
   rw[e3,e4]at h5;simp only[xY]at e2;omega
theorem qkq(n:List Nat)(hn:Dig n):∀(m:List Nat) (i:Nat) (out:List Nat),Dig m->Dig out->out.length=i+m.length+n.length->(∀t,i+n.length<=t->out.getD t 0=0)->
  (mulL n m i out).length=out.length/\Dig (mulL n m i out)/\val (mulL n m i out)=val out+4294967296^i*(val m*val n):=by
 intro m
 induction m with
 |nil=>intro i out _ hd _ _;simp[mulL,val,hd]
 |cons x m ih=>
  intro i out hm hd hl hz;simp only[xP]at hl;obtain⟨h1,h2,h3,h4,h5⟩:=zxm n hn x i hm.head n.length 0 0 out (by decide) (by omega) (by omega) hd;simp only[mulL];generalize mulR n x i n.length 0 0 out=R at*;have hz0:R.2.getD (i+n.length) 0=0:=(h4 _ (qY _)).trans (hz _ (qY _));have hs:=zgu (l:=R.2) (i:=i+n.length) (v:=R.1) (by omega)
  obtain⟨g1,g2,g3⟩:=ih (i+1) (R.2.set (i+n.length) R.1) hm.tail (h3.set h1) (by simp;omega) (by
   intro t ht;rw[qJ,xG (by omega),<-qJ,h4 t (by omega)];exact hz t (by omega))
  refine⟨by rw[g1];simpa using h2,g2,?_⟩;rw[g3,val,Nat.add_mul,xY];rw[hz0]at hs;simp only[yV,val,xW,qI]at h5 hs;have e:4294967296^(i+1)*(val m*val n)=4294967296^i*(4294967296*val m*val n):=by rw[xJ,xK,xK]
  omega
def POW(k:Nat):Nat:=4294967296^k
def BIG:Nat:=POW 1100
theorem qgo{l:List Nat}{k:Nat}(h:zbn l)(hv:val l<POW k):l.length<=k:=by
 rcases xV k l.length with h1 | h1
 ·exfalso;have h2:=zft h.2 (by intro e;rw[e]at h1;simp at h1);have h3:4294967296^k<=4294967296^(l.length-1):=qP (by decide) (by omega);unfold POW at hv;exact absurd (qO hv (Nat.le_trans h3 h2)) (Nat.lt_irrefl _)
 ·exact h1
theorem canon_len{l:List Nat}(h:zbn l)(hv:val l<BIG):l.length<=1100:=qgo (k:=1100) h hv
theorem qkr{l:List Nat}{k:Nat}(h:Dig l)(hl:l.length<=k):val l<POW k:=
 qO (zfc h) (qP (by decide) hl)
theorem zem{l:List Nat}(h:Dig l)(hl:l.length<=1100):val l<BIG:=qkr (k:=1100) h hl
theorem qah{n k:Nat}(hk:4<=k)(h:n<340282366920938463463374607431768211456):n<POW k:=
 qO h (show 4294967296^4<=4294967296^k from qP (by decide) hk)
theorem zdz{n:Nat}(h:n<340282366920938463463374607431768211456):n<BIG:=qah (k:=1100) (by decide) h
end Go.Limb
namespace Go.Proofs.YtgfbaioffpcelaaGreatDoor
open Go Go.AL Go.Proofs
def G:Glob:=⟨[(0,[.int .i64 7,.int .i64 11,.int .i64 13,.int .i64 17,.int .i64 19,.int .i64 23,.int .i64 29,.int .i64 31])],λ_ _ _ _ _=>False,λ_=>[]⟩
theorem zuo:Tryz.prog.follows .mixedOrders=true:=by kernel_rfl
noncomputable def RS(fn:Func):List RL:=match fn.body.bind (zdo Tryz.prog G fn.ntmps)with
 |some c=>RSc c
 |none=>[]
noncomputable def RG(nt:Nat):Code->List (Unit->Option (List COp))
 |.region _ ops _=>[λ_=>qyj Tryz.prog G nt ops]
 |.seq a b=>RG nt a++RG nt b
 |.cond _ a b=>RG nt a++RG nt b
 |.block _ c=>RG nt c
 |.loop c=>RG nt c
 |.scope c=>RG nt c
 |_=>[]
noncomputable def RR(fn:Func)(i:Nat):List COp:=match fn.body with
 |some c=>(match (RG fn.ntmps c).getD i (λ_=>none) ()with
  |some l=>l
  |none=>[])
 |none=>[]
def okS:List Nat:=[65,146,180]
def okB(f:Nat):Bool:=hasN okS f
theorem jag:(okS.all λf=>okFn Tryz.prog f)=true:=by kernel_rfl
theorem qkz:∀f,okB f=true->okFn Tryz.prog f=true:=λf h=>List.all_eq_true.1 jag f (zul _ _ h)
abbrev Rt:=Ret Tryz.prog G
abbrev Wg:=W Tryz.prog G
abbrev wG:=wpC Tryz.prog G
theorem wM{n0 nt:Nat}{c:CC}{E:Env}{H:Heap}{Q:Post}(h:wpC Tryz.prog G n0 nt c E H Q):W Tryz.prog G n0 nt c E H Q:=zpj zuo h
theorem wW{n0 nt:Nat}{a b:CC}{E:Env}{H:Heap}{Q:Post}(h:wpC Tryz.prog G n0 nt a E H (zep (λE' H'=>W Tryz.prog G n0 nt b E' H' Q) Q)):W Tryz.prog G n0 nt (.seq a b) E H Q:=zki (wM h)
theorem kR{B:Prop}{o:Option AV}{v:AV}{n:Nat}{H:Heap}(h:o=some v:=by rfl):(True\/B)/\∃v',o=some v'/\Fin n v' H v H:=⟨.inl trivial,v,h,.keep _ _⟩
theorem dR{B:Prop}{o:Option AV}{v:AV}{H:Heap}(h:o=some v:=by rfl)(hc:v.under 0=true:=by rfl):(True\/B)/\∃v',o=some v'/\Fin 0 v' H v []:=⟨.inl trivial,v,h,.drop _ _ hc (by intro i cs h;omega)⟩
abbrev FnI(f nt:Nat)(fn:Func)(c:CC)(rs:List ResultVar):Prop:= Tryz.prog.funcs[f]?=some fn/\(fn.body.bind (zdo Tryz.prog G fn.ntmps),fn.results.toList,fn.ntmps)=(some c,rs,nt)
theorem oM{f nt:Nat}{fn:Func}{c:CC}{rs:List ResultVar}(h:Tryz.prog.funcs[f]?=some fn)(k:(fn.body.bind (zdo Tryz.prog G fn.ntmps),fn.results.toList,fn.ntmps)=(some c,rs,nt):=by kernel_rfl):FnI f nt fn c rs:=⟨h,k⟩
section
variable{f nt:Nat}{fn:Func}{c:CC}{rs:List ResultVar}{args:List AV}{H:Heap}{v:AV}{Hout:Heap}(i:FnI f nt fn c rs)
include i
theorem oF(h:wpC Tryz.prog G H.length nt c (zkj args) H (λx E' H'=>(x= .ret\/x= .normal)/\∃v',resA Tryz.prog rs E' H'=some v'/\Fin H.length v' H' v Hout))(hn:args.length<=nt:=by simp)(hl:H.length<=Hout.length:=by simp)(hne:f≠4095:=by decide):Ret Tryz.prog G f args H v Hout:=
 jel zuo i.1 (congrArg Prod.fst i.2) rs nt (congrArg (·.2.1) i.2) (congrArg (·.2.2) i.2) hn hl h hne
theorem oFw(h:wpC Tryz.prog G H.length nt c (zkj args) H (λx E' H'=>(x= .ret\/x= .normal)/\∃v' v'',resA Tryz.prog rs E' H'=some v'/\Fin H.length v' H' v'' Hout/\v''.wk=v))(hn:args.length<=nt:=by simp)(hl:H.length<=Hout.length:=by simp)(hne:f≠4095:=by decide):Ret Tryz.prog G f args H v Hout:=
 jaf zuo i.1 (congrArg Prod.fst i.2) rs nt (congrArg (·.2.1) i.2) (congrArg (·.2.2) i.2) hn hl h hne
theorem oFW(h:W Tryz.prog G H.length nt c (zkj args) H (λx E' H'=>(x= .ret\/x= .normal)/\∃v',resA Tryz.prog rs E' H'=some v'/\Fin H.length v' H' v Hout))(hn:args.length<=nt:=by simp)(hl:H.length<=Hout.length:=by simp)(hne:f≠4095:=by decide):Ret Tryz.prog G f args H v Hout:=by
 obtain⟨hf,hi⟩:=i;obtain⟨hc,rfl,rfl⟩:fn.body.bind (zdo Tryz.prog G fn.ntmps)=some c/\fn.results.toList=rs/\fn.ntmps=nt:=by simpa using hi
 cases hb:fn.body with
 |none=>rw[hb]at hc;simp at hc
 |some code=>
  rw[hb]at hc;exact zph hf hb hc hn hl hne h
end
noncomputable section
open Tryz
def q7:=V (RS f7=·)
def r7_0:=X q7 0
def r7_1:=X q7 1
def r7_2:=X q7 2
def c7:CC:=sR r7_0<|sR r7_1<|sR r7_2 .ret
theorem o7:FnI 7 18 f7 c7 [.tmp 4]:=oM func7
def q8:=V (RS f8=·)
def r8_0:=X q8 0
def r8_1:=X q8 1
def r8_2:=X q8 2
def c8:CC:=sR r8_0<|sR r8_1<|sR r8_2 .ret
def q21:=V (RS f21=·)
def r21_0:=X q21 0
def r21_1:=X q21 1
def r21_2:=X q21 2
def r21_3:=X q21 3
def r21_4:=X q21 4
def r21_5:=X q21 5
def r21_6:=X q21 6
def r21_7:=X q21 7
def r21_8:=X q21 8
def r21_9:=X q21 9
def r21_10:=X q21 10
def r21_11:=X q21 11
def r21_12:=X q21 12
def l21_0:CC:= .block 1<|sR r21_8<|.seq (sR r21_9<|iS 35<|sR r21_10<|sR r21_11 .ret)<|rN r21_12
def c21:CC:=sR r21_0<|.seq (sR r21_1<|sR r21_2<|iS 16<|sR r21_3 .ret)<|qR r21_4 20 r21_5<|sR r21_6<|sR r21_7<|.block 0<|.loop l21_0
theorem o21:FnI 21 49 f21 c21 [.tmp 2,.tmp 3,.tmp 4]:=oM func21
def r22_0:RL:=[oP 2 (.mov (.k (.vec [] 0 (some 0))))]
def r22_1:RL:=[mV 6 0,cL 7 24 [.t 6],mV 5 7,eX 8 5 0,eX 9 5 1,mV 3 8,mV 4 9]
def r22_2:RL:=[mV 10 3,mV 2 10]
def c22:CC:=sR r22_0<|sR r22_1<|sR r22_2 .ret
theorem o22:FnI 22 11 f22 c22 [.tmp 2]:=oM func22
def q23:=V (RS f23=·)
def r23_0:=X q23 0
def r23_1:=X q23 1
def r23_2:=X q23 2
def r23_3:=X q23 3
def r23_4:=X q23 4
def r23_5:=X q23 5
def r23_6:=X q23 6
def r23_7:=X q23 7
def r23_8:=X q23 8
def r23_9:=X q23 9
def r23_10:=X q23 10
def r23_11:=X q23 11
def r23_12:=X q23 12
def r23_13:=X q23 13
def r23_14:=X q23 14
def r23_15:=X q23 15
def r23_16:=X q23 16
def r23_17:=X q23 17
def r23_18:=X q23 18
def r23_19:=X q23 19
def r23_20:=X q23 20
def r23_21:=X q23 21
def c23:CC:=sR r23_0<|sR r23_1<|sR r23_2<|sR r23_3<|.seq (sR r23_4<|.block 0<|.seq (sR r23_5<|.cond (.t 24) .skip<|sR r23_6<|.cond (.t 24) .skip<|sR r23_7<|.cond (.t 24) .skip<|rN r23_8)<|.cond (.t 24) (rN r23_9)<|sR r23_10<|.cond (.t 32) (sR r23_11<|.reg r23_12 (some [(2,6),(4,6)]))<|sR r23_13<|.cond (.t 45) (sR r23_14<|.reg r23_15 (some [(4,10),(8,10)]))<|sR r23_16<|.cond (.t 62) (rN r23_17)<|rN r23_18)<|qR r23_19 69 r23_20<|sR r23_21 .ret
theorem o23:FnI 23 74 f23 c23 [.tmp 4]:=oM func23
def q24:=V (RS f24=·)
def r24_0:=X q24 0
def r24_1:=X q24 1
def r24_2:=X q24 2
def r24_3:=X q24 3
def r24_4:=X q24 4
def r24_5:=X q24 5
def r24_6:=X q24 6
def r24_7:=X q24 7
def r24_8:=X q24 8
def l24_0:CC:=sR r24_4<|.seq (xR 20 0)<|.seq (.block 1<|sR r24_5<|sR r24_6<|iS 39<|sR r24_7 .ret)<|rN r24_8
def r24_9:=X q24 9
def r24_10:=X q24 10
def r24_11:=X q24 11
def r24_12:=X q24 12
def r24_13:=X q24 13
def r24_14:=X q24 14
def r24_15:=X q24 15
def r24_16:=X q24 16
def r24_17:=X q24 17
def l24_2:CC:=sR r24_14<|.seq (xR 59 4)<|.seq (.block 5<|sR r24_15<|.reg r24_16 (some [(3,8),(3,11),(3,12)]))<|rN r24_17
def r24_18:=X q24 18
def l24_1:CC:=sR r24_11<|.seq (xR 51 2)<|.seq (.block 3<|sR r24_12<|sR r24_13<|.block 4<|.loop l24_2)<|rN r24_18
def r24_19:=X q24 19
def c24:CC:=sR r24_0<|qR r24_1 16 r24_2<|.seq (sR r24_3<|.block 0<|.loop l24_0)<|sR r24_9<|.seq (sR r24_10<|.block 2<|.loop l24_1)<|sR r24_19 .ret
theorem o24:FnI 24 78 f24 c24 [.tmp 2,.tmp 3]:=oM func24
def q25:=V (RS f25=·)
def r25_0:=X q25 0
def r25_1:=X q25 1
def r25_2:=X q25 2
def r25_3:=X q25 3
def r25_4:=X q25 4
def r25_5:=X q25 5
def r25_6:=X q25 6
def r25_7:=X q25 7
def r25_8:=X q25 8
def c25:CC:=sR r25_0<|sR r25_1<|.seq (.block 0<|sR r25_2<|.cond (.t 10) (sR r25_3 .ret)<|sR r25_4<|.cond (.t 17) (sR r25_5 .ret)<|sR r25_6<|iS 21<|sR r25_7 .ret)<|sR r25_8 .ret
theorem o25:FnI 25 25 f25 c25 [.tmp 2]:=oM func25
def r26_0:RL:=[oP 2 (.mov (.k (.bool false)))]
def r26_1:RL:=[mV 3 0,cL 4 89 [.t 3],cL 5 84 [(kI 10000)],cL 6 88 [.t 4,.t 5],bK 7 .leq 6 0,mV 2 7]
def c26:CC:=sR r26_0<|sR r26_1 .ret
theorem o26:FnI 26 8 f26 c26 [.tmp 2]:=oM func26
def q27:=V (RS f27=·)
def r30_0:=V (RR f30 0=·)
def r30_1:=V (RR f30 1=·)
def r30_2:=V (RR f30 2=·)
def r30_3:=V (RR f30 3=·)
def r30_4:=V (RR f30 4=·)
def r30_5:=V (RR f30 5=·)
def r30_6:=V (RR f30 6=·)
def r30_7:=V (RR f30 7=·)
def r30_8:=V (RR f30 8=·)
def r30_9:=V (RR f30 9=·)
def r30_10:=V (RR f30 10=·)
def r30_11:=V (RR f30 11=·)
def r30_12:=V (RR f30 12=·)
def r30_13:=V (RR f30 13=·)
def r30_14:=V (RR f30 14=·)
def r30_15:=V (RR f30 15=·)
def r30_16:=V (RR f30 16=·)
def r30_17:=V (RR f30 17=·)
def r30_18:=V (RR f30 18=·)
def r30_19:=V (RR f30 19=·)
def l30_2:CC:=sR r30_16<|.seq (xR 49 4)<|.seq (.block 5<|sR r30_17<|.reg r30_18 (some [(3,10),(3,14),(10,14),(3,17),(10,17),(14,17),(3,21),(10,21),(14,21)]))<|rN r30_19
def r30_20:=V (RR f30 20=·)
def l30_1:CC:=sR r30_11<|.seq (xR 33 2)<|.seq (.block 3<|sR r30_12<|sR r30_13<|sR r30_14<|sR r30_15<|.block 4<|.loop l30_2)<|rN r30_20
def r30_21:=V (RR f30 21=·)
def r30_22:=V (RR f30 22=·)
def r30_23:=V (RR f30 23=·)
def r30_24:=V (RR f30 24=·)
def l30_0:CC:= .seq (sR r30_5<|xR 17 0)<|.block 1<|sR r30_6<|qR r30_7 25 r30_8<|sR r30_9<|.seq (sR r30_10<|.block 2<|.loop l30_1)<|sR r30_21<|qR r30_22 101 r30_23<|rN r30_24
def r30_25:=V (RR f30 25=·)
def c30:CC:=sR r30_0<|qR r30_1 13 r30_2<|sR r30_3<|sR r30_4<|.seq (.block 0<|.loop l30_0)<|sR r30_25 .ret
theorem o30:FnI 30 118 f30 c30 [.tmp 2]:=oM func30
def q60:=V (RS f60=·)
def r60_0:=X q60 0
def r60_1:=X q60 1
def r60_2:=X q60 2
def r60_3:=X q60 3
def r60_4:=X q60 4
def r60_5:=X q60 5
def c60:CC:=sR r60_0<|qR r60_1 7 r60_2<|qR r60_3 14 r60_4<|sR r60_5 .ret
theorem o60:FnI 60 15 f60 c60 [.tmp 4]:=oM func60
def q63:=V (RS f63=·)
def r63_0:=X q63 0
def r63_1:=X q63 1
def r63_2:=X q63 2
def r63_3:=X q63 3
def r63_4:=X q63 4
def r63_5:=X q63 5
def r63_6:=X q63 6
def r63_7:=X q63 7
def r63_8:=X q63 8
def r63_9:=X q63 9
def r63_10:=X q63 10
def r63_11:=X q63 11
def r63_12:=X q63 12
def c63:CC:=sR r63_0<|.seq (sR r63_1<|sR r63_2<|iS 17<|sR r63_3 .ret)<|qR r63_4 20 r63_5<|sR r63_6<|qR r63_7 28 r63_8<|.seq (sR r63_9<|sR r63_10<|iS 37<|sR r63_11 .ret)<|sR r63_12 .ret
theorem o63:FnI 63 41 f63 c63 [.tmp 6,.tmp 7]:=oM func63
def q72:=V (RS f72=·)
def r72_0:=X q72 0
def r72_1:=X q72 1
def r72_2:=X q72 2
def r72_3:=X q72 3
def r72_4:=X q72 4
def r72_5:=X q72 5
def r72_6:=X q72 6
def r72_7:=X q72 7
def r72_8:=X q72 8
def r72_9:=X q72 9
def l72_1:CC:=sR r72_6<|.seq (xR 21 2)<|.seq (.block 3<|sR r72_7<|.reg r72_8 (some [(5,6),(5,7),(5,8)]))<|rN r72_9
def r72_10:=X q72 10
def l72_0:CC:=sR r72_3<|.seq (xR 13 0)<|.seq (.block 1<|sR r72_4<|sR r72_5<|.block 2<|.loop l72_1)<|rN r72_10
def r72_11:=X q72 11
def c72:CC:=sR r72_0<|sR r72_1<|.seq (sR r72_2<|.block 0<|.loop l72_0)<|sR r72_11 .ret
theorem o72:FnI 72 38 f72 c72 [.tmp 2]:=oM func72
def q73:=V (RS f73=·)
def r73_0:=X q73 0
def r73_1:=X q73 1
def r73_2:=X q73 2
def r73_3:=X q73 3
def r73_4:=X q73 4
def r73_5:=X q73 5
def r73_6:=X q73 6
def r73_7:=X q73 7
def r73_8:=X q73 8
def l73_0:CC:=sR r73_5<|.seq (xR 18 0)<|.seq (.block 1<|sR r73_6<|.reg r73_7 (some [(3,5)]))<|rN r73_8
def r73_9:=X q73 9
def c73:CC:=sR r73_0<|qR r73_1 11 r73_2<|sR r73_3<|.seq (sR r73_4<|.block 0<|.loop l73_0)<|sR r73_9 .ret
theorem o73:FnI 73 29 f73 c73 [.tmp 2,.tmp 3]:=oM func73
def r74_0:=V (RR f74 0=·)
def r74_1:=V (RR f74 1=·)
def r74_2:=V (RR f74 2=·)
def r74_3:=V (RR f74 3=·)
def r74_4:=V (RR f74 4=·)
def r74_5:=V (RR f74 5=·)
def r74_6:=V (RR f74 6=·)
def r74_7:=V (RR f74 7=·)
def r74_8:=V (RR f74 8=·)
def r74_9:=V (RR f74 9=·)
def r74_10:=V (RR f74 10=·)
def r74_11:=V (RR f74 11=·)
def l74_1:CC:= .seq (sR r74_7<|xR 29 2)<|.seq (.block 3<|sR r74_8<|iS 37<|.seq (.reg r74_9 (some [(3,8),(3,12),(3,13),(3,14),(3,15)]))<|sR r74_10 .ret)<|rN r74_11
def r74_12:=V (RR f74 12=·)
def r74_13:=V (RR f74 13=·)
def r74_14:=V (RR f74 14=·)
def r74_15:=V (RR f74 15=·)
def l74_0:CC:=sR r74_4<|.seq (xR 24 0)<|.seq (.block 1<|sR r74_5<|.seq (sR r74_6<|.block 2<|.loop l74_1)<|sR r74_12<|iS 64<|.seq (.reg r74_13 (some [(9,13)]))<|sR r74_14 .ret)<|rN r74_15
def r74_16:=V (RR f74 16=·)
def c74:CC:=sR r74_0<|sR r74_1<|sR r74_2<|.seq (sR r74_3<|.block 0<|.loop l74_0)<|sR r74_16 .ret
theorem o74:FnI 74 83 f74 c74 [.tmp 2,.tmp 3]:=oM func74
def q75:=V (RS f75=·)
def r75_0:=X q75 0
def r75_1:=X q75 1
def r75_2:=X q75 2
def r75_3:=X q75 3
def r75_4:=X q75 4
def r75_5:=X q75 5
def r75_6:=X q75 6
def r75_7:=X q75 7
def r75_8:=X q75 8
def r75_9:=X q75 9
def r75_10:=X q75 10
def r75_11:=X q75 11
def r75_12:=X q75 12
def r75_13:=X q75 13
def r75_14:=X q75 14
def r75_15:=X q75 15
def r75_16:=X q75 16
def l75_1:CC:=sR r75_10<|.seq (xR 38 2)<|.seq (.block 3<|sR r75_11<|sR r75_12<|qR r75_13 52 r75_14<|rN r75_15)<|rN r75_16
def r75_17:=X q75 17
def l75_0:CC:=sR r75_6<|.seq (xR 25 0)<|.seq (.block 1<|sR r75_7<|sR r75_8<|sR r75_9<|.block 2<|.loop l75_1)<|rN r75_17
def r75_18:=X q75 18
def c75:CC:=sR r75_0<|sR r75_1<|qR r75_2 19 r75_3<|sR r75_4<|.seq (sR r75_5<|.block 0<|.loop l75_0)<|sR r75_18 .ret
theorem o75:FnI 75 63 f75 c75 [.tmp 2,.tmp 3]:=oM func75
def r76_0:RL:=[oP 4 (.mov (.k (.vec [] 0 (some 0))))]
def r76_1:RL:=[mV 8 1,cL 9 167 [.t 8],mV 7 9,eX 10 7 0,eX 11 7 1,mV 5 10,mV 6 11]
def r76_2:RL:=[mV 12 5,mV 13 0,cL 14 77 [.t 12,.t 13],mV 15 1,cL 16 77 [.t 14,.t 15],mV 4 16]
def c76:CC:=sR r76_0<|sR r76_1<|sR r76_2 .ret
theorem o76:FnI 76 17 f76 c76 [.tmp 4]:=oM func76
def r77_0:RL:=[oP 4 (.mov (.k (.vec [] 0 (some 0))))]
def r77_1:RL:=[mV 8 0,mV 9 1,cL 10 168 [.t 8,.t 9],mV 7 10,eX 11 7 0,eX 12 7 1,mV 5 11,mV 6 12]
def r77_2:RL:=[mV 13 5,mV 4 13]
def c77:CC:=sR r77_0<|sR r77_1<|sR r77_2 .ret
theorem o77:FnI 77 14 f77 c77 [.tmp 4]:=oM func77
def q78:=V (RS f78=·)
def r78_0:=X q78 0
def r78_1:=X q78 1
def r78_2:=X q78 2
def r78_3:=X q78 3
def r78_4:=X q78 4
def r78_5:=X q78 5
def r78_6:=X q78 6
def r78_7:=X q78 7
def r78_8:=X q78 8
def r78_9:=X q78 9
def l78_1:CC:= .seq (sR r78_6<|xR 18 2)<|.seq (.block 3<|.seq (.reg r78_7 (some [(3,6)]))<|.reg r78_8 (some [(3,8),(3,11)]))<|rN r78_9
def r78_10:=X q78 10
def l78_0:CC:=sR r78_3<|.seq (xR 14 0)<|.seq (.block 1<|sR r78_4<|sR r78_5<|.block 2<|.loop l78_1)<|rN r78_10
def r78_11:=X q78 11
def c78:CC:=sR r78_0<|sR r78_1<|.seq (sR r78_2<|.block 0<|.loop l78_0)<|sR r78_11 .ret
theorem o78:FnI 78 45 f78 c78 [.tmp 4]:=oM func78
def q79:=V (RS f79=·)
def r79_0:=X q79 0
def r79_1:=X q79 1
def r79_2:=X q79 2
def r79_3:=X q79 3
def r79_4:=X q79 4
def r79_5:=X q79 5
def r79_6:=X q79 6
def r79_7:=X q79 7
def r79_8:=X q79 8
def r79_9:=X q79 9
def r79_10:=X q79 10
def r79_11:=X q79 11
def r79_12:=X q79 12
def l79_0:CC:=sR r79_3<|.seq (xR 13 0)<|.seq (.block 1<|sR r79_4<|sR r79_5<|sR r79_6<|sR r79_7<|.seq (sR r79_8<|iS 38<|rN r79_9)<|sR r79_10<|iS 42<|.reg r79_11 (some [(3,8)]))<|rN r79_12
def r79_13:=X q79 13
def c79:CC:=sR r79_0<|sR r79_1<|.seq (sR r79_2<|.block 0<|.loop l79_0)<|sR r79_13 .ret
theorem o79:FnI 79 57 f79 c79 [.tmp 4]:=oM func79
def r80_0:RL:=[oP 4 (.mov (kI 0))]
def r80_1:RL:=[mV 5 0,cL 6 169 [.t 5],oP 7 (.conv .u8 (.t 6)),oP 8 (.conv .i64 (.t 7)),mV 9 1,bT 10 .rem 8 9,mV 4 10]
def c80:CC:=sR r80_0<|sR r80_1 .ret
theorem o80:FnI 80 11 f80 c80 [.tmp 4]:=oM func80
def q81:=V (RS f81=·)
def r81_0:=X q81 0
def r81_1:=X q81 1
def r81_2:=X q81 2
def r81_3:=X q81 3
def r81_4:=X q81 4
def r81_5:=X q81 5
def r81_6:=X q81 6
def r81_7:=X q81 7
def l81_0:CC:=sR r81_3<|.seq (xR 14 0)<|.seq (.block 1<|sR r81_4<|sR r81_5<|.reg r81_6 (some [(3,7)]))<|rN r81_7
def r81_8:=X q81 8
def c81:CC:=sR r81_0<|sR r81_1<|.seq (sR r81_2<|.block 0<|.loop l81_0)<|sR r81_8 .ret
theorem o81:FnI 81 33 f81 c81 [.tmp 6]:=oM func81
def q82:=V (RS f82=·)
def r82_0:=X q82 0
def r82_1:=X q82 1
def r82_2:=X q82 2
def c82:CC:=sR r82_0<|sR r82_1<|sR r82_2 .ret
theorem o82:FnI 82 16 f82 c82 [.tmp 2]:=oM func82
def q83:=V (RS f83=·)
def r83_0:=X q83 0
def r83_1:=X q83 1
def r83_2:=X q83 2
def r83_3:=X q83 3
def r83_4:=X q83 4
def r83_5:=X q83 5
def r83_6:=X q83 6
def l83_0:CC:=sR r83_3<|.seq (xR 12 0)<|.seq (.block 1<|sR r83_4<|rN r83_5)<|rN r83_6
def r83_7:=X q83 7
def c83:CC:=sR r83_0<|sR r83_1<|.seq (sR r83_2<|.block 0<|.loop l83_0)<|sR r83_7 .ret
theorem o83:FnI 83 21 f83 c83 [.tmp 4]:=oM func83
def q84:=V (RS f84=·)
def r84_0:=X q84 0
def r84_1:=X q84 1
def r84_2:=X q84 2
def r84_3:=X q84 3
def c84:CC:=sR r84_0<|qR r84_1 4 r84_2<|sR r84_3 .ret
theorem o84:FnI 84 12 f84 c84 [.cell 2 32]:=oM func84
def q85:=V (RS f85=·)
def r85_0:=X q85 0
def r85_1:=X q85 1
def r85_2:=X q85 2
def r85_3:=X q85 3
def r85_4:=X q85 4
def c85:CC:=sR r85_0<|sR r85_1<|qR r85_2 19 r85_3<|sR r85_4 .ret
theorem o85:FnI 85 21 f85 c85 [.tmp 2,.tmp 3]:=oM func85
def q86:=V (RS f86=·)
def r86_0:=X q86 0
def r86_1:=X q86 1
def r86_2:=X q86 2
def r86_3:=X q86 3
def r86_4:=X q86 4
def r86_5:=X q86 5
def r86_6:=X q86 6
def r86_7:=X q86 7
def r86_8:=X q86 8
def l86_1:CC:= .seq (sR r86_5<|xR 12 2)<|.seq (.block 3<|.seq (.reg r86_6 (some [(3,10),(6,10),(3,13),(6,13)]))<|iS 30<|sR r86_7 .ret)<|rN r86_8
def r86_9:=X q86 9
def l86_0:CC:=sR r86_2<|.seq (xR 8 0)<|.seq (.block 1<|sR r86_3<|sR r86_4<|.block 2<|.loop l86_1)<|rN r86_9
def r86_10:=X q86 10
def c86:CC:=sR r86_0<|.seq (sR r86_1<|.block 0<|.loop l86_0)<|sR r86_10 .ret
theorem o86:FnI 86 32 f86 c86 [.tmp 2]:=oM func86
def q87:=V (RS f87=·)
def r87_0:=X q87 0
def r87_1:=X q87 1
def r87_2:=X q87 2
def r87_3:=X q87 3
def r87_4:=X q87 4
def r87_5:=X q87 5
def r87_6:=X q87 6
def r87_7:=X q87 7
def r87_8:=X q87 8
def r87_9:=X q87 9
def l87_0:CC:=sR r87_5<|.seq (xR 22 0)<|.seq (.block 1<|sR r87_6<|sR r87_7<|iS 27<|sR r87_8 .ret)<|rN r87_9
def r87_10:=X q87 10
def c87:CC:=sR r87_0<|sR r87_1<|qR r87_2 18 r87_3<|.seq (sR r87_4<|.block 0<|.loop l87_0)<|sR r87_10 .ret
theorem o87:FnI 87 29 f87 c87 [.tmp 2]:=oM func87
def q88:=V (RS f88=·)
def r88_0:=X q88 0
def r88_1:=X q88 1
def r88_2:=X q88 2
def r88_3:=X q88 3
def r88_4:=X q88 4
def r88_5:=X q88 5
def r88_6:=X q88 6
def c88:CC:=sR r88_0<|.seq (.reg r88_1 (some [(0,2),(1,2)]))<|.seq (sR r88_2<|iS 13<|qR r88_3 16 r88_4<|sR r88_5 .ret)<|.seq (.reg r88_6 (some [(2,5),(3,5)])) .ret
theorem o88:FnI 88 26 f88 c88 [.tmp 4]:=oM func88
def r89_0:=V (RR f89 0=·)
def r89_1:=V (RR f89 1=·)
def r89_2:=V (RR f89 2=·)
def r89_3:=V (RR f89 3=·)
def r89_4:=V (RR f89 4=·)
def r89_5:=V (RR f89 5=·)
def r89_6:=V (RR f89 6=·)
def r89_7:=V (RR f89 7=·)
def r89_8:=V (RR f89 8=·)
def l89_1:CC:= .seq (sR r89_7<|xR 35 2)<|.block 3<|rN r89_8
def r89_9:=V (RR f89 9=·)
def r89_10:=V (RR f89 10=·)
def r89_11:=V (RR f89 11=·)
def r89_12:=V (RR f89 12=·)
def r89_13:=V (RR f89 13=·)
def r89_14:=V (RR f89 14=·)
def r89_15:=V (RR f89 15=·)
def r89_16:=V (RR f89 16=·)
def r89_17:=V (RR f89 17=·)
def r89_18:=V (RR f89 18=·)
def r89_19:=V (RR f89 19=·)
def l89_3:CC:= .seq (sR r89_17<|xR 72 6)<|.seq (.block 7<|.reg r89_18 (some [(3,8),(3,11),(3,15),(8,15),(11,15),(3,18),(8,18),(11,18),(3,19),(3,23),(8,23),(11,23),(15,23),(18,23),(19,23),(3,26),(8,26),(11,26),(15,26),(18,26),(19,26),(3,30),(8,30),(11,30),(15,30),(18,30),(19,30),(23,30),(26,30),(3,33),(8,33),(11,33),(15,33),(18,33),(19,33),(23,33),(26,33),(3,34),(3,35),(3,36),(8,36),(11,36),(15,36),(18,36),(19,36),(23,36),(26,36),(30,36),(33,36),(34,36),(35,36),(3,37)]))<|rN r89_19
def r89_20:=V (RR f89 20=·)
def l89_2:CC:= .seq (sR r89_15<|xR 65 4)<|.seq (.block 5<|sR r89_16<|.block 6<|.loop l89_3)<|rN r89_20
def r89_21:=V (RR f89 21=·)
def r89_22:=V (RR f89 22=·)
def l89_0:CC:= .seq (sR r89_5<|xR 18 0)<|.seq (.block 1<|sR r89_6<|.seq (.block 2<|.loop l89_1)<|qR r89_9 40 r89_10<|.seq (sR r89_11<|iS 44<|.seq (.reg r89_12 (some [(7,11)]))<|rN r89_13)<|.seq (sR r89_14<|.block 4<|.loop l89_2)<|rN r89_21)<|rN r89_22
def r89_23:=V (RR f89 23=·)
def r89_24:=V (RR f89 24=·)
def r89_25:=V (RR f89 25=·)
def c89:CC:=sR r89_0<|sR r89_1<|sR r89_2<|sR r89_3<|.seq (sR r89_4<|.block 0<|.loop l89_0)<|qR r89_23 121 r89_24<|sR r89_25 .ret
theorem o89:FnI 89 125 f89 c89 [.cell 2 32]:=oM func89
def q90:=V (RS f90=·)
def r90_0:=X q90 0
def r90_1:=X q90 1
def r90_2:=X q90 2
def r90_3:=X q90 3
def r90_4:=X q90 4
def r90_5:=X q90 5
def r90_6:=X q90 6
def r90_7:=X q90 7
def r90_8:=X q90 8
def l90_0:CC:= .seq (sR r90_6<|xR 17 0)<|.seq (.block 1<|rN r90_7)<|rN r90_8
def r90_9:=X q90 9
def c90:CC:=sR r90_0<|sR r90_1<|qR r90_2 14 r90_3<|sR r90_4<|.seq (sR r90_5<|.block 0<|.loop l90_0)<|sR r90_9 .ret
theorem o90:FnI 90 33 f90 c90 [.tmp 2,.tmp 3]:=oM func90
def q91:=V (RS f91=·)
def r91_0:=X q91 0
def r91_1:=X q91 1
def c91:CC:=sR r91_0<|sR r91_1 .ret
theorem o91:FnI 91 22 f91 c91 [.tmp 8]:=oM func91
def q92:=V (RS f92=·)
def r92_0:=X q92 0
def r92_1:=X q92 1
def r92_2:=X q92 2
def r92_3:=X q92 3
def c92:CC:=sR r92_0<|sR r92_1<|.seq (.reg r92_2 (some [(0,10),(4,10),(8,10),(9,10),(0,11),(4,11),(8,11),(9,11),(10,11),(0,15),(4,15),(8,15),(9,15),(10,15),(11,15),(12,15),(13,15),(14,15)]))<|.seq (.reg r92_3 (some [(0,1),(0,4),(0,7),(0,8),(0,9)])) .ret
theorem o92:FnI 92 41 f92 c92 [.tmp 6]:=oM func92
def q93:=V (RS f93=·)
def r93_0:=X q93 0
def r93_1:=X q93 1
def r93_2:=X q93 2
def r93_3:=X q93 3
def r93_4:=X q93 4
def r93_5:=X q93 5
def r93_6:=X q93 6
def r93_7:=X q93 7
def r93_8:=X q93 8
def r93_9:=X q93 9
def c93:CC:=sR r93_0<|sR r93_1<|sR r93_2<|.seq (.block 0<|sR r93_3<|.cond (.t 11) (sR r93_4 .ret)<|sR r93_5<|.cond (.t 15) (sR r93_6 .ret)<|sR r93_7<|iS 25<|sR r93_8 .ret)<|sR r93_9 .ret
theorem o93:FnI 93 35 f93 c93 [.tmp 2,.tmp 3]:=oM func93
def q94:=V (RS f94=·)
def r94_0:=X q94 0
def r94_1:=X q94 1
def r94_2:=X q94 2
def r94_3:=X q94 3
def r94_4:=X q94 4
def r94_5:=X q94 5
def r94_6:=X q94 6
def r94_7:=X q94 7
def r94_8:=X q94 8
def r94_9:=X q94 9
def l94_0:CC:=sR r94_5<|.seq (xR 21 0)<|.seq (.block 1<|sR r94_6<|sR r94_7<|iS 27<|sR r94_8 .ret)<|rN r94_9
def r94_10:=X q94 10
def r94_11:=X q94 11
def r94_12:=X q94 12
def r94_13:=X q94 13
def r94_14:=X q94 14
def r94_15:=X q94 15
def r94_16:=X q94 16
def r94_17:=X q94 17
def r94_18:=X q94 18
def l94_2:CC:=sR r94_14<|.seq (xR 39 4)<|.seq (.block 5<|sR r94_15<|sR r94_16<|iS 59<|sR r94_17 .ret)<|rN r94_18
def r94_19:=X q94 19
def l94_1:CC:=sR r94_11<|.seq (xR 32 2)<|.seq (.block 3<|sR r94_12<|sR r94_13<|.block 4<|.loop l94_2)<|rN r94_19
def r94_20:=X q94 20
def c94:CC:=sR r94_0<|sR r94_1<|qR r94_2 17 r94_3<|.seq (sR r94_4<|.block 0<|.loop l94_0)<|.seq (sR r94_10<|.block 2<|.loop l94_1)<|sR r94_20 .ret
theorem o94:FnI 94 62 f94 c94 [.tmp 2]:=oM func94
def q95:=V (RS f95=·)
def r95_0:=X q95 0
def r95_1:=X q95 1
def r95_2:=X q95 2
def r95_3:=X q95 3
def r95_4:=X q95 4
def r95_5:=X q95 5
def r95_6:=X q95 6
def r95_7:=X q95 7
def r95_8:=X q95 8
def r95_9:=X q95 9
def l95_0:CC:=sR r95_5<|.seq (xR 21 0)<|.seq (.block 1<|sR r95_6<|sR r95_7<|iS 37<|sR r95_8 .ret)<|rN r95_9
def r95_10:=X q95 10
def c95:CC:=sR r95_0<|sR r95_1<|qR r95_2 16 r95_3<|.seq (sR r95_4<|.block 0<|.loop l95_0)<|sR r95_10 .ret
theorem o95:FnI 95 39 f95 c95 [.tmp 2]:=oM func95
def q128:=V (RS f128=·)
def r128_0:=X q128 0
def r128_1:=X q128 1
def r128_2:=X q128 2
def r128_3:=X q128 3
def r128_4:=X q128 4
def c128:CC:=sR r128_0<|sR r128_1<|qR r128_2 14 r128_3<|sR r128_4 .ret
theorem o128:FnI 128 17 f128 c128 [.cell 2 34]:=oM func128
def q129:=V (RS f129=·)
def r129_0:=X q129 0
def r129_1:=X q129 1
def r129_2:=X q129 2
def r129_3:=X q129 3
def r129_4:=X q129 4
def r129_5:=X q129 5
def r129_6:=X q129 6
def c129:CC:=sR r129_0<|qR r129_1 9 r129_2<|.seq (sR r129_3<|iS 13<|.reg r129_4 (some [(0,2),(1,2)]))<|sR r129_5<|.seq (.reg r129_6 (some [(0,1),(0,3),(1,3),(2,3),(0,4),(1,4),(2,4),(3,4)])) .ret
theorem o129:FnI 129 28 f129 c129 [.cell 4 34,.tmp 5]:=oM func129
def q130:=V (RS f130=·)
def r130_0:=X q130 0
def r130_1:=X q130 1
def r130_2:=X q130 2
def r130_3:=X q130 3
def r130_4:=X q130 4
def r130_5:=X q130 5
def r130_6:=X q130 6
def r130_7:=X q130 7
def r130_8:=X q130 8
def r130_9:=X q130 9
def r130_10:=X q130 10
def r130_11:=X q130 11
def r130_12:=X q130 12
def l130_1:CC:=sR r130_7<|.seq (xR 31 2)<|.seq (.block 3<|sR r130_8<|sR r130_9<|sR r130_10<|rN r130_11)<|rN r130_12
def r130_13:=X q130 13
def r130_14:=X q130 14
def l130_0:CC:=sR r130_3<|.seq (xR 23 0)<|.seq (.block 1<|sR r130_4<|sR r130_5<|.seq (sR r130_6<|.block 2<|.loop l130_1)<|rN r130_13)<|rN r130_14
def r130_15:=X q130 15
def c130:CC:=sR r130_0<|sR r130_1<|.seq (sR r130_2<|.block 0<|.loop l130_0)<|sR r130_15 .ret
theorem o130:FnI 130 77 f130 c130 [.cell 4 32]:=oM func130
def q133:=V (RS f133=·)
def r133_0:=X q133 0
def r133_1:=X q133 1
def r133_2:=X q133 2
def r133_3:=X q133 3
def r133_4:=X q133 4
def r133_5:=X q133 5
def c133:CC:=sR r133_0<|.seq (.block 0<|sR r133_1<|.cond (.t 3) (sR r133_2 .ret)<|sR r133_3<|iS 9<|sR r133_4 .ret)<|sR r133_5 .ret
theorem o133:FnI 133 12 f133 c133 [.tmp 2]:=oM func133
def q134:=V (RS f134=·)
def r134_0:=X q134 0
def r134_1:=X q134 1
def r134_2:=X q134 2
def r134_3:=X q134 3
def r134_4:=X q134 4
def r134_5:=X q134 5
def r134_6:=X q134 6
def c134:CC:=sR r134_0<|.seq (.reg r134_1 (some [(1,4),(2,4)]))<|.seq (sR r134_2<|iS 17<|.seq (.reg r134_3 (some [(1,4)])) .ret)<|.seq (sR r134_4<|iS 27<|.seq (.reg r134_5 (some [(1,4)])) .ret)<|.seq (.reg r134_6 (some [(1,4)])) .ret
theorem o134:FnI 134 40 f134 c134 [.cell 4 32]:=oM func134
def q136:=V (RS f136=·)
def r136_0:=X q136 0
def r136_1:=X q136 1
def r136_2:=X q136 2
def r136_3:=X q136 3
def c136:CC:=sR r136_0<|.seq (.reg r136_1 (some [(0,2),(1,2),(0,4),(1,4),(2,4),(3,4),(0,5),(1,5),(2,5),(3,5),(4,5)]))<|.seq (.reg r136_2 (some [(1,3),(1,6),(3,6),(4,6),(1,8),(3,8),(4,8),(6,8),(1,12),(3,12),(4,12),(6,12),(8,12),(9,12),(10,12),(1,14),(3,14),(4,14),(6,14),(8,14),(9,14),(10,14),(12,14),(1,20),(3,20),(4,20),(6,20),(8,20),(9,20),(10,20),(12,20),(14,20),(15,20),(16,20)]))<|sR r136_3 .ret
theorem o136:FnI 136 34 f136 c136 [.cell 4 34]:=oM func136
def q142:=V (RS f142=·)
def r142_0:=X q142 0
def r142_1:=X q142 1
def r142_2:=X q142 2
def r142_3:=X q142 3
def r142_4:=X q142 4
def r142_5:=X q142 5
def r142_6:=X q142 6
def r142_7:=X q142 7
def r142_8:=X q142 8
def r142_9:=X q142 9
def r142_10:=X q142 10
def r142_11:=X q142 11
def l142_0:CC:= .seq (sR r142_6<|xR 20 0)<|.seq (.block 1<|.seq (.reg r142_7 (some [(3,7)]))<|iS 31<|.seq (.seq (.reg r142_8 (some [(3,7)]))<|iS 40<|sR r142_9 .ret)<|sR r142_10 .ret)<|rN r142_11
def r142_12:=X q142 12
def c142:CC:=sR r142_0<|.seq (sR r142_1<|iS 10<|qR r142_2 15 r142_3<|sR r142_4 .ret)<|.seq (sR r142_5<|.block 0<|.loop l142_0)<|sR r142_12 .ret
theorem o142:FnI 142 41 f142 c142 [.tmp 4]:=oM func142
def q144:=V (RS f144=·)
def r144_0:=X q144 0
def r144_1:=X q144 1
def c144:CC:=sR r144_0<|sR r144_1 .ret
theorem o144:FnI 144 15 f144 c144 [.tmp 2]:=oM func144
def q150:=V (RS f150=·)
def r150_0:=X q150 0
def r150_1:=X q150 1
def r150_2:=X q150 2
def r150_3:=X q150 3
def r150_4:=X q150 4
def r150_5:=X q150 5
def r150_6:=X q150 6
def r150_7:=X q150 7
def l150_0:CC:=sR r150_3<|.seq (xR 9 0)<|.seq (.block 1<|sR r150_4<|sR r150_5<|iS 14<|sR r150_6 .ret)<|rN r150_7
def r150_8:=X q150 8
def c150:CC:=sR r150_0<|sR r150_1<|.seq (sR r150_2<|.block 0<|.loop l150_0)<|sR r150_8 .ret
theorem o150:FnI 150 17 f150 c150 [.tmp 4,.tmp 5]:=oM func150
def q151:=V (RS f151=·)
def r151_0:=X q151 0
def r151_1:=X q151 1
def r151_2:=X q151 2
def r151_3:=X q151 3
def r151_4:=X q151 4
def r151_5:=X q151 5
def r151_6:=X q151 6
def r151_7:=X q151 7
def r151_8:=X q151 8
def r151_9:=X q151 9
def r151_10:=X q151 10
def r151_11:=X q151 11
def r151_12:=X q151 12
def r151_13:=X q151 13
def r151_14:=X q151 14
def r151_15:=X q151 15
def l151_1:CC:=sR r151_12<|.seq (xR 59 2)<|.seq (.block 3<|sR r151_13<|rN r151_14)<|rN r151_15
def r151_16:=X q151 16
def r151_17:=X q151 17
def r151_18:=X q151 18
def r151_19:=X q151 19
def l151_0:CC:=sR r151_8<|.seq (xR 38 0)<|.seq (.block 1<|sR r151_9<|.seq (.reg r151_10 (some [(4,10)]))<|.seq (sR r151_11<|.block 2<|.loop l151_1)<|.seq (sR r151_16<|sR r151_17<|iS 86<|.goto 0)<|rN r151_18)<|rN r151_19
def r151_20:=X q151 20
def c151:CC:=sR r151_0<|.scope<|sR r151_1<|sR r151_2<|sR r151_3<|sR r151_4<|sR r151_5<|.seq (.label 0)<|sR r151_6<|.seq (sR r151_7<|.block 0<|.loop l151_0)<|sR r151_20 .ret
theorem o151:FnI 151 92 f151 c151 [.tmp 4]:=oM func151
def q160:=V (RS f160=·)
def r160_0:=X q160 0
def r160_1:=X q160 1
def c160:CC:=sR r160_0<|sR r160_1 .ret
theorem o160:FnI 160 8 f160 c160 [.cell 2 32]:=oM func160
def q161:=V (RS f161=·)
def r161_0:=X q161 0
def r161_1:=X q161 1
def c161:CC:=sR r161_0<|sR r161_1 .ret
theorem o161:FnI 161 9 f161 c161 [.cell 2 32]:=oM func161
def r162_0:RL:=[oP 1 (.box (.t 0)),oP 2 (.box (.k (.agg [(.bool false),(.vec [] 0 (some 0))])))]
def r162_1:RL:=[ldO 3 true 4 1,cL 4 212 [],cL 5 136 [.t 3,.t 4],cL 6 211 [.t 5],sT (.store 2 (.t 2) (.t 6))]
def c162:CC:=sR r162_0<|.seq (.reg r162_1 (some [(0,1)])) .ret
theorem o162:FnI 162 7 f162 c162 [.cell 2 32]:=oM func162
def q163:=V (RS f163=·)
def r163_0:=X q163 0
def r163_1:=X q163 1
def c163:CC:=sR r163_0<|sR r163_1 .ret
theorem o163:FnI 163 9 f163 c163 [.cell 4 34]:=oM func163
def q164:=V (RS f164=·)
def r164_0:=X q164 0
def r164_1:=X q164 1
def r164_2:=X q164 2
def r164_3:=X q164 3
def r164_4:=X q164 4
def r164_5:=X q164 5
def r164_6:=X q164 6
def l164_0:CC:= .seq (sR r164_3<|xR 12 0)<|.seq (.block 1<|sR r164_4<|rN r164_5)<|rN r164_6
def r164_7:=X q164 7
def c164:CC:=sR r164_0<|sR r164_1<|.seq (sR r164_2<|.block 0<|.loop l164_0)<|sR r164_7 .ret
theorem o164:FnI 164 34 f164 c164 [.cell 6 32]:=oM func164
def q165:=V (RS f165=·)
def r165_0:=X q165 0
def r165_1:=X q165 1
def r165_2:=X q165 2
def r165_3:=X q165 3
def c165:CC:=sR r165_0<|qR r165_1 6 r165_2<|sR r165_3 .ret
theorem o165:FnI 165 13 f165 c165 [.cell 4 32]:=oM func165
def q166:=V (RS f166=·)
def r166_0:=X q166 0
def r166_1:=X q166 1
def r166_2:=X q166 2
def r166_3:=X q166 3
def r166_4:=X q166 4
def r166_5:=X q166 5
def r166_6:=X q166 6
def r166_7:=X q166 7
def r166_8:=X q166 8
def l166_0:CC:=sR r166_4<|.seq (xR 18 0)<|.seq (.block 1<|sR r166_5<|sR r166_6<|iS 37<|sR r166_7 .ret)<|rN r166_8
def r166_9:=X q166 9
def c166:CC:=sR r166_0<|qR r166_1 14 r166_2<|.seq (sR r166_3<|.block 0<|.loop l166_0)<|.seq (.reg r166_9 (some [])) .ret
theorem o166:FnI 166 45 f166 c166 [.tmp 2,.tmp 3,.tmp 4]:=oM func166
def q167:=V (RS f167=·)
def r167_0:=X q167 0
def r167_1:=X q167 1
def r167_2:=X q167 2
def r167_3:=X q167 3
def r167_4:=X q167 4
def r167_5:=X q167 5
def r167_6:=X q167 6
def r167_7:=X q167 7
def r167_8:=X q167 8
def r167_9:=X q167 9
def r167_10:=X q167 10
def r167_11:=X q167 11
def r167_12:=X q167 12
def l167_1:CC:=sR r167_9<|.seq (xR 32 2)<|.seq (.block 3<|sR r167_10<|.reg r167_11 (some [(3,8),(3,11),(3,12)]))<|rN r167_12
def r167_13:=X q167 13
def l167_0:CC:=sR r167_6<|.seq (xR 24 0)<|.seq (.block 1<|sR r167_7<|sR r167_8<|.block 2<|.loop l167_1)<|rN r167_13
def r167_14:=X q167 14
def c167:CC:=sR r167_0<|sR r167_1<|qR r167_2 17 r167_3<|sR r167_4<|.seq (sR r167_5<|.block 0<|.loop l167_0)<|sR r167_14 .ret
theorem o167:FnI 167 51 f167 c167 [.tmp 2,.tmp 3]:=oM func167
def q168:=V (RS f168=·)
def r168_0:=X q168 0
def r168_1:=X q168 1
def r168_2:=X q168 2
def r168_3:=X q168 3
def r168_4:=X q168 4
def r168_5:=X q168 5
def r168_6:=X q168 6
def r168_7:=X q168 7
def r168_8:=X q168 8
def r168_9:=X q168 9
def r168_10:=X q168 10
def r168_11:=X q168 11
def r168_12:=X q168 12
def r168_13:=X q168 13
def l168_1:CC:=sR r168_10<|.seq (xR 50 2)<|.seq (.block 3<|sR r168_11<|.reg r168_12 (some [(3,8),(3,12),(8,12),(3,13)]))<|rN r168_13
def r168_14:=X q168 14
def l168_0:CC:=sR r168_7<|.seq (xR 45 0)<|.seq (.block 1<|sR r168_8<|sR r168_9<|.block 2<|.loop l168_1)<|rN r168_14
def r168_15:=X q168 15
def c168:CC:=sR r168_0<|sR r168_1<|sR r168_2<|qR r168_3 36 r168_4<|sR r168_5<|.seq (sR r168_6<|.block 0<|.loop l168_0)<|sR r168_15 .ret
theorem o168:FnI 168 70 f168 c168 [.tmp 4,.tmp 5]:=oM func168
def q169:=V (RS f169=·)
def r169_0:=X q169 0
def r169_1:=X q169 1
def r169_2:=X q169 2
def r169_3:=X q169 3
def r169_4:=X q169 4
def c169:CC:=sR r169_0<|.seq (.seq (.reg r169_1 (some [(3,7)]))<|iS 12<|sR r169_2 .ret)<|sR r169_3<|.seq (.reg r169_4 (some [(3,7)])) .ret
theorem o169:FnI 169 32 f169 c169 [.tmp 2]:=oM func169
def q170:=V (RS f170=·)
def r170_0:=X q170 0
def r170_1:=X q170 1
def c170:CC:=sR r170_0<|sR r170_1 .ret
theorem o170:FnI 170 13 f170 c170 [.cell 4 32]:=oM func170
def q171:=V (RS f171=·)
def r171_0:=X q171 0
def r171_1:=X q171 1
def r171_2:=X q171 2
def r171_3:=X q171 3
def l171_0:CC:= .seq (sR r171_2<|xR 15 0)<|.block 1<|rN r171_3
def r171_4:=X q171 4
def c171:CC:=sR r171_0<|sR r171_1<|.seq (.block 0<|.loop l171_0)<|sR r171_4 .ret
theorem o171:FnI 171 22 f171 c171 [.tmp 2]:=oM func171
def q172:=V (RS f172=·)
def r172_0:=X q172 0
def r172_1:=X q172 1
def r172_2:=X q172 2
def c172:CC:=sR r172_0<|sR r172_1<|sR r172_2 .ret
theorem o172:FnI 172 16 f172 c172 [.cell 4 32]:=oM func172
def r173_0:RL:=[oP 2 (.box (.t 0)),oP 3 (.box (.t 1)),oP 4 (.box (.k (.agg [(.bool false),(.vec [] 0 (some 0))])))]
def r173_1:RL:=[ldO 5 true 2 2,ldO 6 true 2 3,cL 7 161 [.t 6],cL 8 134 [.t 5,.t 7],sT (.store 2 (.t 4) (.t 8))]
def c173:CC:=sR r173_0<|.seq (.reg r173_1 (some [(0,1),(0,2)])) .ret
theorem o173:FnI 173 9 f173 c173 [.cell 4 32]:=oM func173
def q174:=V (RS f174=·)
def r174_0:=X q174 0
def r174_1:=X q174 1
def r174_2:=X q174 2
def r174_3:=X q174 3
def r174_4:=X q174 4
def r174_5:=X q174 5
def r174_6:=X q174 6
def r174_7:=X q174 7
def r174_8:=X q174 8
def r174_9:=X q174 9
def r174_10:=X q174 10
def l174_1:CC:=sR r174_7<|.seq (xR 22 2)<|.seq (.block 3<|sR r174_8<|rN r174_9)<|rN r174_10
def r174_11:=X q174 11
def r174_12:=X q174 12
def l174_0:CC:=sR r174_3<|.seq (xR 16 0)<|.seq (.block 1<|sR r174_4<|sR r174_5<|.seq (sR r174_6<|.block 2<|.loop l174_1)<|rN r174_11)<|rN r174_12
def r174_13:=X q174 13
def c174:CC:=sR r174_0<|sR r174_1<|.seq (sR r174_2<|.block 0<|.loop l174_0)<|sR r174_13 .ret
theorem o174:FnI 174 42 f174 c174 [.tmp 6]:=oM func174
def q175:=V (RS f175=·)
def r175_0:=X q175 0
def r175_1:=X q175 1
def r175_2:=X q175 2
def r175_3:=X q175 3
def r175_4:=X q175 4
def r175_5:=X q175 5
def l175_0:CC:= .seq (sR r175_3<|xR 9 0)<|.seq (.block 1<|rN r175_4)<|rN r175_5
def r175_6:=X q175 6
def c175:CC:=sR r175_0<|sR r175_1<|.seq (sR r175_2<|.block 0<|.loop l175_0)<|sR r175_6 .ret
theorem o175:FnI 175 20 f175 c175 [.tmp 4]:=oM func175
def r176_0:RL:=[oP 1 (.box (.t 0)),oP 2 (.box (.k (.agg [(.bool false),(.vec [] 0 (some 0))])))]
def r176_1:RL:=[oP 3 (.fld 1 (.t 1)),ldO 4 false 1 3,cL 5 197 [(.k (.bool false)),.t 4],sT (.store 2 (.t 2) (.t 5))]
def c176:CC:=sR r176_0<|sR r176_1 .ret
theorem o176:FnI 176 6 f176 c176 [.cell 2 32]:=oM func176
def q177:=V (RS f177=·)
def r177_0:=X q177 0
def r177_1:=X q177 1
def r177_2:=X q177 2
def r177_3:=X q177 3
def r177_4:=X q177 4
def r177_5:=X q177 5
def l177_0:CC:= .seq (sR r177_3<|xR 12 0)<|.seq (.block 1<|rN r177_4)<|rN r177_5
def r177_6:=X q177 6
def c177:CC:=sR r177_0<|sR r177_1<|.seq (sR r177_2<|.block 0<|.loop l177_0)<|sR r177_6 .ret
theorem o177:FnI 177 26 f177 c177 [.tmp 2]:=oM func177
def q196:=V (RS f196=·)
def r196_0:=X q196 0
def r196_1:=X q196 1
def r196_2:=X q196 2
def r196_3:=X q196 3
def l196_0:CC:= .seq (sR r196_2<|xR 13 0)<|.block 1<|.reg r196_3 (some [(0,1),(0,2),(1,2),(0,3)])
def r196_4:=X q196 4
def c196:CC:=sR r196_0<|.seq (.reg r196_1 (some [(0,2),(1,2),(0,4),(1,4),(2,4),(3,4),(0,5),(1,5),(2,5),(3,5),(4,5)]))<|.seq (.block 0<|.loop l196_0)<|sR r196_4 .ret
theorem o196:FnI 196 19 f196 c196 [.cell 4 32]:=oM func196
def q197:=V (RS f197=·)
def r197_0:=X q197 0
def r197_1:=X q197 1
def r197_2:=X q197 2
def c197:CC:=sR r197_0<|sR r197_1<|sR r197_2 .ret
theorem o197:FnI 197 16 f197 c197 [.cell 4 32]:=oM func197
def q198:=V (RS f198=·)
def r198_0:=X q198 0
def r198_1:=X q198 1
def r198_2:=X q198 2
def r198_3:=X q198 3
def r198_4:=X q198 4
def r198_5:=X q198 5
def r198_6:=X q198 6
def r198_7:=X q198 7
def r198_8:=X q198 8
def r198_9:=X q198 9
def r198_10:=X q198 10
def r198_11:=X q198 11
def l198_0:CC:= .seq (sR r198_4<|xR 17 0)<|.seq (.block 1<|.seq (sR r198_5<|iS 23<|rN r198_6)<|.seq (sR r198_7<|iS 34<|rN r198_8)<|sR r198_9<|rN r198_10)<|rN r198_11
def r198_12:=X q198 12
def c198:CC:=sR r198_0<|sR r198_1<|sR r198_2<|.seq (sR r198_3<|.block 0<|.loop l198_0)<|sR r198_12 .ret
theorem o198:FnI 198 54 f198 c198 [.tmp 4]:=oM func198
def q199:=V (RS f199=·)
def r199_0:=X q199 0
def r199_1:=X q199 1
def r199_2:=X q199 2
def r199_3:=X q199 3
def r199_4:=X q199 4
def r199_5:=X q199 5
def r199_6:=X q199 6
def r199_7:=X q199 7
def r199_8:=X q199 8
def r199_9:=X q199 9
def r199_10:=X q199 10
def r199_11:=X q199 11
def r199_12:=X q199 12
def l199_0:CC:= .seq (sR r199_4<|xR 12 0)<|.seq (.block 1<|sR r199_5<|.seq (sR r199_6<|iS 19<|rN r199_7)<|sR r199_8<|sR r199_9<|sR r199_10<|iS 44<|rN r199_11)<|rN r199_12
def r199_13:=X q199 13
def c199:CC:=sR r199_0<|sR r199_1<|sR r199_2<|.seq (sR r199_3<|.block 0<|.loop l199_0)<|sR r199_13 .ret
theorem o199:FnI 199 46 f199 c199 [.tmp 4]:=oM func199
def q207:=V (RS f207=·)
def r207_0:=X q207 0
def r207_1:=X q207 1
def r207_2:=X q207 2
def r207_3:=X q207 3
def r207_4:=X q207 4
def r207_5:=X q207 5
def r207_6:=X q207 6
def c207:CC:=sR r207_0<|qR r207_1 9 r207_2<|.seq (sR r207_3<|sR r207_4<|iS 13<|sR r207_5 .ret)<|sR r207_6 .ret
theorem o207:FnI 207 18 f207 c207 [.tmp 4,.tmp 5]:=oM func207
def q211:=V (RS f211=·)
def r211_0:=X q211 0
def r211_1:=X q211 1
def r211_2:=X q211 2
def c211:CC:=sR r211_0<|sR r211_1<|sR r211_2 .ret
theorem o211:FnI 211 11 f211 c211 [.cell 2 32]:=oM func211
def q212:=V (RS f212=·)
def r212_0:=X q212 0
def r212_1:=X q212 1
def c212:CC:=sR r212_0<|sR r212_1 .ret
theorem o212:FnI 212 4 f212 c212 [.cell 0 34]:=oM func212
def q213:=V (RS f213=·)
def r213_0:=X q213 0
def r213_1:=X q213 1
def r213_2:=X q213 2
def r213_3:=X q213 3
def r213_4:=X q213 4
def r213_5:=X q213 5
def r213_6:=X q213 6
def l213_0:CC:=sR r213_3<|.seq (xR 11 0)<|.seq (.block 1<|sR r213_4<|.reg r213_5 (some [(0,4),(0,8),(4,8),(0,9)]))<|rN r213_6
def r213_7:=X q213 7
def c213:CC:=sR r213_0<|sR r213_1<|.seq (sR r213_2<|.block 0<|.loop l213_0)<|sR r213_7 .ret
theorem o213:FnI 213 26 f213 c213 [.cell 4 32]:=oM func213
def q214:=V (RS f214=·)
def r214_0:=X q214 0
def r214_1:=X q214 1
def r214_2:=X q214 2
def r214_3:=X q214 3
def r214_4:=X q214 4
def r214_5:=X q214 5
def r214_6:=X q214 6
def r214_7:=X q214 7
def r214_8:=X q214 8
def r214_9:=X q214 9
def r214_10:=X q214 10
def r214_11:=X q214 11
def c214:CC:=sR r214_0<|.seq (.reg r214_1 (some [(1,4),(2,4)]))<|qR r214_2 21 r214_3<|sR r214_4<|.seq (.reg r214_5 (some [(1,3),(1,8),(3,8),(6,8),(1,11),(3,11),(6,11),(8,11),(10,11),(1,12),(3,12),(6,12),(8,12),(10,12),(11,12)]))<|.seq (sR r214_6<|iS 43<|.seq (.reg r214_7 (some [(0,2)]))<|.seq (sR r214_8<|iS 50<|.seq (.reg r214_9 (some [(0,1),(0,3),(1,3),(2,3),(3,4)])) .ret)<|.seq (.reg r214_10 (some [(0,1),(0,3),(1,3),(2,3),(3,4)])) .ret)<|.seq (.reg r214_11 (some [(0,1),(1,2)])) .ret
theorem o214:FnI 214 61 f214 c214 [.cell 4 32,.cell 5 32,.tmp 6]:=oM func214
def q218:=V (RS f218=·)
def r218_0:=X q218 0
def r218_1:=X q218 1
def r218_2:=X q218 2
def c218:CC:=sR r218_0<|sR r218_1<|sR r218_2 .ret
theorem o218:FnI 218 16 f218 c218 [.cell 4 32]:=oM func218
def q223:=V (RS f223=·)
def r223_0:=X q223 0
def r223_1:=X q223 1
def r223_2:=X q223 2
def r223_3:=X q223 3
def r223_4:=X q223 4
def r223_5:=X q223 5
def r223_6:=X q223 6
def r223_7:=X q223 7
def r223_8:=X q223 8
def l223_0:CC:=sR r223_4<|.seq (xR 30 0)<|.seq (.block 1<|sR r223_5<|sR r223_6<|iS 39<|sR r223_7 .ret)<|rN r223_8
def r223_9:=X q223 9
def c223:CC:=sR r223_0<|qR r223_1 26 r223_2<|.seq (sR r223_3<|.block 0<|.loop l223_0)<|sR r223_9 .ret
theorem o223:FnI 223 41 f223 c223 [.tmp 2]:=oM func223
def r224_0:RL:=[oP 2 (.mov (kI 0))]
def r224_1:RL:=[mV 3 0,bK 4 .lss 3 2,mV 5 4,gU 6 5 false (.mov (.t 0)),gU 7 5 false (.bin .gtr (.t 6) (kI 2147483647)),oP 8 (.pick (.t 5) (.k (.bool true)) (.t 7))]
def r224_2:RL:=[oP 2 (.mov (kI 1))]
def r224_3:RL:=[oP 2 (.mov (kI 0))]
def c224:CC:=sR r224_0<|qR r224_1 8 r224_2<|sR r224_3 .ret
theorem o224:FnI 224 9 f224 c224 [.tmp 2]:=oM func224
def q225:=V (RS f225=·)
def r225_0:=X q225 0
def r225_1:=X q225 1
def r225_2:=X q225 2
def r225_3:=X q225 3
def r225_4:=X q225 4
def r225_5:=X q225 5
def r225_6:=X q225 6
def r225_7:=X q225 7
def r225_8:=X q225 8
def r225_9:=X q225 9
def r225_10:=X q225 10
def l225_1:CC:=sR r225_7<|.seq (xR 29 2)<|.seq (.block 3<|sR r225_8<|.reg r225_9 (some []))<|rN r225_10
def r225_11:=X q225 11
def l225_0:CC:=sR r225_3<|.seq (xR 16 0)<|.seq (.block 1<|sR r225_4<|sR r225_5<|sR r225_6<|.block 2<|.loop l225_1)<|rN r225_11
def r225_12:=X q225 12
def c225:CC:=sR r225_0<|sR r225_1<|.seq (sR r225_2<|.block 0<|.loop l225_0)<|sR r225_12 .ret
theorem o225:FnI 225 49 f225 c225 [.tmp 4]:=oM func225
def q227:=V (RS f227=·)
def r227_0:=X q227 0
def r227_1:=X q227 1
def r227_2:=X q227 2
def r227_3:=X q227 3
def r227_4:=X q227 4
def r227_5:=X q227 5
def r227_6:=X q227 6
def r227_7:=X q227 7
def r227_8:=X q227 8
def r227_9:=X q227 9
def r227_10:=X q227 10
def r227_11:=X q227 11
def l227_0:CC:= .seq (sR r227_6<|xR 39 0)<|.seq (.block 1<|sR r227_7<|sR r227_8<|iS 57<|sR r227_9<|.reg r227_10 (some []))<|rN r227_11
def r227_12:=X q227 12
def c227:CC:=sR r227_0<|.seq (sR r227_1<|iS 16<|sR r227_2<|.seq (.reg r227_3 (some [])) .ret)<|sR r227_4<|.seq (sR r227_5<|.block 0<|.loop l227_0)<|sR r227_12 .ret
theorem o227:FnI 227 75 f227 c227 [.tmp 4,.tmp 5]:=oM func227
def q229:=V (RS f229=·)
def r229_0:=X q229 0
def r229_1:=X q229 1
def r229_2:=X q229 2
def r229_3:=X q229 3
def r229_4:=X q229 4
def r229_5:=X q229 5
def r229_6:=X q229 6
def r229_7:=X q229 7
def l229_0:CC:=sR r229_3<|.seq (xR 11 0)<|.seq (.block 1<|sR r229_4<|sR r229_5<|rN r229_6)<|rN r229_7
def r229_8:=X q229 8
def c229:CC:=sR r229_0<|sR r229_1<|.seq (sR r229_2<|.block 0<|.loop l229_0)<|sR r229_8 .ret
theorem o229:FnI 229 28 f229 c229 [.tmp 4]:=oM func229
end
end Go.Proofs.YtgfbaioffpcelaaGreatDoor
namespace Go.Proofs.YtgfbaioffpcelaaGreatDoor
open Go Go.AL Go.Proofs Go.Limb
def u32s(l:List Nat):List AV:=l.map λ(n:Nat)=>AV.int .u32 (n:Int)
theorem zae(l:List Nat):(u32s l).length=l.length:=by simp[u32s]
theorem zal(l:List Nat)(i:Nat)(h:i<l.length)(d:AV):(u32s l).getD i d= .int .u32 ((l.getD i 0:Nat):Int):=by
 simp[u32s,h]
theorem zpq(l:List Nat)(n:Nat):(u32s l).take n=u32s (l.take n):=by simp[u32s,List.map_take]
theorem zbq(l:List Nat)(i a:Nat):(u32s l).set i (.int .u32 (a:Int))=u32s (l.set i a):=by simp[u32s,zZ]
theorem zao(l:List Nat):qU (u32s l)=true:=by
 induction l with
 |nil=>rfl
 |cons d l ih=>exact ih
theorem zup(l:List Nat)(m d:Nat)(H:Heap):(u32s l).mapM (frzI m H (d+1))=some (u32s l):=by
 refine zoe (λa ha=>?_);simp only[u32s,List.mem_map]at ha;obtain⟨n,_,rfl⟩:=ha;rfl
theorem wQ{a b:Int}(h:a=b/\ -9223372036854775808<=b/\b<9223372036854775808):IntKind.i64.wrap a=b:=by
 obtain⟨rfl,h1,h2⟩:=h;simp[IntKind.wrap,IntKind.bits,IntKind.signed];omega
theorem wS1(i:Nat)(h:i<9223372036854775807):IntKind.i64.wrap ((i:Int)+1)=((i+1:Nat):Int):=wQ (by omega)
theorem w64{a:Int}(h1: -9223372036854775808<=a)(h2:a<9223372036854775808):IntKind.i64.wrap a=a:=by
 simp[IntKind.wrap,IntKind.bits,IntKind.signed];omega
def zap(z:Int)(a:AV):Prop:= ∃l c,zbn l/\l.length<=1100/\val l=z.natAbs/\a= .agg [.bool (decide (z<0)),.vec (u32s l) l.length c]
theorem qgt{n0 fr n sz bytes:Nat}{H:Heap}{cs ds:List AV}{c c':Option Nat}:zby n0 fr H sz bytes (.vec cs n c) (.vec ds 0 c')=some (.vec cs n c,[],[]):=by
 simp[zby,lenA,zea,need]
theorem qgu{n0 fr m sz bytes:Nat}{H:Heap}{ds:List AV}{c':Option Nat}(hm:0<m)(hl:m*sz<=ds.length)(h1:4*m*bytes<=281474976710656)(h2:m<4611686018427387904):
  zby n0 fr H sz bytes (.vec [] 0 (some 0)) (.vec ds m c')=some (.sl fr 0 m sz none,[(fr,some (ds.take (m*sz)))],[]):=by
 have e1:m≠0:=by omega
 have e2:4*(0+m)*bytes<=2^48:=by rw[xC];exact h1
 have e3:0+m<2^62:=by rw[xC];exact h2
 simp only[zby,lenA,zea,need,xX,qY,hl,and_self,if_true,e1,if_false,zJ,yZ,e2,e3,List.take_nil,yB,true_and];simp only[xC]
theorem zmy{H:Heap}{id n:Nat}{c:Option Nat}{l:List Nat}(hb:getB H id=some (u32s l))(hn:n=l.length):AL.Fin 0 (.sl id 0 n 1 c) H (.vec (u32s l) n c) []:=by
 refine .freeze 2 _ _ _ ?_ (by intro i cs h;omega);have e:=zup l 0 0 H;rw[frzI];simp only[zE,if_false,hb,need,xC,xO,hn,zae,qY,if_true,yY];rw[qW (by rw[zae];omega),e];rfl
theorem znw(l:List Nat)(c:Option Nat)(hl:l.length<16777216):∃c',Rt 171 [.vec (u32s l) l.length c] [] (.vec (u32s (zbi l)) (zbi l).length c') []:=by
 have key:∀{E:Env} {Q:Post},E 0= .vec (u32s l) l.length c->E 3= .int .i64 (l.length:Nat)->(∀E',E' 0= .vec (u32s l) l.length c->E' 3= .int .i64 (zdg l l.length:Nat)->Q (.exit 0) E' [])->Wg 0 22 (.loop l171_0) E [] Q:=by
  intro E Q h0 h3 hQ;refine zaj (λk E H=>k<=l.length/\zdg l k=zdg l l.length/\E 0= .vec (u32s l) l.length c/\E 3= .int .i64 (k:Nat)/\H=[]) (n:=l.length) ⟨by omega,rfl,h0,h3,rfl⟩ ?_;rintro k E H ⟨hk,ht,h0,h3,rfl⟩;refine wM ?_;cases k with
  |zero=>
   simp only[l171_0,r171_2,SS,fC,reduceCtorEq,reduceIte,qQ,h3,zA,show decide ((0:Int)<0)=false from rfl];refine hQ _ ?_ ?_<;>simp only[UU,qQ, *];rw[<-ht];rfl
  |succ k=>
   have g:=zal l k (by omega) AV.junk;have w1:IntKind.i64.wrap (((k+1:Nat):Int)-1)=(k:Nat):=wQ (by omega);have d1:decide ((0:Int)<((k+1:Nat):Int))=true:=dT;simp only[l171_0,r171_2,r171_3,SS,fC,reduceCtorEq,reduceIte,qQ,h0,h3,d1,w1,g,qK,zae];refine⟨⟨by omega,by omega⟩,by omega,λhz=>?_,λhz=>?_⟩
   ·have hz:l.getD k 0=0:=by omega
    refine⟨k,_,_,by omega,⟨by omega,?_,?_,?_,rfl⟩,.refl⟩
    ·rw[<-ht,zdg,if_pos hz]
    ·simp only[UU,qQ, *]
    ·simp only[UU,qQ,reduceIte, *]
   ·have hz:l.getD k 0≠0:=by omega
    refine hQ _ ?_ ?_
    ·simp only[UU,qQ, *]
    ·simp only[UU,qQ, *];rw[<-ht,zdg,if_neg hz]
 have hle:=zhq l l.length
 have hsl:((u32s l).drop (0*1)).take ((zdg l l.length-0)*1)=u32s (zbi l):=by
  simp only[yY,xO,zK,zpq];rfl
 rcases yD (zdg l l.length)with h0 | h0
 ·have e:zbi l=[]:=by unfold zbi;rw[h0];rfl
  refine⟨some 0,?_⟩;refine oF o171 ?_;simp only[c171,r171_0,r171_1,SS,reduceCtorEq,reduceIte,qQ];refine key (by simp only[UU,qQ, *]) (by simp only[UU,qQ,reduceIte, *]) (λE' h0' h3'=>?_);simp only[r171_4,SS,reduceCtorEq,reduceIte,qQ,h0',h3',qK,zae];refine⟨by omega,⟨by omega,by omega,by omega⟩,?_⟩;rw[e,h0,Nat.zero_sub,qgt];exact⟨.inl trivial,_,rfl,.drop _ _ rfl (by intro i cs h;omega)⟩
 ·have hlen:=zgc l;refine⟨none,?_⟩;refine oF o171 ?_;simp only[c171,r171_0,r171_1,SS,reduceCtorEq,reduceIte,qQ];refine key (by simp only[UU,qQ, *]) (by simp only[UU,qQ,reduceIte, *]) (λE' h0' h3'=>?_);simp only[r171_4,SS,reduceCtorEq,reduceIte,qQ,h0',h3',qK,zae];refine⟨by omega,⟨by omega,by omega,by omega⟩,?_⟩;rw[zK,zpq,qgu h0 (by rw[zae,xO];exact Nat.le_of_eq hlen.symm) (by omega) (by omega)];refine⟨.inl trivial,_,rfl,?_⟩
  have e1:(u32s (l.take (zdg l l.length))).take (zdg l l.length*1)=u32s (zbi l):=by
   rw[xO,qW (by rw[zae];exact Nat.le_of_eq hlen)];rfl
  rw[e1,<-hlen];exact zmy rfl rfl
def sgnZ(s:Bool)(n:Nat):Int:=if s then -(n:Int)else n
theorem zgm(s:Bool)(n:Nat):(sgnZ s n).natAbs=n:=by unfold sgnZ;split<;>omega
theorem zpr(s:Bool)(l:List Nat)(c:Option Nat)(hd:Dig l)(hl:l.length<1048576)(hfit:val l<BIG):∃v,zap (sgnZ s (val l)) v/\Rt 197 [.bool s,.vec (u32s l) l.length c] [] v []:=by
 obtain⟨c',ht⟩:=znw l c (by omega);have hlen:(zbi l).length<=l.length:=by rw[zgc];exact zhq _ _
 have hneg:decide (sgnZ s (val l)<0)=(if s=true then decide ((0:Int)<((zbi l).length:Nat))else false):=by
  cases s
  ·simp[sgnZ]
  ·have h1:=zgl (zbc hd);rw[zbp]at h1;simp only[sgnZ,if_true];by_cases h0:zbi l=[]
   ·rw[h0]at h1 ⊢;have:val l=0:=h1.2 rfl;simp[this]
   ·have:val l≠0:=λe=>h0 (h1.1 e)
    have:0<(zbi l).length:=List.length_pos_iff.2 h0;rw[dT,dT]
 refine⟨_,⟨zbi l,c',zbc hd,canon_len (zbc hd) (by rw[zbp];exact hfit),by rw[zbp,zgm],rfl⟩,?_⟩;rw[hneg];refine oF o197 ?_;simp only[c197,r197_0,r197_1,SS,reduceCtorEq,reduceIte,qQ];refine zaa ht ?_;cases s
 ·simp only[r197_2,SS,fC,reduceCtorEq,reduceIte,qZ,qQ,qX];exact dR
 ·simp only[r197_2,SS,fC,reduceCtorEq,reduceIte,qZ,qQ,qX];exact dR
theorem zsk{z:Int}{a:AV}(h:zap z a):∃v,zap z v/\Rt 160 [a] [] v []:=by
 obtain⟨l,c,hc,hl,hv,rfl⟩:=h;obtain⟨v,hv1,hr⟩:=zpr (decide (z<0)) l c hc.1 (by omega) (zem hc.1 hl)
 have e:sgnZ (decide (z<0)) (val l)=z:=by
  rw[hv];unfold sgnZ;simp only[decide_eq_true_eq];split<;>omega
 rw[e]at hv1;obtain⟨l',c',_,_,_,rfl⟩:=hv1;refine⟨_,⟨l',c',by assumption,by assumption,by assumption,rfl⟩,?_⟩;refine oF o160 ?_;simp only[c160,r160_0,r160_1,SS,fC,reduceCtorEq,reduceIte,qZ,qQ,qX];refine zaa hr ?_;simp only[SS,reduceIte,qZ,qQ,qX];exact dR
theorem zNeg{z:Int}{a:AV}(h:zap z a):∃v,zap (-z) v/\Rt 161 [a] [] v []:=by
 obtain⟨l,c,hc,hl,hv,rfl⟩:=h;obtain⟨v,hv1,hr⟩:=zpr (!decide (z<0)) l c hc.1 (by omega) (zem hc.1 hl)
 have e:sgnZ (!decide (z<0)) (val l)= -z:=by
  rw[hv];unfold sgnZ;simp only[zW,decide_eq_false_iff_not];split<;>omega
 rw[e]at hv1;obtain⟨l',c',_,_,_,rfl⟩:=hv1;refine⟨_,⟨l',c',by assumption,by assumption,by assumption,rfl⟩,?_⟩;refine oF o161 ?_;simp only[c161,r161_0,r161_1,SS,fC,reduceCtorEq,reduceIte,qZ,qQ,qX];refine zaa hr ?_;simp only[SS,reduceIte,qZ,qQ,qX];exact dR
theorem zAbs{z:Int}{a:AV}(h:zap z a):∃v,zap (z.natAbs:Int) v/\Rt 176 [a] [] v []:=by
 obtain⟨l,c,hc,hl,hv,rfl⟩:=h;obtain⟨v,hv1,hr⟩:=zpr false l c hc.1 (by omega) (zem hc.1 hl);have e:sgnZ false (val l)=(z.natAbs:Int):=by rw[hv];rfl
 rw[e]at hv1;obtain⟨l',c',_,_,_,rfl⟩:=hv1;refine⟨_,⟨l',c',by assumption,by assumption,by assumption,rfl⟩,?_⟩;refine oF o176 ?_;simp only[c176,r176_0,r176_1,SS,fC,reduceCtorEq,reduceIte,qZ,qQ,qX];refine zaa hr ?_;simp only[SS,reduceIte,qZ,qQ,qX];exact dR
theorem zxr{z:Int}{a:AV}(h:zap z a):Rt 133 [a] [] (.int .i64 z.sign) []:=by
 obtain⟨l,c,hc,hl,hv,rfl⟩:=h;obtain⟨c',ht⟩:=znw l c (by omega);have h1:=zgl (zbc hc.1);rw[zbp,hv]at h1;refine oF o133 ?_;simp only[c133,r133_0,r133_1,SS,fC,reduceCtorEq,reduceIte,qZ,qQ,qX];refine zaa ht ?_;simp only[SS,reduceIte,qQ];refine⟨λh0=>?_,λh0=>?_⟩
 ·have:z=0:=by
   have:=h1.2 (List.length_eq_zero_iff.1 (by omega));omega
  subst this;simp only[r133_2,SS];exact dR
 ·have:z≠0:=by
   intro e;have:=h1.1 (by omega);rw[this]at h0;simp at h0
  simp only[r133_3,SS,fC,reduceIte,qZ,qQ,qX];refine⟨λh2=>?_,λh2=>?_⟩
  ·rw[qT h2];simp only[r133_4,SS];exact dR
  ·rw[xD (by omega)];simp only[r133_5,SS];exact dR
theorem wu32(x:Nat):IntKind.u32.wrap (x:Int)=((x%4294967296:Nat):Int):=by
 simp[IntKind.wrap,IntKind.bits,IntKind.signed]
theorem wu64(x:Nat):IntKind.u64.wrap (x:Int)=((x%18446744073709551616:Nat):Int):=by
 simp[IntKind.wrap,IntKind.bits,IntKind.signed]
theorem zbg{x:Nat}(h:x<18446744073709551616):IntKind.u64.wrap (x:Int)=(x:Int):=by
 rw[wu64,xH h]
theorem zmz{x:Nat}(h:x<4294967296):IntKind.u32.wrap (x:Int)=(x:Int):=by
 rw[wu32,xH h]
theorem zlm(x:Nat):Int.fdiv (x:Int) (2^min (Int.toNat 32) IntKind.u64.bits)=((x/4294967296:Nat):Int):=by
 show Int.fdiv (x:Int) 4294967296=_
 rw[yE _ (by decide)];omega
theorem qss(s:Bool)(u:Nat)(hu:u<18446744073709551616):∃v,zap (sgnZ s u) v/\Rt 170 [.bool s,.int .u64 u] [] v []:=by
 have hd:Dig [u%4294967296,u/4294967296]:=Dig.cons (xA _ (by decide)) (Dig.cons (by omega) Dig.nil);have e:val [u%4294967296,u/4294967296]=u:=by simp only[Limb.val];omega
 obtain⟨v,hv,hr⟩:=zpr s [u%4294967296,u/4294967296] (some 2) hd (by simp) (by rw[e];exact zdz (by omega));rw[e]at hv;obtain⟨l',c',_,_,_,rfl⟩:=hv;refine⟨_,⟨l',c',by assumption,by assumption,by assumption,rfl⟩,?_⟩;refine oF o170 ?_;simp only[c170,r170_0,r170_1,SS,reduceCtorEq,reduceIte,qZ,qQ,qX,zlm,wu32,zmz (show u/4294967296<4294967296 by omega)];refine⟨by omega,?_⟩;refine zfp (id:=1) (cs:=u32s [u%4294967296,u/4294967296]) (d:=2) (args0:=[.bool s,.sl 0 0 2 1 (some 2)]) hr ?_ ?_ ?_ ?_
 ·rfl
 ·rfl
 ·rfl
 simp only[zaf,zac,xB,xM,SS,reduceIte,qZ,qQ,qX];exact dR
theorem zhb(n:Int)(h1: -9223372036854775808<=n)(h2:n<9223372036854775808):∃v,zap n v/\Rt 84 [.int .i64 n] [] v []:=by
 by_cases hn:n<0
 ·obtain⟨k,hk⟩:∃k:Nat,n= -(k:Int):=⟨n.natAbs,by omega⟩
  subst hk;obtain⟨v,hv,hr⟩:=qss true k (by omega);have e:sgnZ true k= -(k:Int):=rfl;rw[e]at hv;obtain⟨l',c',_,_,_,rfl⟩:=hv;refine⟨_,⟨l',c',by assumption,by assumption,by assumption,rfl⟩,?_⟩
  have w1:IntKind.u64.wrap (-(k:Int))=((18446744073709551616-k:Nat):Int):=by
   simp[IntKind.wrap,IntKind.bits,IntKind.signed];omega
  have w2:IntKind.u64.wrap (0-((18446744073709551616-k:Nat):Int))=(k:Nat):=by
   simp[IntKind.wrap,IntKind.bits,IntKind.signed];omega
  refine oF o84 ?_;simp only[c84,r84_0,r84_1,SS,reduceCtorEq,reduceIte,qQ];refine⟨λ_=>?_,λh=>absurd hn h⟩;simp only[r84_2,SS,reduceCtorEq,reduceIte,qQ,w1,w2];refine zaa hr ?_;simp only[SS,reduceIte,qZ,qQ,qX];exact dR
 ·obtain⟨k,rfl⟩:∃k:Nat,n=(k:Int):=⟨n.toNat,by omega⟩
  obtain⟨v,hv,hr⟩:=qss false k (by omega);have e:sgnZ false k=(k:Int):=rfl;rw[e]at hv;obtain⟨l',c',_,_,_,rfl⟩:=hv;refine⟨_,⟨l',c',by assumption,by assumption,by assumption,rfl⟩,?_⟩;refine oF o84 ?_;simp only[c84,r84_0,r84_1,SS,reduceCtorEq,reduceIte,qQ];refine⟨λh=>absurd h hn,λ_=>?_⟩;simp only[r84_3,SS,reduceCtorEq,reduceIte,qQ,zbg (show k<18446744073709551616 by omega)];refine zaa hr ?_;simp only[SS,reduceIte,qZ,qQ,qX];exact dR
theorem zcmp(m n:List Nat)(c d:Option Nat)(hm:m.length<16777216)(hn:n.length<16777216):Rt 142 [.vec (u32s m) m.length c,.vec (u32s n) n.length d] [] (.int .i64 (cmpL m n)) []:=by
 refine oF o142 ?_;simp only[c142,r142_0,r142_1,SS,reduceCtorEq,reduceIte,qQ,ne_eq,Int.ofNat_inj];refine⟨λh=>?_,λh=>?_⟩
 ·simp only[r142_2,SS,reduceCtorEq,reduceIte,qQ];refine⟨λh2=>?_,λh2=>?_⟩
  ·have e:cmpL m n= -1:=by unfold cmpL;rw[if_neg h,if_pos (by omega)]
   rw[e];simp only[r142_3,SS];exact dR
  ·have e:cmpL m n=1:=by unfold cmpL;rw[if_neg h,if_neg (by omega)]
   rw[e];simp only[r142_4,SS];exact dR
 ·have h:m.length=n.length:=by simpa using h
  have e:cmpL m n=cmpN m n m.length:=by unfold cmpL;rw[if_pos h]
  rw[e];simp only[r142_5,SS,reduceCtorEq,reduceIte,qQ];refine zaj (λk E H=>k<=m.length/\cmpN m n k=cmpN m n m.length/\E 0= .vec (u32s m) m.length c/\E 1= .vec (u32s n) n.length d/\E 5= .int .i64 ((k:Int)-1)/\H=[]) (n:=m.length) ⟨by omega,rfl,?_,?_,?_,rfl⟩ ?_
  ·rfl
  ·rfl
  ·simp only[UU,qQ,reduceIte];rw[w64 (by omega) (by omega)]
  rintro k E H ⟨hk,ht,h0,h1,h5,rfl⟩;refine wM ?_;simp only[l142_0,r142_6,SS,reduceCtorEq,reduceIte,qQ,h5];refine⟨λhge=>?_,λhlt=>?_⟩
  ·obtain⟨k,rfl⟩:∃j,k=j+1:=⟨k-1,by omega⟩
   have e5:((k+1:Nat):Int)-1=(k:Nat):=by omega
   rw[e5]at h5;have g1:=zal m k (by omega) AV.junk;have g2:=zal n k (by omega) AV.junk;simp only[cmpN]at ht;simp only[r142_7,SS,fC,reduceCtorEq,reduceIte,qQ,e5,h0,h1,h5,qK,g1,g2,zae];refine⟨⟨by omega,by omega⟩,by omega,⟨by omega,by omega⟩,by omega,rfl,λhne=>?_,λheq=>?_⟩
   ·have hne:m.getD k 0≠n.getD k 0:=by omega
    rw[if_neg hne]at ht;simp only[r142_8,SS,fC,reduceCtorEq,reduceIte,qQ,h0,h1,h5,qK,g1,g2,zae];refine⟨⟨by omega,by omega⟩,by omega,⟨by omega,by omega⟩,by omega,rfl,λhl=>?_,λhl=>?_⟩
    ·rw[if_pos (by omega)]at ht;rw[<-ht];simp only[r142_9,SS];exact dR
    ·rw[if_neg (by omega)]at ht;rw[<-ht];simp only[r142_10,SS];exact dR
   ·have heq:m.getD k 0=n.getD k 0:=by omega
    rw[if_pos heq]at ht;simp only[r142_11,SS,reduceIte,qQ,h5];refine⟨k,_,_,by omega,⟨by omega,ht,?_,?_,?_,rfl⟩,.refl⟩
    ·simp only[UU,qQ, *]
    ·simp only[UU,qQ, *]
    ·simp only[UU,qQ,reduceIte];rw[w64 (by omega) (by omega)]
  ·have hk0:k=0:=by omega
   subst hk0;rw[<-ht];simp only[r142_12,SS];exact dR
theorem zCmp{x y:Int}{a b:AV}(ha:zap x a)(hb:zap y b):Rt 88 [a,b] [] (.int .i64 (if x<y then -1 else if x=y then 0 else 1)) []:=by
 have s1:=zxr ha;have s2:=zxr hb;obtain⟨l,c,hc,hl,hv,rfl⟩:=ha;obtain⟨r,d,hd,hlr,hw,rfl⟩:=hb;obtain⟨c1,t1⟩:=znw l c (by omega);obtain⟨c2,t2⟩:=znw r d (by omega);have l1:(zbi l).length<=l.length:=by rw[zgc];exact zhq _ _
 have l2:(zbi r).length<=r.length:=by rw[zgc];exact zhq _ _
 have t3:=zcmp (zbi l) (zbi r) c1 c2 (by omega) (by omega);rw[zdw (zbc hc.1) (zbc hd.1),zbp,zbp,hv,hw]at t3;refine oF o88 ?_;simp only[c88,r88_0,r88_1,SS,reduceCtorEq,reduceIte,qZ,qQ,qX];refine zaa s1 ?_;simp only[SS,reduceIte,qZ,qQ,qX];refine zaa s2 ?_;simp only[SS,reduceIte,qQ];refine⟨rfl,?_⟩;simp only[r88_2,SS,reduceIte,qQ];refine⟨λhne=>?_,λheq=>?_⟩
 ·simp only[r88_3,SS,reduceIte,qQ];refine⟨λhl=>?_,λhl=>?_⟩
  ·rw[if_pos (by
    rcases qE x 0 with h | h | h<;>rcases qE y 0 with h' | h' | h'<;>
     simp[qT,xD,h,h']at hl<;>omega)]
   simp only[r88_4,SS];exact dR
  ·rw[if_neg (by
    rcases qE x 0 with h | h | h<;>rcases qE y 0 with h' | h' | h'<;>
     simp[qT,xD,h,h']at hl hne<;>omega),if_neg (by intro e;rw[e]at hne;exact hne rfl)]
   simp only[r88_5,SS];exact dR
 ·have heq:x.sign=y.sign:=by simpa using heq
  simp only[r88_6,SS,fC,reduceIte,qZ,qQ,qX];refine zaa t1 ?_;simp only[SS,fC,reduceIte,qZ,qQ,qX];refine zaa t2 ?_;simp only[SS,reduceIte,qQ];refine zaa t3 ?_
  have e:IntKind.i64.wrap (x.sign*sgn x.natAbs y.natAbs)=(if x<y then -1 else if x=y then 0 else 1):=by
   have e1:x.sign*sgn x.natAbs y.natAbs=(if x<y then -1 else if x=y then 0 else 1):=by
    unfold sgn
    rcases qE x 0 with h | h | h<;>rcases qE y 0 with h' | h' | h'<;>
     simp[qT,xD,h,h']at heq ⊢ <;> (repeat' split)<;>omega
   rw[e1];split
   ·rfl
   ·split<;>rfl
  simp only[SS,reduceIte,qQ,e];refine⟨rfl,?_⟩;exact dR
end Go.Proofs.YtgfbaioffpcelaaGreatDoor
namespace Go.Proofs.YtgfbaioffpcelaaGreatDoor
open Go Go.AL Go.Proofs
noncomputable section
open Tryz
def q15:=V (RS f15=·)
def r15_0:=X q15 0
def r15_1:=X q15 1
def r15_2:=X q15 2
def r15_3:=X q15 3
def r15_4:=X q15 4
def l15_0:CC:= .seq (sR r15_2<|xR 13 0)<|.block 1<|sR r15_3<|rN r15_4
def r15_5:=X q15 5
def c15:CC:=sR r15_0<|sR r15_1<|.seq (.block 0<|.loop l15_0)<|sR r15_5 .ret
theorem o15:FnI 15 20 f15 c15 [.tmp 4]:=oM func15
def q16:=V (RS f16=·)
def r16_0:=X q16 0
def r16_1:=X q16 1
def r16_2:=X q16 2
def r16_3:=X q16 3
def r16_4:=X q16 4
def r16_5:=X q16 5
def r16_6:=X q16 6
def r16_7:=X q16 7
def r16_8:=X q16 8
def r16_9:=X q16 9
def r16_10:=X q16 10
def r16_11:=X q16 11
def r16_12:=X q16 12
def c16:CC:=sR r16_0<|.seq (sR r16_1<|sR r16_2<|iS 21<|sR r16_3 .ret)<|qR r16_4 29 r16_5<|sR r16_6<|sR r16_7<|qR r16_8 50 r16_9<|sR r16_10<|sR r16_11<|.seq (.reg r16_12 (some [(5,7),(6,7)])) .ret
theorem o16:FnI 16 73 f16 c16 [.cell 6 34,.tmp 7]:=oM func16
def q17:=V (RS f17=·)
def r17_0:=X q17 0
def r17_1:=X q17 1
def r17_2:=X q17 2
def r17_3:=X q17 3
def r17_4:=X q17 4
def r17_5:=X q17 5
def r17_6:=X q17 6
def r17_7:=X q17 7
def r17_8:=X q17 8
def c17:CC:=sR r17_0<|sR r17_1<|.seq (.reg r17_2 (some [(0,2),(1,2),(0,4),(1,4),(2,4),(3,4),(0,5),(1,5),(2,5),(3,5),(4,5)]))<|.seq (.seq (.reg r17_3 (some [(1,4),(2,4)]))<|.block 0<|sR r17_4<|.cond (.t 20) (sR r17_5 .ret)<|sR r17_6<|iS 24<|sR r17_7 .ret)<|.seq (.reg r17_8 (some [(1,3),(1,6),(3,6),(4,6),(1,8),(3,8),(4,8),(6,8)])) .ret
theorem o17:FnI 17 39 f17 c17 [.tmp 4]:=oM func17
def r33_0:RL:=[oP 2 (.box (.k (.agg [(.bool false),(.vec [] 0 (some 0)),(.bool false),(.vec [] 0 (some 0))])))]
def r33_1:RL:=[mV 3 0,cL 4 62 [.t 3],cL 5 100 [.t 4],sT (.store 4 (.t 2) (.t 5))]
def c33:CC:=sR r33_0<|sR r33_1 .ret
theorem o33:FnI 33 6 f33 c33 [.cell 2 34]:=oM func33
def q38:=V (RS f38=·)
def r38_0:=X q38 0
def r38_1:=X q38 1
def r38_2:=X q38 2
def c38:CC:=sR r38_0<|sR r38_1<|sR r38_2 .ret
theorem o38:FnI 38 14 f38 c38 [.cell 4 34]:=oM func38
def q61:=V (RS f61=·)
def r61_0:=X q61 0
def r61_1:=X q61 1
def r61_2:=X q61 2
def r61_3:=X q61 3
def r61_4:=X q61 4
def r61_5:=X q61 5
def r61_6:=X q61 6
def r61_7:=X q61 7
def r61_8:=X q61 8
def r61_9:=X q61 9
def r61_10:=X q61 10
def r61_11:=X q61 11
def l61_0:CC:= .seq (.seq (.reg r61_9 (some []))<|xR 38 0)<|.block 1<|sR r61_10<|rN r61_11
def r61_12:=X q61 12
def r61_13:=X q61 13
def r61_14:=X q61 14
def r61_15:=X q61 15
def l61_1:CC:= .seq (sR r61_13<|xR 55 2)<|.seq (.block 3<|.reg r61_14 (some []))<|rN r61_15
def r61_16:=X q61 16
def c61:CC:=sR r61_0<|qR r61_1 15 r61_2<|qR r61_3 19 r61_4<|sR r61_5<|sR r61_6<|sR r61_7<|sR r61_8<|.seq (.block 0<|.loop l61_0)<|.seq (sR r61_12<|.block 2<|.loop l61_1)<|.seq (.reg r61_16 (some [(0,1)])) .ret
theorem o61:FnI 61 68 f61 c61 [.tmp 4,.cell 5 32,.tmp 6]:=oM func61
def q64:=V (RS f64=·)
def r64_0:=X q64 0
def r64_1:=X q64 1
def r64_2:=X q64 2
def r64_3:=X q64 3
def r64_4:=X q64 4
def r64_5:=X q64 5
def r64_6:=X q64 6
def r64_7:=X q64 7
def r64_8:=X q64 8
def r64_9:=X q64 9
def c64:CC:=sR r64_0<|sR r64_1<|qR r64_2 25 r64_3<|.seq (.reg r64_4 (some [(1,3),(1,4),(3,4),(1,5),(3,5),(4,5),(3,6)]))<|.seq (sR r64_5<|iS 32<|.reg r64_6 (some [(2,3)]))<|sR r64_7<|sR r64_8<|sR r64_9 .ret
theorem o64:FnI 64 52 f64 c64 [.cell 4 34,.tmp 5]:=oM func64
def r65_0:RL:=[oP 1 (.box (.t 0)),oP 2 (.mov (kI 0))]
def r65_1:RL:=[oP 3 (.fld 0 (.t 1)),ldO 4 true 2 3,cL 5 69 [.t 4],mV 2 5]
def c65:CC:=sR r65_0<|sR r65_1 .ret
theorem o65:FnI 65 6 f65 c65 [.tmp 2]:=oM func65
def r66_0:RL:=[oP 1 (.box (.t 0)),oP 2 (.box (.k (.agg [(.bool false),(.vec [] 0 (some 0)),(.bool false),(.vec [] 0 (some 0))])))]
def r66_1:RL:=[ldO 3 true 4 1,cL 4 154 [.t 3],sT (.store 4 (.t 2) (.t 4))]
def c66:CC:=sR r66_0<|sR r66_1 .ret
theorem o66:FnI 66 5 f66 c66 [.cell 2 91]:=oM func66
def q100:=V (RS f100=·)
def r100_0:=X q100 0
def r100_1:=X q100 1
def c100:CC:=sR r100_0<|sR r100_1 .ret
theorem o100:FnI 100 7 f100 c100 [.cell 2 34]:=oM func100
def q106:=V (RS f106=·)
def r106_0:=X q106 0
def r106_1:=X q106 1
def r106_2:=X q106 2
def r106_3:=X q106 3
def r106_4:=X q106 4
def r106_5:=X q106 5
def r106_6:=X q106 6
def r106_7:=X q106 7
def l106_0:CC:=sR r106_3<|.seq (xR 13 0)<|.seq (.block 1<|sR r106_4<|sR r106_5<|.reg r106_6 (some [(0,2),(0,4),(2,4),(3,4),(0,6),(2,6),(3,6),(4,6)]))<|rN r106_7
def r106_8:=X q106 8
def c106:CC:=sR r106_0<|sR r106_1<|.seq (sR r106_2<|.block 0<|.loop l106_0)<|sR r106_8 .ret
theorem o106:FnI 106 30 f106 c106 [.cell 2 34]:=oM func106
def q107:=V (RS f107=·)
def r107_0:=X q107 0
def r107_1:=X q107 1
def r107_2:=X q107 2
def r107_3:=X q107 3
def r107_4:=X q107 4
def c107:CC:=sR r107_0<|sR r107_1<|qR r107_2 11 r107_3<|sR r107_4 .ret
theorem o107:FnI 107 21 f107 c107 [.cell 4 34,.tmp 5]:=oM func107
def q152:=V (RS f152=·)
def r152_0:=X q152 0
def r152_1:=X q152 1
def r152_2:=X q152 2
def r152_3:=X q152 3
def r152_4:=X q152 4
def r152_5:=X q152 5
def r152_6:=X q152 6
def r152_7:=X q152 7
def r152_8:=X q152 8
def r152_9:=X q152 9
def l152_0:CC:= .seq (sR r152_5<|xR 17 0)<|.seq (.block 1<|sR r152_6<|sR r152_7<|iS 26<|rN r152_8)<|rN r152_9
def r152_10:=X q152 10
def c152:CC:=sR r152_0<|qR r152_1 13 r152_2<|sR r152_3<|.seq (sR r152_4<|.block 0<|.loop l152_0)<|sR r152_10 .ret
theorem o152:FnI 152 31 f152 c152 [.cell 4 32,.tmp 5]:=oM func152
def q153:=V (RS f153=·)
def r153_0:=X q153 0
def r153_1:=X q153 1
def r153_2:=X q153 2
def r153_3:=X q153 3
def r153_4:=X q153 4
def r153_5:=X q153 5
def r153_6:=X q153 6
def c153:CC:=sR r153_0<|sR r153_1<|.seq (sR r153_2<|iS 11<|rN r153_3)<|sR r153_4<|sR r153_5<|sR r153_6 .ret
theorem o153:FnI 153 31 f153 c153 [.cell 4 34]:=oM func153
def q154:=V (RS f154=·)
def r154_0:=X q154 0
def r154_1:=X q154 1
def r154_2:=X q154 2
def r154_3:=X q154 3
def c154:CC:=sR r154_0<|qR r154_1 6 r154_2<|sR r154_3 .ret
theorem o154:FnI 154 14 f154 c154 [.cell 2 34]:=oM func154
def q208:=V (RS f208=·)
def r208_0:=X q208 0
def r208_1:=X q208 1
def c208:CC:=sR r208_0<|.seq (.reg r208_1 (some [(1,4),(2,4)])) .ret
theorem o208:FnI 208 13 f208 c208 [.cell 4 32]:=oM func208
def q226:=V (RS f226=·)
def r226_0:=X q226 0
def r226_1:=X q226 1
def r226_2:=X q226 2
def r226_3:=X q226 3
def r226_4:=X q226 4
def r226_5:=X q226 5
def l226_0:CC:= .seq (sR r226_1<|xR 16 0)<|.block 1<|qR r226_2 19 r226_3<|sR r226_4<|rN r226_5
def r226_6:=X q226 6
def r226_7:=X q226 7
def r226_8:=X q226 8
def l226_1:CC:= .seq (sR r226_7<|xR 35 2)<|.block 3<|.reg r226_8 (some [])
def r226_9:=X q226 9
def c226:CC:=sR r226_0<|.seq (.block 0<|.loop l226_0)<|sR r226_6<|.seq (.block 2<|.loop l226_1)<|sR r226_9 .ret
theorem o226:FnI 226 42 f226 c226 [.tmp 4]:=oM func226
end
end Go.Proofs.YtgfbaioffpcelaaGreatDoor
namespace Go.Proofs.YtgfbaioffpcelaaGreatDoor
open Go Go.AL Go.Proofs
def expo(p:Nat):Nat->Nat->Nat
 |0,_=>0
 |f+1,n=>if n%p=0 then expo p f (n/p)+1 else 0
theorem zxs{p:Nat}(hp:2<=p):∀f n,1<=n->n<=f->p^expo p f n∣n/\¬p^(expo p f n+1)∣n:=by
 intro f
 induction f with
 |zero=>intro n h1 h2;omega
 |succ f ih=>
  intro n h1 h2;unfold expo;by_cases h:n%p=0
  ·rw[if_pos h];have hd:p*(n/p)=n:=by have:=yL n p;omega
   have hlt:n/p<n:=zG (by omega) (by omega)
   have h0:1<=n/p:=by
    rcases yD (n/p)with e | e
    ·rw[e,xW]at hd;omega
    ·exact e
   obtain⟨a,b⟩:=ih (n/p) h0 (by omega);generalize expo p f (n/p)=e at*;constructor
   ·rw[<-hd,xJ,yK];exact Nat.mul_dvd_mul_left p a
   ·intro hh;rw[<-hd,xJ,yK]at hh;exact b (Nat.dvd_of_mul_dvd_mul_left (by omega) hh)
  ·rw[if_neg h];refine⟨by rw[Nat.pow_zero];exact Nat.one_dvd _,λhh=>h ?_⟩;rw[xC,Nat.pow_one]at hh;exact Nat.mod_eq_zero_of_dvd hh
theorem qla{p n e e':Nat}(h1:p^e∣n)(h2:¬p^(e+1)∣n)(h3:p^e'∣n)(h4:¬p^(e'+1)∣n):e=e':=by
 rcases zV e e' with h | h | h
 ·exact absurd (Nat.dvd_trans (zI p h) h3) h2
 ·exact h
 ·exact absurd (Nat.dvd_trans (zI p h) h1) h4
theorem qlb{p n:Nat}(hp:2<=p)(hn:1<=n):p^expo p n n<=n:=Nat.le_of_dvd hn (zxs hp n n hn (qY n)).1
theorem zpt{p n:Nat}(hp:2<=p)(hp2:p<9223372036854775808)(hn:1<=n)(hn2:n<9223372036854775808):Rt 15 [.int .i64 (n:Int),.int .i64 (p:Int)] [] (.int .i64 ((expo p n n:Nat):Int)) []:=by
 refine oF o15 ?_;simp only[c15,r15_0,r15_1,SS,reduceCtorEq]
 refine zaj (λf E H=>∃x e:Nat,1<=x/\x<=f/\x+e<=n/\e+expo p f x=expo p n n/\H=[]/\E 0= .int .i64 (x:Int)/\E 1= .int .i64 (p:Int)/\E 5= .int .i64 (e:Int)) (n:=n)
  ⟨n,0,hn,qY n,by omega,by omega,rfl,by rfl,by rfl,by rfl⟩ ?_
 rintro f E H ⟨x,e,hx,hxf,hxe,he,rfl,e0,e1,e5⟩;refine wM ?_;obtain⟨f,rfl⟩:∃f',f=f'+1:=⟨f-1,by omega⟩
 have er:Int.tmod (x:Int) (p:Int)=((x%p:Nat):Int):=rfl;have d1:decide ((x:Int)≠0)=true:=dT;have hp0:(p:Int)≠0:=by omega
 have eX:expo p (f+1) x=if x%p=0 then expo p f (x/p)+1 else 0:=rfl
 rw[eX]at he;by_cases h:x%p=0
 ·rw[if_pos h]at he;have d2:decide (((x%p:Nat):Int)=0)=true:=dT;have hd:p*(x/p)=x:=by have:=yL x p;omega
  have hlt:x/p<x:=zG (by omega) (by omega)
  have h0:1<=x/p:=by
   rcases yD (x/p)with e | e
   ·rw[e,xW]at hd;omega
   ·exact e
  have w1:IntKind.i64.wrap (Int.tdiv (x:Int) (p:Int))=((x/p:Nat):Int):=by
   rw[show Int.tdiv (x:Int) (p:Int)=((x/p:Nat):Int)from rfl];generalize x/p=y at*;exact w64 (by omega) (by omega)
  have w2:=wS1 e (by omega);simp only[l15_0,r15_2,SS,fC,reduceCtorEq,reduceIte,qQ,e0,e1,er,d1,d2];refine⟨hp0,?_⟩;simp only[r15_3,r15_4,SS,reduceCtorEq,reduceIte,qQ,e0,e1,e5,w1,w2];refine⟨hp0,f,_,_,by omega,⟨x/p,e+1,h0,by omega,by omega,by omega,rfl,?_,?_,?_⟩,.refl⟩
  ·rfl
  ·exact e1
  ·rfl
 ·rw[if_neg h]at he;have d2:decide (((x%p:Nat):Int)=0)=false:=dF;simp only[l15_0,r15_2,SS,fC,reduceCtorEq,reduceIte,qQ,e0,e1,er,d1,d2];refine⟨hp0,?_⟩;simp only[r15_5,SS,reduceIte,qQ,e5];rw[<-he];exact kR
noncomputable section
open Tryz
def q156:=V (RS f156=·)
def r156_0:=X q156 0
def r156_1:=X q156 1
def r156_2:=X q156 2
def l156_0:CC:= .seq (sR r156_1<|xR 14 0)<|.block 1<|rN r156_2
def r156_3:=X q156 3
def c156:CC:=sR r156_0<|.seq (.block 0<|.loop l156_0)<|sR r156_3 .ret
theorem o156:FnI 156 21 f156 c156 [.tmp 2]:=oM func156
def q183:=V (RS f183=·)
def r183_0:=X q183 0
def r183_1:=X q183 1
def r183_2:=X q183 2
def r183_3:=X q183 3
def r183_4:=X q183 4
def r183_5:=X q183 5
def r183_6:=X q183 6
def l183_0:CC:=sR r183_3<|.seq (xR 9 0)<|.seq (.block 1<|sR r183_4<|rN r183_5)<|rN r183_6
def r183_7:=X q183 7
def c183:CC:=sR r183_0<|sR r183_1<|.seq (sR r183_2<|.block 0<|.loop l183_0)<|sR r183_7 .ret
theorem o183:FnI 183 22 f183 c183 [.tmp 2]:=oM func183
def q148:=V (RS f148=·)
def r148_0:=X q148 0
def r148_1:=X q148 1
def r148_2:=X q148 2
def r148_3:=X q148 3
def c148:CC:=sR r148_0<|qR r148_1 7 r148_2<|sR r148_3 .ret
theorem o148:FnI 148 12 f148 c148 [.cell 4 32]:=oM func148
def q149:=V (RS f149=·)
def r149_0:=X q149 0
def r149_1:=X q149 1
def c149:CC:=sR r149_0<|sR r149_1 .ret
theorem o149:FnI 149 10 f149 c149 [.tmp 2]:=oM func149
def q157:=V (RS f157=·)
def r157_0:=X q157 0
def r157_1:=X q157 1
def r157_2:=X q157 2
def r157_3:=X q157 3
def r157_4:=X q157 4
def r157_5:=X q157 5
def r157_6:=X q157 6
def r157_7:=X q157 7
def r157_8:=X q157 8
def r157_9:=X q157 9
def r157_10:=X q157 10
def r157_11:=X q157 11
def r157_12:=X q157 12
def r157_13:=X q157 13
def r157_14:=X q157 14
def r157_15:=X q157 15
def r157_16:=X q157 16
def l157_1:CC:=sR r157_11<|.seq (xR 52 2)<|.seq (.block 3<|sR r157_12<|sR r157_13<|sR r157_14<|rN r157_15)<|rN r157_16
def r157_17:=X q157 17
def r157_18:=X q157 18
def l157_0:CC:=sR r157_5<|.seq (xR 35 0)<|.seq (.block 1<|sR r157_6<|.seq (sR r157_7<|iS 40<|.exit 1)<|sR r157_8<|sR r157_9<|.seq (sR r157_10<|.block 2<|.loop l157_1)<|rN r157_17)<|rN r157_18
def r157_19:=X q157 19
def c157:CC:=sR r157_0<|qR r157_1 19 r157_2<|sR r157_3<|.seq (sR r157_4<|.block 0<|.loop l157_0)<|sR r157_19 .ret
theorem o157:FnI 157 86 f157 c157 [.tmp 4]:=oM func157
def q68:=V (RS f68=·)
def r68_0:=X q68 0
def r68_1:=X q68 1
def c68:CC:=sR r68_0<|.seq (.reg r68_1 (some [(1,3),(1,6),(3,6),(1,7),(3,7),(1,9),(3,9),(6,9),(7,9),(1,10),(3,10),(1,11),(3,11)])) .ret
theorem o68:FnI 68 18 f68 c68 [.cell 4 32]:=oM func68
def q62:=V (RS f62=·)
def r62_0:=X q62 0
def r62_1:=X q62 1
def r62_2:=X q62 2
def r62_3:=X q62 3
def c62:CC:=sR r62_0<|qR r62_1 4 r62_2<|sR r62_3 .ret
theorem o62:FnI 62 14 f62 c62 [.cell 2 32]:=oM func62
def q69:=V (RS f69=·)
def r69_0:=X q69 0
def r69_1:=X q69 1
def r69_2:=X q69 2
def r69_3:=X q69 3
def r69_4:=X q69 4
def r69_5:=X q69 5
def c69:CC:=sR r69_0<|.seq (.block 0<|sR r69_1<|.cond (.t 3) (sR r69_2 .ret)<|sR r69_3<|iS 9<|sR r69_4 .ret)<|sR r69_5 .ret
theorem o69:FnI 69 12 f69 c69 [.tmp 2]:=oM func69
def q155:=V (RS f155=·)
def r155_0:=X q155 0
def r155_1:=X q155 1
def r155_2:=X q155 2
def r155_3:=X q155 3
def r155_4:=X q155 4
def r155_5:=X q155 5
def r155_6:=X q155 6
def r155_7:=X q155 7
def r155_8:=X q155 8
def r155_9:=X q155 9
def r155_10:=X q155 10
def r155_11:=X q155 11
def l155_0:CC:= .seq (sR r155_6<|xR 22 1)<|.seq (.block 2<|.block 3<|.seq (.reg r155_7 (some [(3,7)]))<|.cond (.t 25) (sR r155_8 .ret)<|.seq (.reg r155_9 (some [(3,7)]))<|iS 35<|sR r155_10 .ret)<|rN r155_11
def r155_12:=X q155 12
def c155:CC:=sR r155_0<|.seq (.block 0<|sR r155_1<|.cond (.t 6) (sR r155_2 .ret)<|sR r155_3<|iS 12<|sR r155_4 .ret)<|.seq (sR r155_5<|.block 1<|.loop l155_0)<|sR r155_12 .ret
theorem o155:FnI 155 45 f155 c155 [.tmp 4]:=oM func155
def q67:=V (RS f67=·)
def r67_0:=X q67 0
def r67_1:=X q67 1
def r67_2:=X q67 2
def r67_3:=X q67 3
def r67_4:=X q67 4
def r67_5:=X q67 5
def r67_6:=X q67 6
def c67:CC:=sR r67_0<|.seq (.reg r67_1 (some [(0,2),(1,2)]))<|.seq (.block 0<|sR r67_2<|.cond (.t 11) (sR r67_3 .ret)<|sR r67_4<|iS 15<|sR r67_5 .ret)<|.seq (.reg r67_6 (some [(2,5),(3,5)])) .ret
theorem o67:FnI 67 28 f67 c67 [.tmp 4]:=oM func67
def q205:=V (RS f205=·)
def r205_0:=X q205 0
def r205_1:=X q205 1
def r205_2:=X q205 2
def r205_3:=X q205 3
def r205_4:=X q205 4
def r205_5:=X q205 5
def r205_6:=X q205 6
def r205_7:=X q205 7
def r205_8:=X q205 8
def r205_9:=X q205 9
def r205_10:=X q205 10
def r205_11:=X q205 11
def l205_0:CC:=sR r205_6<|.seq (xR 23 0)<|.seq (.block 1<|sR r205_7<|.seq (.reg r205_8 (some [(4,9)]))<|sR r205_9<|rN r205_10)<|rN r205_11
def r205_12:=X q205 12
def r205_13:=X q205 13
def r205_14:=X q205 14
def r205_15:=X q205 15
def r205_16:=X q205 16
def r205_17:=X q205 17
def r205_18:=X q205 18
def l205_1:CC:=sR r205_13<|.seq (xR 52 2)<|.seq (.block 3<|sR r205_14<|sR r205_15<|sR r205_16<|rN r205_17)<|rN r205_18
def r205_19:=X q205 19
def r205_20:=X q205 20
def c205:CC:=sR r205_0<|.seq (sR r205_1<|iS 13<|rN r205_2)<|sR r205_3<|sR r205_4<|.seq (sR r205_5<|.block 0<|.loop l205_0)<|.seq (sR r205_12<|.block 2<|.loop l205_1)<|sR r205_19<|sR r205_20 .ret
theorem o205:FnI 205 83 f205 c205 [.tmp 4]:=oM func205
def q206:=V (RS f206=·)
def r206_0:=X q206 0
def r206_1:=X q206 1
def r206_2:=X q206 2
def r206_3:=X q206 3
def r206_4:=X q206 4
def r206_5:=X q206 5
def r206_6:=X q206 6
def r206_7:=X q206 7
def r206_8:=X q206 8
def r206_9:=X q206 9
def r206_10:=X q206 10
def r206_11:=X q206 11
def l206_0:CC:=sR r206_4<|.seq (xR 15 0)<|.seq (.block 1<|sR r206_5<|sR r206_6<|.seq (sR r206_7<|iS 27<|rN r206_8)<|sR r206_9<|rN r206_10)<|rN r206_11
def r206_12:=X q206 12
def c206:CC:=sR r206_0<|sR r206_1<|sR r206_2<|.seq (sR r206_3<|.block 0<|.loop l206_0)<|sR r206_12 .ret
theorem o206:FnI 206 45 f206 c206 [.tmp 4]:=oM func206
def q216:=V (RS f216=·)
def r216_0:=X q216 0
def r216_1:=X q216 1
def r216_2:=X q216 2
def r216_3:=X q216 3
def r216_4:=X q216 4
def r216_5:=X q216 5
def c216:CC:=sR r216_0<|.seq (.block 0<|sR r216_1<|.cond (.t 9) (sR r216_2 .ret)<|sR r216_3<|iS 18<|sR r216_4 .ret)<|sR r216_5 .ret
theorem o216:FnI 216 33 f216 c216 [.cell 8 32]:=oM func216
def q215:=V (RS f215=·)
def r215_0:=X q215 0
def r215_1:=X q215 1
def c215:CC:=sR r215_0<|.seq (.reg r215_1 (some [(1,3),(1,4),(1,6),(3,6),(4,6),(1,8),(3,8),(4,8),(6,8),(1,9),(6,9)])) .ret
theorem o215:FnI 215 16 f215 c215 [.cell 4 32]:=oM func215
def q189:=V (RS f189=·)
def r189_0:=X q189 0
def r189_1:=X q189 1
def c189:CC:=sR r189_0<|.seq (.reg r189_1 (some [(1,3),(1,4),(1,6),(3,6),(4,6),(1,9),(3,9),(4,9),(6,9),(1,10),(6,10)])) .ret
theorem o189:FnI 189 17 f189 c189 [.cell 4 32]:=oM func189
def q190:=V (RS f190=·)
def r190_0:=X q190 0
def r190_1:=X q190 1
def c190:CC:=sR r190_0<|.seq (.reg r190_1 (some [(1,4),(1,5),(1,6)])) .ret
theorem o190:FnI 190 11 f190 c190 [.cell 2 32]:=oM func190
def q145:=V (RS f145=·)
def r145_0:=X q145 0
def r145_1:=X q145 1
def c145:CC:=sR r145_0<|.seq (.reg r145_1 (some [(1,3),(1,4),(1,5)])) .ret
theorem o145:FnI 145 10 f145 c145 [.cell 2 32]:=oM func145
def q204:=V (RS f204=·)
def r204_0:=X q204 0
def r204_1:=X q204 1
def r204_2:=X q204 2
def r204_3:=X q204 3
def r204_4:=X q204 4
def r204_5:=X q204 5
def r204_6:=X q204 6
def r204_7:=X q204 7
def r204_8:=X q204 8
def r204_9:=X q204 9
def r204_10:=X q204 10
def r204_11:=X q204 11
def r204_12:=X q204 12
def r204_13:=X q204 13
def r204_14:=X q204 14
def r204_15:=X q204 15
def r204_16:=X q204 16
def r204_17:=X q204 17
def l204_0:CC:= .seq (sR r204_15<|xR 81 1)<|.seq (.block 2<|rN r204_16)<|rN r204_17
def r204_18:=X q204 18
def r204_19:=X q204 19
def c204:CC:=sR r204_0<|.seq (.block 0<|sR r204_1<|.cond (.t 13) (sR r204_2 .ret)<|sR r204_3<|.cond (.t 20) (sR r204_4<|.seq (.reg r204_5 (some [])) .ret)<|sR r204_6<|iS 36<|sR r204_7<|sR r204_8<|sR r204_9 .ret)<|sR r204_10<|sR r204_11<|sR r204_12<|sR r204_13<|.seq (sR r204_14<|.block 1<|.loop l204_0)<|sR r204_18<|sR r204_19 .ret
theorem o204:FnI 204 104 f204 c204 [.tmp 4,.tmp 5]:=oM func204
def q147:=V (RS f147=·)
def r147_0:=X q147 0
def r147_1:=X q147 1
def r147_2:=X q147 2
def r147_3:=X q147 3
def r147_4:=X q147 4
def r147_5:=X q147 5
def r147_6:=X q147 6
def r147_7:=X q147 7
def r147_8:=X q147 8
def r147_9:=X q147 9
def r147_10:=X q147 10
def r147_11:=X q147 11
def c147:CC:=sR r147_0<|sR r147_1<|qR r147_2 16 r147_3<|sR r147_4<|sR r147_5<|.seq (.block 0<|.seq (.block 2<|.seq (.block 1<|.seq (.seq (sR r147_6<|iS 29<|.exit 1)<|sR r147_7<|iS 37<|.exit 2)<|.exit 0)<|sR r147_8<|rN r147_9)<|sR r147_10<|.exit 0)<|sR r147_11 .ret
theorem o147:FnI 147 53 f147 c147 [.cell 4 32,.cell 5 32,.tmp 6]:=oM func147
def q98:=V (RS f98=·)
def r98_0:=X q98 0
def r98_1:=X q98 1
def r98_2:=X q98 2
def r98_3:=X q98 3
def r98_4:=X q98 4
def r98_5:=X q98 5
def r98_6:=X q98 6
def r98_7:=X q98 7
def r98_8:=X q98 8
def r98_9:=X q98 9
def c98:CC:=sR r98_0<|sR r98_1<|qR r98_2 11 r98_3<|sR r98_4<|.seq (.block 0<|sR r98_5<|.cond (.t 14) (sR r98_6 .ret)<|sR r98_7<|iS 24<|sR r98_8 .ret)<|sR r98_9 .ret
theorem o98:FnI 98 34 f98 c98 [.tmp 2,.tmp 3]:=oM func98
end
end Go.Proofs.YtgfbaioffpcelaaGreatDoor
namespace Go.Proofs.YtgfbaioffpcelaaGreatDoor
open Go Go.AL Go.Proofs
def r203_0:RL:=[oP 2 (.mov (.k (.vec [] 0 (some 0))))]
def r203_1:RL:=[mV 3 0,oP 4 (.snil false (.t 3))]
def r203_2:RL:=[oP 2 (.mov (.k (.vec [] 0 (some 0))))]
def r203_3:RL:=[oP 5 (.bsl 0 1 [] []),mV 6 0,oP 7 (.append 1 4 (.t 5) (.t 6)),mV 2 7]
def c203:CC:=(.seq (rN r203_0) (.seq (.seq (rN r203_1) (.cond (.t 4) (.seq (rN r203_2) .ret) .skip)) (.seq (rN r203_3) .ret)))
theorem o203:FnI 203 8 Tryz.f203 c203 [.tmp 2]:=oM Tryz.func203
theorem qww(cs:List AV)(c:Option Nat):Rt 203 [.vec cs 0 c] [] (.vec [] 0 (some 0)) []:=by
 refine oF o203 ?_;simp only[c203,r203_0,r203_1,r203_2,r203_3,SS,reduceCtorEq,reduceIte,qQ];refine⟨⟨.inl trivial,_,rfl,.keep _ _⟩,?_⟩;simp only[zby,lenA,zea,need,xX,zJ,qY,yZ,and_self,if_true,zar,zac,yV];exact⟨.inl trivial,_,rfl,.freeze 1 _ _ _ rfl (by intro i cs h;omega)⟩
theorem qwx(cs:List AV)(n:Nat)(c:Option Nat)(h0:0<n)(hn:n<=cs.length)(hb:16*n<=2^48):Rt 203 [.vec cs n c] [] (.sl 1 0 n 1 none) [some [],some (cs.take n)]:=by
 refine oF o203 ?_;simp only[c203,r203_0,r203_1,r203_2,r203_3,SS,fC,reduceCtorEq,reduceIte,qQ,show n≠0 by omega,if_false];have e1:n*1<=cs.length:=by omega
 simp only[zby,lenA,zea,need,xX,hn,qY,and_self,if_true,show n≠0 by omega,if_false,getB,qS,yZ,xC,true_and,show 4*n*4<=2^48 by omega,show n<2^62 by omega,zar,zac,xO,yC,yS,yV,yB];exact⟨.inl trivial,_,rfl,.keep _ _⟩
def g203:List AV->Heap->Option (AV×Heap)
 | [.vec cs n _],[]=>match n with
  |0=>some (.vec [] 0 (some 0),[])
  |n+1=>if n+1<=cs.length/\16*(n+1)<=281474976710656 then some (.sl 1 0 (n+1) 1 none,[some [],some (cs.take (n+1))])else none
 |_,_=>none
theorem jah{args:List AV}{H:Heap}{v:AV}{H':Heap}(h:g203 args H=some (v,H')):Rt 203 args H v H':=by
 unfold g203 at h;split at h
 ·split at h
  ·simp only[qG,Prod.mk.injEq]at h;obtain⟨rfl,rfl⟩:=h;exact qww _ _
  ·split at h
   ·rename_i hh;simp only[qG,Prod.mk.injEq]at h;obtain⟨rfl,rfl⟩:=h;exact qwx _ _ _ (by omega) hh.1 hh.2
   ·simp at h
 ·simp at h
open Go.Limb
def qal(B:Heap)(sz n:Nat)(cs:List AV)(a:AV)(H:Heap):Prop:=
 (n=0/\cs=[]/\a= .vec [] 0 (some 0)/\∃j,H=B++List.replicate j none)\/
 (0<n/\cs.length=n*sz/\∃j,a= .sl (B.length+j) 0 n sz none/\H=B++(List.replicate j none++[some cs]))
theorem zuq(j:Nat)(x:Option (List AV))(r:Heap)(hx:x=none):List.replicate j (none:Option (List AV))++x::r=List.replicate (j+1) none++r:=by
 subst hx;rw[List.replicate_succ',zY];rfl
theorem zpu{B:Heap}{sz n bytes:Nat}{cs xs:List AV}{a:AV}{H:Heap}(h:qal B sz n cs a H)(hx:xs.length=sz)(hs:AV.scalL xs=true)(hb:4*(n+1)*bytes<=281474976710656)(hn:n+1<4611686018427387904):
  ∃e rd H4 H5,(∀n0,zby n0 (H.length+1) (H++[some xs]) sz bytes a (.sl H.length 0 1 sz (some 1))=some (.sl (H.length+1) 0 (n+1) sz none,e,rd))/\zac e (H++[some xs]++[none])=H4/\getB H4 (H.length+1)=some (cs++xs)/\
   (∀(Γ:Glob) (n0:Nat) (E:Env),n0<=B.length->Weak Γ n0 E H4 E H5)/\qal B sz (n+1) (cs++xs) (.sl (H.length+1) 0 (n+1) sz none) H5:=by
 have hg:getB (H++[some xs]) H.length=some xs:=by
  simp[getB]
 have b1:4*(n+1)*bytes<=2^48:=hb;have b2:n+1<2^62:=hn;have hxs:(xs.drop 0).take (1*sz)=xs:=by rw[yY,yO,qW (by omega)]
 have hel:zea (H++[some xs]) sz 1 (.sl H.length 0 1 sz (some 1))=some (xs,[H.length]):=by
  simp only[zea,hg,need,qY,xC,yO,hx,and_self,if_true];rw[yY,qW (by omega)]
 rcases h with⟨rfl,rfl,rfl,j,rfl⟩ | ⟨h0,hl,j,rfl,rfl⟩
 ·refine⟨[((B++List.replicate j none).length+1,some xs)],[(B++List.replicate j none).length],_,B++(List.replicate (j+1) none++[some xs]),λn0=>?_,rfl,?_,λΓ n0 E hn0=>?_,?_⟩
  ·simp only[zby,lenA,xX,hel];have b1':4*(0+1)*bytes<=2^48:=hb;simp only[need,yM,if_false,zJ,yZ,b1',b2,and_self,if_true,yV,yB]
  ·simp only[zac];have:B++List.replicate j none++[some xs]++[none]=(B++List.replicate j none)++[some xs,none]:=by simp
   rw[this,qB _ _ (by omega),xU];unfold getB;rw[qA (by omega),xU];rfl
  ·have e1:zac [((B++List.replicate j none).length+1,some xs)] (B++List.replicate j none++[some xs]++[none])=(B++List.replicate j none)++[some xs,some xs]:=by
    simp only[zac];have:B++List.replicate j none++[some xs]++[none]=(B++List.replicate j none)++[some xs,none]:=by simp
    rw[this,qB _ _ (by omega),xU];rfl
   rw[e1]
   have e2:B++(List.replicate (j+1) none++[some xs])=(B++List.replicate j none)++[none,some xs]:=by
    rw[<-zuq j none _ rfl];simp
   rw[e2];refine zxl (by simp) (λi=>?_);rcases xV i (B++List.replicate j (none:Option (List AV))).length with hi | hi
   ·left;rw[qN hi,qN hi]
   ·rw[qA hi,qA hi];have:n0<=i:=by simp at hi;omega
    generalize i-(B++List.replicate j (none:Option (List AV))).length=k
    match k with
    |0=>exact .inr ⟨this,rfl⟩
    |k+1=>exact .inl rfl
  ·refine .inr ⟨by omega,by simp;omega,j+1,?_,rfl⟩;simp[Nat.add_assoc]
 ·have hj:getB (B++(List.replicate j none++[some cs])++[some xs]) (B.length+j)=some cs:=by
   have:B++(List.replicate j none++[some cs])++[some xs]=(B++List.replicate j none)++(some cs::[some xs]):=by simp
   rw[this];simp[getB]
  have hlen:(B++(List.replicate j none++[some cs])).length=B.length+j+1:=by simp;omega
  refine⟨[(B.length+j,none),(B.length+j+1+1,some (cs++xs))],[B.length+j,B.length+j+1],_,B++(List.replicate (j+2) none++[some (cs++xs)]),λn0=>?_,rfl,?_,λΓ n0 E hn0=>?_,?_⟩
  ·simp only[zby,lenA,xX,hel,hj];have e1:¬((none:Option Nat)=some n):=by simp
   have e2:B.length+j≠B.length+j+1+1:=by omega
   rw[hlen];simp only[need,yM,if_false,hl,qY,b1,b2,and_self,if_true,e1,yZ,hs,e2,ne_eq,not_false_eq_true];rw[qW (by omega)]
  ·simp only[zac];have:B++(List.replicate j none++[some cs])++[some xs]++[none]=(B++List.replicate j none)++[some cs,some xs,none]:=by simp
   rw[this,hlen,qB _ _ (by simp),qB _ _ (by simp;omega)];have k1:B.length+j-(B++List.replicate j (none:Option (List AV))).length=0:=by simp
   have k2:B.length+j+1+1-(B++List.replicate j (none:Option (List AV))).length=2:=by simp;omega
   rw[k1,k2];unfold getB;rw[qA (by simp;omega),k2];rfl
  ·have e1:zac [(B.length+j,none),(B.length+j+1+1,some (cs++xs))] (B++(List.replicate j none++[some cs])++[some xs]++[none])=(B++List.replicate j none)++[none,some xs,some (cs++xs)]:=by
    simp only[zac];have:B++(List.replicate j none++[some cs])++[some xs]++[none]=(B++List.replicate j none)++[some cs,some xs,none]:=by simp
    rw[this,qB _ _ (by simp),qB _ _ (by simp;omega)];have k1:B.length+j-(B++List.replicate j (none:Option (List AV))).length=0:=by simp
    have k2:B.length+j+1+1-(B++List.replicate j (none:Option (List AV))).length=2:=by simp;omega
    rw[k1,k2];rfl
   rw[e1]
   have e2:B++(List.replicate (j+2) none++[some (cs++xs)])=(B++List.replicate j none)++[none,none,some (cs++xs)]:=by
    rw[<-zuq (j+1) none _ rfl,<-zuq j none _ rfl];simp
   rw[e2];refine zxl (by simp) (λi=>?_);rcases xV i (B++List.replicate j (none:Option (List AV))).length with hi | hi
   ·left;rw[qN hi,qN hi]
   ·rw[qA hi,qA hi];have:n0<=i:=by simp at hi;omega
    generalize i-(B++List.replicate j (none:Option (List AV))).length=k
    match k with
    |0=>exact .inl rfl
    |1=>exact .inr ⟨this,rfl⟩
    |k+2=>exact .inl rfl
  ·refine .inr ⟨by omega,by rw[yT,hl,hx,Nat.add_mul,yO],j+2,?_,rfl⟩;rw[hlen];rfl
theorem zgv{l:List Nat}{i:Nat}(h:l.length<=i):l.getD i 0=0:=by
 rw[qJ,yN h];rfl
theorem zcy{α:Type}(H:List α)(x:α):(H++[x]).length=H.length+1:=by simp
theorem qst{x y:Nat}(hx:x<4294967296)(hy:y<=4294967296):IntKind.u32.wrap (IntKind.u64.wrap ((x:Int)-(y:Int)))=(((x+8589934592-y)%4294967296:Nat):Int):=by
 simp[IntKind.wrap,IntKind.bits,IntKind.signed];omega
theorem zsum(m n:List Nat)(c d:Option Nat)(hm:m.length<1048576)(hn:n.length<1048576)(dm:Dig m)(dn:Dig n):
  ∃c',Rt 198 [.vec (u32s m) m.length c,.vec (u32s n) n.length d] [] (.vec (u32s (sumL m n (max m.length n.length) 0 0 [])) (sumL m n (max m.length n.length) 0 0 []).length c') []:=by
 refine⟨none,?_⟩;refine oF o198 ?_;generalize hfin:sumL m n (max m.length n.length) 0 0 []=fin;simp only[c198,r198_0,r198_1,r198_2,r198_3,SS,reduceCtorEq]
 refine zaj (λk E H=>∃i cy out a,k+i=max m.length n.length/\out.length=i/\cy<=1/\sumL m n k i cy out=fin/\E 0= .vec (u32s m) m.length c/\E 1= .vec (u32s n) n.length d/\
  E 5=a/\E 6= .int .u64 (cy:Nat)/\E 7= .int .i64 (i:Nat)/\qal [] 1 i (u32s out) a H) (n:=max m.length n.length) ⟨0,0,[],_,by omega,rfl,by omega,hfin,?_,?_,rfl,?_,?_,.inl ⟨rfl,rfl,?_,0,rfl⟩⟩ ?_
 ·rfl
 ·rfl
 ·rfl
 ·rfl
 ·rfl
 rintro k E H ⟨i,cy,out,a,hki,hol,hcy,hf,h0,h1,h5,h6,h7,hO⟩;have hx:∃t,decide ((i:Int)<(m.length:Nat))=t:=⟨_,rfl⟩
 have bm:=dm.getD i;have bn:=dn.getD i;cases k with
 |zero=>
  refine wM ?_;have d1:decide ((i:Int)<(m.length:Nat))=false:=dF;have d2:decide ((i:Int)<(n.length:Nat))=false:=dF;simp only[l198_0,r198_4,SS,fC,reduceCtorEq,reduceIte,qQ,h0,h1,h7,d1,d2];simp only[sumL]at hf;obtain⟨e,rd,H4,H5,hap,hH4,hg,hw,hO'⟩:=zpu (bytes:=4) (xs:=[.int .u32 ((cy%4294967296:Nat):Int)]) hO rfl rfl (by omega) (by omega);simp only[r198_12,SS,reduceIte,qQ,qX,h5,h6,wu32,zcy,hap];refine⟨.inl trivial,_,rfl,?_⟩;have e1:u32s out++[.int .u32 ((cy%4294967296:Nat):Int)]=u32s fin:=by rw[<-hf];simp[u32s]
  rw[e1]at hg;have hfl:fin.length=i+1:=by rw[<-hf];simp[hol]
  rw[hfl];refine zmy ?_ hfl.symm;rw[hH4];exact hg
 |succ k=>
  have step9:∀E':Env,E' 0= .vec (u32s m) m.length c->E' 1= .vec (u32s n) n.length d->E' 5=a->E' 6= .int .u64 ((cy+m.getD i 0+n.getD i 0:Nat):Int)->E' 7= .int .i64 (i:Nat)->
    Wg 0 54 (.seq (.reg r198_9 none) (.reg r198_10 none)) E' H (λx E'' H''=>x= .normal/\E'' 0= .vec (u32s m) m.length c/\E'' 1= .vec (u32s n) n.length d/\E'' 7= .int .i64 (i:Nat)/\E'' 6= .int .u64 (((cy+m.getD i 0+n.getD i 0)/4294967296:Nat):Int)/\
     ∃H5,(∀E3,Weak G 0 E3 H'' E3 H5)/\qal [] 1 (i+1) (u32s (out++[(cy+m.getD i 0+n.getD i 0)%4294967296])) (E'' 5) H5):=by
   intro E' g0 g1 g5 g6 g7;obtain⟨e,rd,H4,H5,hap,hH4,hg,hw,hO'⟩:=zpu (bytes:=4) (xs:=[.int .u32 (((cy+m.getD i 0+n.getD i 0)%4294967296:Nat):Int)]) hO rfl rfl (by omega) (by omega);refine wM ?_;simp only[r198_9,SS,reduceIte,qQ,qX,g5,g6,wu32,zcy,hap];simp only[r198_10,SS,reduceCtorEq,reduceIte,qQ,zlm,g0,g1,g7,g6];refine⟨by omega,?_⟩;rw[hH4];refine⟨H5,λE3=>hw _ _ _ (by simp),?_⟩;have e1:u32s out++[.int .u32 (((cy+m.getD i 0+n.getD i 0)%4294967296:Nat):Int)]=u32s (out++[(cy+m.getD i 0+n.getD i 0)%4294967296]):=by simp[u32s]
   rw[e1]at hO';exact hO'
  have st1:∀E':Env,E' 0= .vec (u32s m) m.length c->E' 1= .vec (u32s n) n.length d->E' 5=a->E' 6= .int .u64 (cy:Nat)->E' 7= .int .i64 (i:Nat)->
    Wg 0 54 (.seq (.reg r198_5 none) (.cond (.t 23) (.reg r198_6 none) .skip)) E' H (λx E'' H''=>x= .normal/\H''=H/\E'' 0= .vec (u32s m) m.length c/\E'' 1= .vec (u32s n) n.length d/\E'' 5=a/\E'' 6= .int .u64 ((cy+m.getD i 0:Nat):Int)/\E'' 7= .int .i64 (i:Nat)):=by
   intro E' g0 g1 g5 g6 g7;refine wM ?_;simp only[r198_5,SS,reduceCtorEq,reduceIte,qQ,g0,g7];refine⟨λhl=>?_,λhl=>?_⟩
   ·have g:=zal m i (by omega) AV.junk;have w1:IntKind.u64.wrap ((cy:Int)+((m.getD i 0:Nat):Int))=((cy+m.getD i 0:Nat):Int):=by rw[<-qL];exact zbg (by omega)
    simp only[r198_6,SS,fC,reduceCtorEq,reduceIte,qQ,g0,g1,g5,g6,g7,qK,g,zae,zbg (show m.getD i 0<18446744073709551616 by omega),w1];exact⟨⟨by omega,hl⟩,by omega⟩
   ·simp only[g1,g5,g6,zgv (show m.length<=i by omega),qI,and_self]
  have st2:∀E':Env,E' 0= .vec (u32s m) m.length c->E' 1= .vec (u32s n) n.length d->E' 5=a->E' 6= .int .u64 ((cy+m.getD i 0:Nat):Int)->E' 7= .int .i64 (i:Nat)->
    Wg 0 54 (.seq (.reg r198_7 none) (.cond (.t 34) (.reg r198_8 none) .skip)) E' H (λx E'' H''=>x= .normal/\H''=H/\E'' 0= .vec (u32s m) m.length c/\E'' 1= .vec (u32s n) n.length d/\E'' 5=a/\E'' 6= .int .u64 ((cy+m.getD i 0+n.getD i 0:Nat):Int)/\E'' 7= .int .i64 (i:Nat)):=by
   intro E' g0 g1 g5 g6 g7;refine wM ?_;simp only[r198_7,SS,reduceCtorEq,reduceIte,qQ,g1,g7];refine⟨λhl=>?_,λhl=>?_⟩
   ·have g:=zal n i (by omega) AV.junk;have w1:IntKind.u64.wrap (((cy+m.getD i 0:Nat):Int)+((n.getD i 0:Nat):Int))=((cy+m.getD i 0+n.getD i 0:Nat):Int):=by rw[<-qL];exact zbg (by omega)
    simp only[r198_8,SS,fC,reduceCtorEq,reduceIte,qQ,g0,g1,g5,g6,g7,qK,g,zae,zbg (show n.getD i 0<18446744073709551616 by omega),w1];exact⟨⟨by omega,hl⟩,by omega⟩
   ·simp only[g0,g5,g6,zgv (show n.length<=i by omega),qI,and_self]
  have hor:(if decide ((i:Int)<(m.length:Nat))=true then AV.bool true else AV.bool (decide ((i:Int)<(n.length:Nat))))= .bool true:=by
   by_cases h:(i:Int)<(m.length:Nat)
   ·rw[if_pos (decide_eq_true h)]
   ·rw[if_neg (by simp at h ⊢;exact h),dT]
  have tail:∀E':Env,E' 0= .vec (u32s m) m.length c->E' 1= .vec (u32s n) n.length d->E' 5=a->E' 6= .int .u64 (cy:Nat)->E' 7= .int .i64 (i:Nat)->
    Wg 0 54 (.seq (.block 1 (.seq (.seq (.reg r198_5 none) (.cond (.t 23) (.reg r198_6 none) .skip)) (.seq (.seq (.reg r198_7 none) (.cond (.t 34) (.reg r198_8 none) .skip)) (.seq (.reg r198_9 none) (.reg r198_10 none))))) (.reg r198_11 none)) E' H
     (λx E'' H''=>x= .normal/\E'' 0= .vec (u32s m) m.length c/\E'' 1= .vec (u32s n) n.length d/\E'' 7= .int .i64 ((i+1:Nat):Int)/\E'' 6= .int .u64 (((cy+m.getD i 0+n.getD i 0)/4294967296:Nat):Int)/\
     ∃H5,(∀E3,Weak G 0 E3 H'' E3 H5)/\qal [] 1 (i+1) (u32s (out++[(cy+m.getD i 0+n.getD i 0)%4294967296])) (E'' 5) H5):=by
   intro E' g0 g1 g5 g6 g7;refine zki (zmu (zki ((st1 E' g0 g1 g5 g6 g7).mono ?_)));rintro x E1 H1 ⟨rfl,rfl,a0,a1,a5,a6,a7⟩;refine zki ((st2 E1 a0 a1 a5 a6 a7).mono ?_);rintro x E2 H2 ⟨rfl,rfl,b0,b1,b5,b6,b7⟩;refine(step9 E2 b0 b1 b5 b6 b7).mono ?_;rintro x E3 H3 ⟨rfl,c0,c1,c7,c6,H5,hw,hO'⟩;refine wM ?_;have w1:=wS1 i (by omega);simp only[r198_11,SS,reduceCtorEq,reduceIte,qQ,c0,c1,c7,c6,w1];exact⟨H5,hw,hO'⟩
  simp only[l198_0];refine wW ?_;simp only[r198_4,SS,fC,reduceCtorEq,reduceIte,qQ,h0,h1,h7];refine⟨λhnm=>⟨λhn=>?_,λhnn=>absurd hnn (by omega)⟩,λhm=>?_⟩
  all_goals
   refine(tail _ (by simp only[UU,qQ,h0]) (by simp only[UU,qQ,h1]) (by simp only[UU,qQ,h5]) (by simp only[UU,qQ,h6]) (by simp only[UU,qQ,h7])).mono ?_;rintro x E3 H3 ⟨rfl,c0,c1,c7,c6,H5,hw,hO'⟩;refine⟨k,E3,H5,by omega,⟨i+1,_,_,_,by omega,by simp[hol],?_,hf,c0,c1,rfl,c6,c7,hO'⟩,hw E3⟩;omega
theorem zky(m n:List Nat)(c d:Option Nat)(hm:m.length<1048576)(hn:n.length<=m.length)(dm:Dig m)(dn:Dig n):
  ∃c',Rt 199 [.vec (u32s m) m.length c,.vec (u32s n) n.length d] [] (.vec (u32s (difL m n m.length 0 0 [])) (difL m n m.length 0 0 []).length c') []:=by
 have hlen:∀k i b out,(difL m n k i b out).length=k+out.length:=by
  intro k
  induction k with
  |zero=>intro i b out;simp[difL]
  |succ k ih=>intro i b out;simp only[difL];rw[ih];simp;omega
 refine⟨if m.length=0 then some 0 else none,?_⟩;refine oF o199 ?_;generalize hfin:difL m n m.length 0 0 []=fin;have hfl:fin.length=m.length:=by rw[<-hfin,hlen];simp
 simp only[c199,r199_0,r199_1,r199_2,r199_3,SS,reduceCtorEq]
 refine zaj (λk E H=>∃i b out a,k+i=m.length/\out.length=i/\b<=1/\difL m n k i b out=fin/\E 0= .vec (u32s m) m.length c/\E 1= .vec (u32s n) n.length d/\
  E 5=a/\E 6= .int .u64 (b:Nat)/\E 7= .int .i64 (i:Nat)/\qal [] 1 i (u32s out) a H) (n:=m.length) ⟨0,0,[],_,by omega,rfl,by omega,hfin,?_,?_,rfl,?_,?_,.inl ⟨rfl,rfl,?_,0,rfl⟩⟩ ?_
 ·rfl
 ·rfl
 ·rfl
 ·rfl
 ·rfl
 rintro k E H ⟨i,b,out,a,hki,hol,hb,hf,h0,h1,h5,h6,h7,hO⟩;have bm:=dm.getD i;have bn:=dn.getD i;cases k with
 |zero=>
  refine wM ?_;have d1:decide ((i:Int)<(m.length:Nat))=false:=dF;have hf:out=fin:=hf;subst hf;simp only[l199_0,r199_4,SS,fC,reduceCtorEq,reduceIte,qQ,h0,h7,d1];simp only[r199_13,SS,reduceIte,qQ,h5];refine⟨.inl trivial,_,rfl,?_⟩;rcases hO with⟨rfl,h9,rfl,j,rfl⟩ | ⟨hi,hl,j,rfl,rfl⟩
  ·have:m.length=0:=by omega
   have:out=[]:=List.length_eq_zero_iff.1 hol;subst this;rw[if_pos (by omega)];exact .drop _ _ rfl (by intro i cs h;omega)
  ·rw[if_neg (by omega),hol];refine zmy ?_ hol.symm;simp[getB]
 |succ k=>
  simp only[difL]at hf
  have st6:∀E':Env,E' 0= .vec (u32s m) m.length c->E' 1= .vec (u32s n) n.length d->E' 5=a->E' 8= .int .u64 (b:Nat)->E' 7= .int .i64 (i:Nat)->
    Wg 0 46 (.seq (.reg r199_6 none) (.cond (.t 19) (.reg r199_7 none) .skip)) E' H (λx E'' H''=>x= .normal/\H''=H/\E'' 0= .vec (u32s m) m.length c/\E'' 1= .vec (u32s n) n.length d/\E'' 5=a/\E'' 8= .int .u64 ((b+n.getD i 0:Nat):Int)/\E'' 7= .int .i64 (i:Nat)):=by
   intro E' g0 g1 g5 g8 g7;refine wM ?_;simp only[r199_6,SS,reduceCtorEq,reduceIte,qQ,g1,g7];refine⟨λhl=>?_,λhl=>?_⟩
   ·have g:=zal n i (by omega) AV.junk;have w1:IntKind.u64.wrap ((b:Int)+((n.getD i 0:Nat):Int))=((b+n.getD i 0:Nat):Int):=by rw[<-qL];exact zbg (by omega)
    simp only[r199_7,SS,fC,reduceCtorEq,reduceIte,qQ,g0,g1,g5,g8,g7,qK,g,zae,zbg (show n.getD i 0<18446744073709551616 by omega),w1];exact⟨⟨by omega,hl⟩,by omega⟩
   ·simp only[g0,g5,g8,zgv (show n.length<=i by omega),qI,and_self]
  have hi:i<m.length:=by omega
  have gm:=zal m i hi AV.junk;have wm:IntKind.u64.wrap ((m.getD i 0:Nat):Int)=((m.getD i 0:Nat):Int):=zbg (by omega)
  have wd:IntKind.u32.wrap (IntKind.u64.wrap (((m.getD i 0:Nat):Int)-((b+n.getD i 0:Nat):Int)))=(((m.getD i 0+8589934592-(b+n.getD i 0))%4294967296:Nat):Int):=by
   exact qst (by omega) (by omega)
  obtain⟨e,rd,H4,H5,hap,hH4,hg,hw,hO'⟩:=zpu (bytes:=4) (xs:=[.int .u32 (((m.getD i 0+8589934592-(b+n.getD i 0))%4294967296:Nat):Int)]) hO rfl rfl (by omega) (by omega);have e1:u32s out++[.int .u32 (((m.getD i 0+8589934592-(b+n.getD i 0))%4294967296:Nat):Int)]=u32s (out++[(m.getD i 0+8589934592-(b+n.getD i 0))%4294967296]):=by simp[u32s]
  rw[e1]at hO';have w1:=wS1 i (by omega);simp only[l199_0];refine wW ?_;simp only[r199_4,SS,reduceCtorEq,reduceIte,qQ,h0,h7];refine⟨λ_=>?_,λh=>absurd h (by omega)⟩;refine zki (zmu (wW ?_));simp only[r199_5,SS,reduceIte,qQ,h6];refine zki ((st6 _ (by simp only[UU,qQ,h0]) (by simp only[UU,qQ,h1]) (by simp only[UU,qQ,h5]) (by rfl) (by simp only[UU,qQ,h7])).mono ?_);rintro x E2 H2 ⟨rfl,rfl,b0,b1,b5,b8,b7⟩;refine wM ?_;simp only[r199_8,SS,fC,reduceCtorEq,reduceIte,qQ,qX,b0,b5,b7,b8,qK,gm,zae,wm,wd,zcy,hap];refine⟨⟨by omega,by omega⟩,by omega,?_⟩;simp only[r199_9,SS];simp only[r199_10,SS,fC,reduceCtorEq,reduceIte,qQ,b0,b7,b8,qK,gm,zae,wm];refine⟨⟨by omega,by omega⟩,by omega,λhlt=>?_,λhlt=>?_⟩
  ·have eb:brw (m.getD i 0) (b+n.getD i 0)=1:=by unfold brw;rw[if_pos (by omega)]
   rw[eb]at hf;simp only[r199_11,SS];refine wM ?_;simp only[r199_12,SS,reduceIte,qQ,b7,w1];rw[hH4];refine⟨k,_,H5,by omega,⟨i+1,1,_,_,by omega,by simp[hol],by omega,hf,?_,?_,rfl,?_,?_,?_⟩,hw _ _ _ (by simp)⟩<;>simp only[UU,qQ,reduceIte,b0,b1]
   ·rfl
   ·exact hO'
  ·have eb:brw (m.getD i 0) (b+n.getD i 0)=0:=by unfold brw;rw[if_neg (by omega)]
   rw[eb]at hf;refine wM ?_;simp only[r199_12,SS,reduceIte,qQ,b7,w1];rw[hH4];refine⟨k,_,H5,by omega,⟨i+1,0,_,_,by omega,by simp[hol],by omega,hf,?_,?_,rfl,?_,?_,?_⟩,hw _ _ _ (by simp)⟩<;>simp only[UU,qQ,reduceIte,b0,b1]
   ·rfl
   ·exact hO'
theorem zln(l:List Nat):(zbi l).length<=l.length:=by rw[zgc];exact zhq _ _
theorem zap.closed{z:Int}{a:AV}(h:zap z a):a.closed=true:=by
 obtain⟨l,c,_,_,_,rfl⟩:=h;rfl
theorem zap.fits{z:Int}{a:AV}(h:zap z a):z.natAbs<BIG:=by
 obtain⟨l,c,hc,hl,hv,rfl⟩:=h;rw[<-hv];exact zem hc.1 hl
theorem zAdd{x y:Int}{a b:AV}(ha:zap x a)(hb:zap y b)(hf:(x+y).natAbs<BIG):∃v,zap (x+y) v/\Rt 134 [a,b] [] v []:=by
 obtain⟨l,c,hc,hl,hv,rfl⟩:=ha;obtain⟨r,d,hd,hlr,hw,rfl⟩:=hb;obtain⟨c1,t1⟩:=znw l c (by omega);obtain⟨c2,t2⟩:=znw r d (by omega);have l1:=zln l;have l2:=zln r;have k1:=zbc hc.1;have k2:=zbc hd.1;have v1:=(zbp l).trans hv;have v2:=(zbp r).trans hw;have t3:=zcmp (zbi l) (zbi r) c1 c2 (by omega) (by omega);rw[zdw k1 k2,v1,v2]at t3;by_cases hs:decide (x<0)=decide (y<0)
 ·obtain⟨c3,t4⟩:=zsum (zbi l) (zbi r) c1 c2 (by omega) (by omega) k1.1 k2.1;obtain⟨s1,s2,s3⟩:=qko (zbi l) (zbi r) k1.1 k2.1 (max (zbi l).length (zbi r).length) 0 0 [] (by omega) rfl Dig.nil (by omega) (by omega) rfl;rw[v1,v2]at s1
  have hx:x.natAbs+y.natAbs=(x+y).natAbs:=by
   rcases qE x 0 with h | h | h<;>rcases qE y 0 with h' | h' | h'<;>simp at hs<;>omega
  obtain⟨v,hv1,t5⟩:=zpr (decide (x<0)) _ c3 s2 (by rw[s3];omega) (by rw[s1,hx];exact hf)
  have e:sgnZ (decide (x<0)) (Limb.val (sumL (zbi l) (zbi r) (max (zbi l).length (zbi r).length) 0 0 []))=x+y:=by
   rw[s1];unfold sgnZ;simp only[decide_eq_true_eq];simp at hs;split<;>omega
  rw[e]at hv1;obtain⟨l',c',_,_,_,rfl⟩:=hv1;refine⟨_,⟨l',c',by assumption,by assumption,by assumption,rfl⟩,?_⟩;refine oF o134 ?_;simp only[c134,r134_0,r134_1,SS,fC,reduceCtorEq,reduceIte,qZ,qQ,qX];refine zaa t1 ?_;simp only[SS,fC,reduceIte,qZ,qQ,qX];refine zaa t2 ?_;simp only[SS,reduceIte,qQ];refine⟨rfl,?_⟩;simp only[r134_2,SS,fC,reduceIte,qZ,qQ,qX,hs,beq_self_eq_true];simp only[r134_3,SS,fC,reduceIte,qZ,qQ,qX];refine zaa t4 ?_;rw[hs]at t5;simp only[SS,reduceIte,qQ];refine zaa t5 ?_;simp only[SS,reduceIte,qZ,qQ,qX];refine⟨rfl,?_⟩;exact dR
 ·have hs':(decide (x<0) == decide (y<0))=false:=by simpa using hs
  by_cases hcmp:y.natAbs<=x.natAbs
  ·have hsg:decide ((0:Int)<=sgn x.natAbs y.natAbs)=true:=by
    unfold sgn;rw[if_neg (by omega)];split<;>rfl
   have hlen:(zbi r).length<=(zbi l).length:=by
    rcases xV (zbi l).length (zbi r).length with h | h
    ·exfalso;have:=zdw k1 k2;unfold cmpL at this;rw[if_neg (by omega),if_pos h,v1,v2]at this;rw[<-this]at hsg;simp at hsg
    ·exact h
   obtain⟨c3,t4⟩:=zky (zbi l) (zbi r) c1 c2 (by omega) hlen k1.1 k2.1;obtain⟨s1,s2,s3⟩:=zpn (zbi l) (zbi r) k1.1 k2.1 hlen (by omega) (zbi l).length 0 0 [] (by omega) rfl Dig.nil (by omega) rfl;rw[v1,v2]at s1;obtain⟨v,hv1,t5⟩:=zpr (decide (x<0)) _ c3 s2 (by rw[s3];omega) (zem s2 (by rw[s3];omega))
   have e:sgnZ (decide (x<0)) (Limb.val (difL (zbi l) (zbi r) (zbi l).length 0 0 []))=x+y:=by
    unfold sgnZ;simp only[decide_eq_true_eq];simp at hs;split<;>omega
   rw[e]at hv1;obtain⟨l',c',_,_,_,rfl⟩:=hv1;refine⟨_,⟨l',c',by assumption,by assumption,by assumption,rfl⟩,?_⟩;refine oF o134 ?_;simp only[c134,r134_0,r134_1,SS,fC,reduceCtorEq,reduceIte,qZ,qQ,qX];refine zaa t1 ?_;simp only[SS,fC,reduceIte,qZ,qQ,qX];refine zaa t2 ?_;simp only[SS,reduceIte,qQ];refine⟨rfl,?_⟩;simp only[r134_2,SS,fC,reduceIte,qZ,qQ,qX,hs'];simp only[r134_4,SS,reduceIte,qQ];refine zaa t3 ?_;simp only[SS,fC,reduceIte,qQ,hsg];simp only[r134_5,SS,fC,reduceIte,qZ,qQ,qX];refine zaa t4 ?_;simp only[SS,reduceIte,qQ];refine zaa t5 ?_;simp only[SS,reduceIte,qZ,qQ,qX];refine⟨rfl,?_⟩;exact dR
  ·have hsg:decide ((0:Int)<=sgn x.natAbs y.natAbs)=false:=by
    unfold sgn;rw[if_pos (by omega)];rfl
   have hlen:(zbi l).length<=(zbi r).length:=by
    rcases xV (zbi r).length (zbi l).length with h | h
    ·exfalso;have:=zdw k1 k2;unfold cmpL at this;rw[if_neg (by omega),if_neg (by omega),v1,v2]at this;rw[<-this]at hsg;simp at hsg
    ·exact h
   obtain⟨c3,t4⟩:=zky (zbi r) (zbi l) c2 c1 (by omega) hlen k2.1 k1.1;obtain⟨s1,s2,s3⟩:=zpn (zbi r) (zbi l) k2.1 k1.1 hlen (by omega) (zbi r).length 0 0 [] (by omega) rfl Dig.nil (by omega) rfl;rw[v1,v2]at s1;obtain⟨v,hv1,t5⟩:=zpr (decide (y<0)) _ c3 s2 (by rw[s3];omega) (zem s2 (by rw[s3];omega))
   have e:sgnZ (decide (y<0)) (Limb.val (difL (zbi r) (zbi l) (zbi r).length 0 0 []))=x+y:=by
    unfold sgnZ;simp only[decide_eq_true_eq];simp at hs;split<;>omega
   rw[e]at hv1;obtain⟨l',c',_,_,_,rfl⟩:=hv1;refine⟨_,⟨l',c',by assumption,by assumption,by assumption,rfl⟩,?_⟩;refine oF o134 ?_;simp only[c134,r134_0,r134_1,SS,fC,reduceCtorEq,reduceIte,qZ,qQ,qX];refine zaa t1 ?_;simp only[SS,fC,reduceIte,qZ,qQ,qX];refine zaa t2 ?_;simp only[SS,reduceIte,qQ];refine⟨rfl,?_⟩;simp only[r134_2,SS,fC,reduceIte,qZ,qQ,qX,hs'];simp only[r134_4,SS,reduceIte,qQ];refine zaa t3 ?_;simp only[SS,fC,reduceIte,qQ,hsg];simp only[r134_6,SS,fC,reduceIte,qZ,qQ,qX];refine zaa t4 ?_;simp only[SS,reduceIte,qQ];refine zaa t5 ?_;simp only[SS,reduceIte,qZ,qQ,qX];refine⟨rfl,?_⟩;exact dR
theorem zSub{x y:Int}{a b:AV}(ha:zap x a)(hb:zap y b)(hf:(x-y).natAbs<BIG):∃v,zap (x-y) v/\Rt 173 [a,b] [] v []:=by
 obtain⟨n,hn,t1⟩:=zNeg hb;obtain⟨v,hv,t2⟩:=zAdd ha hn (by rwa[<-zQ]);rw[<-zQ]at hv;obtain⟨l,c,_,_,_,rfl⟩:=ha;obtain⟨r,d,_,_,_,rfl⟩:=hb;obtain⟨l1,c1,_,_,_,rfl⟩:=hn;obtain⟨l',c',_,_,_,rfl⟩:=hv;refine⟨_,⟨l',c',by assumption,by assumption,by assumption,rfl⟩,?_⟩;refine oF o173 ?_;simp only[c173,r173_0,r173_1,SS,reduceCtorEq,reduceIte,qZ,qQ,qX];refine zaa t1 ?_;simp only[SS,reduceIte,qQ];refine zaa t2 ?_;simp only[SS,reduceIte,qZ,qQ,qX];refine⟨rfl,?_⟩;exact dR
structure MulE(m n:List Nat)(sa sb:Bool)(ca cb:Option Nat)(E:Env):Prop where
 e2:E 2= .ptr 0 0
 e3:E 3= .ptr 1 0
 e4:E 4= .ptr 2 0
 e5:E 5= .sl 3 0 (m.length+n.length) 1 (some (m.length+n.length))
 e20:E 20= .vec (u32s m) m.length ca
 e21:E 21= .int .i64 (m.length:Nat)
def mulH(m n out:List Nat)(sa sb:Bool)(ca cb:Option Nat):Heap:=
 [some [.bool sa,.vec (u32s m) m.length ca],some [.bool sb,.vec (u32s n) n.length cb],some [.bool false,.vec [] 0 (some 0)],some (u32s out)]
theorem jai(m n:List Nat)(sa sb:Bool)(ca cb:Option Nat)(i:Nat)(hi:i<m.length)(dm:Dig m)(dn:Dig n)(hm:m.length<=1100)(hn:n.length<=1100)(out0:List Nat)(ho0:out0.length=m.length+n.length)(do0:Dig out0){E:Env}{Q:Post}
  (hE:MulE m n sa sb ca cb E) (h6:E 6= .int .i64 (i:Nat)) (h7:E 7= .int .u32 (m.getD i 0:Nat)) (h8:E 8= .int .u64 0) (h22:E 22= .int .i64 (i:Nat)) (h28:E 28= .vec (u32s n) n.length cb) (h29:E 29= .int .i64 (n.length:Nat)) (h30:E 30= .int .i64 0)
  (hQ:∀E',MulE m n sa sb ca cb E'->E' 6= .int .i64 (i:Nat)->E' 22= .int .i64 (i:Nat)->E' 8= .int .u64 ((mulR n (m.getD i 0) i n.length 0 0 out0).1:Nat)->Q (.exit 2) E' (mulH m n (mulR n (m.getD i 0) i n.length 0 0 out0).2 sa sb ca cb)):
  Wg 0 77 (.loop l130_1) E (mulH m n out0 sa sb ca cb) Q:=by
 have bx:=dm.getD i
 refine zaj (λk E H=>∃j c out,j+k=n.length/\c<4294967296/\out.length=m.length+n.length/\Dig out/\mulR n (m.getD i 0) i k j c out=mulR n (m.getD i 0) i n.length 0 0 out0/\MulE m n sa sb ca cb E/\E 6= .int .i64 (i:Nat)/\E 7= .int .u32 (m.getD i 0:Nat)/\
  E 8= .int .u64 (c:Nat)/\E 22= .int .i64 (i:Nat)/\E 28= .vec (u32s n) n.length cb/\E 29= .int .i64 (n.length:Nat)/\E 30= .int .i64 (j:Nat)/\H=mulH m n out sa sb ca cb) (n:=n.length) ⟨0,0,out0,by omega,by omega,ho0,do0,rfl,hE,h6,h7,h8,h22,h28,h29,h30,rfl⟩ ?_
 rintro k E H ⟨j,c,out,hjk,hc,ho,hd,hr,hE,h6,h7,h8,h22,h28,h29,h30,rfl⟩;obtain⟨e2,e3,e4,e5,e20,e21⟩:=hE;refine wM ?_;simp only[l130_1,r130_7,SS,reduceIte,h29,h30];refine⟨λhlt=>?_,λhge=>?_⟩
 ·obtain⟨k,rfl⟩:∃k',k=k'+1:=⟨k-1,by omega⟩
  have hj:j<n.length:=by omega
  have gn:=zal n j hj AV.junk;have go:=zal out (i+j) (by omega) AV.junk;have by1:=dn.getD j;have bo:=hd.getD (i+j);have hxy:m.getD i 0*n.getD j 0<=4294967295*4294967295:=Nat.mul_le_mul (by omega) (by omega);simp only[mulR]at hr;have w1:IntKind.u64.wrap (((m.getD i 0:Nat):Int)*((n.getD j 0:Nat):Int))=((m.getD i 0*n.getD j 0:Nat):Int):=by rw[<-Int.natCast_mul];exact zbg (by omega)
  have w2:IntKind.i64.wrap ((i:Int)+(j:Int))=((i+j:Nat):Int):=by rw[<-qL];exact w64 (by omega) (by omega)
  have w3:IntKind.u64.wrap (((m.getD i 0*n.getD j 0:Nat):Int)+((out.getD (i+j) 0:Nat):Int))=((m.getD i 0*n.getD j 0+out.getD (i+j) 0:Nat):Int):=by rw[<-qL];exact zbg (by omega)
  have w4:IntKind.u64.wrap ((c:Int)+((m.getD i 0*n.getD j 0+out.getD (i+j) 0:Nat):Int))=((c+(m.getD i 0*n.getD j 0+out.getD (i+j) 0):Nat):Int):=by rw[<-qL];exact zbg (by omega)
  have w5:=wS1 j (by omega)
  simp only[r130_8,r130_9,r130_10,r130_11,r130_12,SS,fC,reduceIte,qQ,mulH,h6,h7,h8,h28,h30,e5,qK,gn,go,zae,ho,zbg (show m.getD i 0<18446744073709551616 by omega),zbg (show n.getD j 0<18446744073709551616 by omega),
   zbg (show out.getD (i+j) 0<18446744073709551616 by omega),w1,w2,w3,w4,w5,wu32,zlm,zbq]
  refine⟨⟨by omega,by omega⟩,by omega,⟨by omega,by omega⟩,by omega,⟨by omega,by omega⟩,by omega,by omega,?_⟩;refine⟨k,_,_,by omega,⟨j+1,_,_,by omega,?_,?_,?_,hr,⟨?_,?_,?_,?_,?_,?_⟩,?_,?_,?_,?_,?_,?_,?_,rfl⟩,.refl⟩
  ·omega
  ·simpa using ho
  ·exact hd.set (xA _ (by decide))
  all_goals simp only[UU,qQ,reduceIte, *]
 ·have hk:k=0:=by omega
  subst hk;simp only[mulR]at hr;rw[<-hr]at hQ;exact hQ _ ⟨by simp only[UU,qQ, *],by simp only[UU,qQ, *],by simp only[UU,qQ, *],by simp only[UU,qQ, *],by simp only[UU,qQ, *],by simp only[UU,qQ, *]⟩ (by simp only[UU,qQ, *]) (by simp only[UU,qQ, *]) (by simp only[UU,qQ, *])
theorem qam{l:List Nat}{n:Nat}{c:Option Nat}(hn:n=l.length):frzI 0 [some (u32s l)] 2 (.sl 0 0 n 1 c)=some (.vec (u32s l) n c):=by
 have e:=zup l 0 0 [some (u32s l)];rw[frzI];simp only[zE,if_false,zpl,need,xC,xO,hn,zae,qY,if_true,yY];rw[qW (by rw[zae];omega),e];rfl
theorem qsu{l:List Nat}{n:Nat}{c:Option Nat}{s:Bool}(hn:n=l.length):([.bool s,.sl 0 0 n 1 c]:List AV).mapM (frzI 0 [some (u32s l)] 2)=some [.bool s,.vec (u32s l) n c]:=by
 rw[yP,yP,qam hn];rfl
theorem zfh{E:Env}{H:Heap}{t id:Nat}{u v:AV}(hE:E t= .ptr id 0)(hb:getB H id=some [u,v]):resA Tryz.prog [.cell t 32] E H=some (.agg [u,v]):=by
 have hs:ldSz Tryz.prog 32=some (true,2):=by kernel_rfl
 simp only[resA,zeh,yP,List.mapM_nil,hE,hb,hs];rfl
theorem qlc(x y:Int):sgnZ (decide (x<0) != decide (y<0)) (x*y).natAbs=x*y:=by
 unfold sgnZ;rcases qE x 0 with h | h | h
 ·rcases qE y 0 with h' | h' | h'
  ·have:=Int.mul_pos_of_neg_of_neg h h';rw[decide_eq_true h,decide_eq_true h'];simp only[bne_self_eq_false,xL,if_false];omega
  ·subst h';simp
  ·have:=Int.mul_neg_of_neg_of_pos h h';rw[decide_eq_true h,dF];simp only[Bool.bne_false,if_true];omega
 ·subst h;simp
 ·rcases qE y 0 with h' | h' | h'
  ·have:=Int.mul_neg_of_pos_of_neg h h';rw[dF,decide_eq_true h'];simp only[Bool.bne_true,Bool.not_false,if_true];omega
  ·subst h';simp
  ·have:=Int.mul_pos h h';rw[dF,dF];simp only[bne_self_eq_false,xL,if_false];omega
theorem zMul{x y:Int}{a b:AV}(ha:zap x a)(hb:zap y b)(hf:(x*y).natAbs<BIG):∃v,zap (x*y) v/\Rt 130 [a,b] [] v []:=by
 obtain⟨m,ca,hc,hl,hv,rfl⟩:=ha;obtain⟨n,cb,hd,hlr,hw,rfl⟩:=hb
 have hz:val (List.replicate (m.length+n.length) 0)=0/\Dig (List.replicate (m.length+n.length) 0):=by
  constructor
  ·generalize m.length+n.length=k
   induction k with
   |zero=>rfl
   |succ k ih=>rw[xT,Limb.val,ih]
  ·intro z hz;simp at hz;omega
 obtain⟨s1,s2,s3⟩:=qkq n hd.1 m 0 (List.replicate (m.length+n.length) 0) hc.1 hz.2 (by simp) (by intro t _;simp[qJ,yJ];split<;>rfl);rw[hz.1,hv,hw,Nat.pow_zero,yO,xC,<-Int.natAbs_mul]at s3;rw[List.length_replicate]at s1;obtain⟨v,hv1,t5⟩:=zpr (decide (x<0) != decide (y<0)) (mulL n m 0 (List.replicate (m.length+n.length) 0)) (some (m.length+n.length)) s2 (by rw[s1];omega) (by rw[s3];exact hf)
 have e:sgnZ (decide (x<0) != decide (y<0)) (Limb.val (mulL n m 0 (List.replicate (m.length+n.length) 0)))=x*y:=by
  rw[s3];exact qlc x y
 rw[e]at hv1;obtain⟨l',c',_,_,_,rfl⟩:=hv1;refine⟨_,⟨l',c',by assumption,by assumption,by assumption,rfl⟩,?_⟩;have w1:IntKind.i64.wrap ((m.length:Int)+(n.length:Int))=((m.length+n.length:Nat):Int):=by rw[<-qL];exact w64 (by omega) (by omega)
 refine oF o130 ?_;simp only[c130,r130_0,r130_1,SS,fC,reduceCtorEq,reduceIte,qZ,qQ,qX,w1,qK];refine⟨by omega,⟨by omega,by omega,by omega,by omega⟩,?_⟩;simp only[r130_2,SS,fC,reduceIte,qZ,qQ,qX];have hrep:List.replicate (m.length+n.length) (AV.int IntKind.u32 0)=u32s (List.replicate (m.length+n.length) 0):=by simp[u32s]
 rw[hrep]
 refine zaj (λk E H=>∃i out,i+k=m.length/\out.length=m.length+n.length/\Dig out/\mulL n (m.drop i) i out=mulL n m 0 (List.replicate (m.length+n.length) 0)/\MulE m n (decide (x<0)) (decide (y<0)) ca cb E/\E 22= .int .i64 (i:Nat)/\
  H=mulH m n out (decide (x<0)) (decide (y<0)) ca cb) (n:=m.length) ⟨0,List.replicate (m.length+n.length) 0,by omega,by simp,hz.2,rfl,⟨by rfl,by rfl,by rfl,by rfl,by rfl,by rfl⟩,by rfl,rfl⟩ ?_
 rintro k E H ⟨i,out,hik,ho,hdo,hr,hE,h22,rfl⟩;have hE':=hE;obtain⟨e2,e3,e4,e5,e20,e21⟩:=hE;refine wM ?_;simp only[l130_0,r130_3,SS,reduceCtorEq,reduceIte,e21,h22];refine⟨λhlt=>?_,λhge=>?_⟩
 ·obtain⟨k,rfl⟩:∃k',k=k'+1:=⟨k-1,by omega⟩
  have hi:i<m.length:=by omega
  have gm:=zal m i hi AV.junk
  have hdrop:m.drop i=m.getD i 0::m.drop (i+1):=by
   rw[List.drop_eq_getElem_cons hi,qJ,qV hi];rfl
  rw[hdrop,mulL]at hr;have w5:=wS1 i (by omega);have w6:IntKind.i64.wrap ((i:Int)+(n.length:Int))=((i+n.length:Nat):Int):=by rw[<-qL];exact w64 (by omega) (by omega)
  obtain⟨q1,q2,q3,q4,q5⟩:=zxm n hd.1 (m.getD i 0) i (hc.1.getD i) n.length 0 0 out (by decide) (by omega) (by omega) hdo;simp only[r130_4,r130_5,r130_6,SS,fC,reduceIte,qZ,qQ,qX,e20,h22,qK,gm,zae,mulH,e3];refine⟨⟨by omega,hlt⟩,by omega,?_⟩;refine jai m n (decide (x<0)) (decide (y<0)) ca cb i hi hc.1 hd.1 hl hlr out ho hdo ⟨?_,?_,?_,?_,?_,?_⟩ ?_ ?_ ?_ ?_ ?_ ?_ ?_ (λE1 hE1 f6 f22 f8=>?rest)
  case rest=>
   have hE1':=hE1;obtain⟨f2,f3,f4,f5,f20,f21⟩:=hE1;simp only[r130_13,r130_14,SS,fC,reduceCtorEq,reduceIte,qZ,qQ,qX,f3,f5,f6,f8,f22,mulH,qK,zae,w5,w6,wu32,xH q1,zbq,q2,ho];refine⟨⟨by omega,by omega⟩,by omega,?_⟩;refine⟨k,_,_,by omega,⟨i+1,_,by omega,?_,?_,hr,⟨?_,?_,?_,?_,?_,?_⟩,?_,rfl⟩,.refl⟩
   ·simpa using q2.trans ho
   ·exact q3.set q1
   all_goals simp only[UU,qQ,reduceIte, *]
  all_goals simp only[UU,qQ,reduceIte, *]
 ·have hk:i=m.length:=by omega
  subst hk;rw[List.drop_length]at hr;simp only[mulL]at hr;simp only[r130_15,SS,fC,reduceIte,qZ,qQ,qX,e2,e3,e5,mulH];have hb:(!(decide (x<0) == decide (y<0)))=(decide (x<0) != decide (y<0)):=rfl;rw[<-hr,ho]at t5;rw[hb];refine zfp (id:=3) (cs:=u32s out) (d:=2) (args0:=[.bool (decide (x<0) != decide (y<0)),.sl 0 0 (m.length+n.length) 1 (some (m.length+n.length))]) t5 ?_ ?_ ?_ ?_ rfl (zao _)
  ·rfl
  ·exact qsu ho.symm
  ·rfl
  simp only[zaf,zac,xB,xM,SS,reduceIte,qZ,qQ,qX,e4];refine⟨.inl trivial,_,?_,.drop _ _ rfl (by intro i cs h;omega)⟩;exact zfh (id:=2) (by exact e4) rfl
theorem or64{a b:Nat}(ha:a<4294967296)(hb:b<4294967296):IntKind.u64.wrap ((BitVec.ofInt IntKind.u64.bits (a:Int) ||| BitVec.ofInt IntKind.u64.bits ((b*4294967296:Nat):Int)).toNat:Int)=((a+4294967296*b:Nat):Int):=by
 have e1:(BitVec.ofInt IntKind.u64.bits (a:Int) ||| BitVec.ofInt IntKind.u64.bits ((b*4294967296:Nat):Int)).toNat=a+4294967296*b:=by
  rw[BitVec.toNat_or,BitVec.ofInt_natCast,BitVec.ofInt_natCast,BitVec.toNat_ofNat,BitVec.toNat_ofNat]
  show a%18446744073709551616 ||| b*4294967296%18446744073709551616=_
  rw[xH (by omega),xH (by omega),Nat.or_comm,yK b];have:=Nat.two_pow_add_eq_or_of_lt (i:=32) (b:=a) ha b;rw[show(2:Nat)^32=4294967296 from rfl]at this;rw[<-this];omega
 rw[e1];exact zbg (by omega)
theorem qdc(m:List Nat)(dm:Dig m){i:Nat}(hi:i<m.length)(hi2:i<2):IntKind.u64.wrap ((BitVec.ofInt IntKind.u64.bits ((val (m.take i):Nat):Int) ||| BitVec.ofInt IntKind.u64.bits (IntKind.u64.wrap (((m.getD i 0:Nat):Int)*2^min (32*i) IntKind.u64.bits))).toNat:Int)=(val (m.take (i+1)):Nat):=by
 have bi:=dm.getD i;rw[zbk];rcases(by omega:i=0\/i=1)with rfl | rfl
 ·have e1:IntKind.u64.wrap (((m.getD 0 0:Nat):Int)*2^min (32*0) IntKind.u64.bits)=((m.getD 0 0:Nat):Int):=by
   show IntKind.u64.wrap (((m.getD 0 0:Nat):Int)*1)=_
   rw[zC];exact zbg (by omega)
  rw[e1];have e2:val (m.take 0)=0:=rfl;rw[e2];have:=or64 (a:=m.getD 0 0) (b:=0) bi (by omega);rw[BitVec.or_comm];simpa using this
 ·have e1:IntKind.u64.wrap (((m.getD 1 0:Nat):Int)*2^min (32*1) IntKind.u64.bits)=((m.getD 1 0*4294967296:Nat):Int):=by
   show IntKind.u64.wrap (((m.getD 1 0:Nat):Int)*4294967296)=_
   rw[show((m.getD 1 0:Nat):Int)*4294967296=((m.getD 1 0*4294967296:Nat):Int) by omega];exact zbg (by omega)
  rw[e1];have hlt:=zfc (dm.take 1);have hlen:(m.take 1).length=1:=by rw[xQ];omega
  rw[hlen]at hlt;have:=or64 (a:=val (m.take 1)) (b:=m.getD 1 0) (by omega) bi;rw[this]
theorem zlow(m:List Nat)(c:Option Nat)(dm:Dig m)(hm:m.length<1048576):Rt 177 [.vec (u32s m) m.length c] [] (.int .u64 (val (m.take 2):Nat)) []:=by
 refine oF o177 ?_;simp only[c177,r177_0,r177_1,r177_2,SS,reduceCtorEq];refine zaj (λk E H=>∃i,i+k=min 2 m.length/\E 0= .vec (u32s m) m.length c/\E 3= .int .u64 (val (m.take i):Nat)/\E 4= .int .i64 (i:Nat)/\H=[]) (n:=min 2 m.length) ⟨0,by omega,by rfl,by rfl,by rfl,rfl⟩ ?_;rintro k E H ⟨i,hik,h0,h3,h4,rfl⟩;refine wM ?_;have bi:=dm.getD i
 have hv:val (m.take 2)=val (m.take (min 2 m.length)):=by
  rcases Nat.le_total 2 m.length with h | h
  ·rw[yI h]
  ·rw[Nat.min_eq_right h,qW h,qM]
 cases k with
 |zero=>
  have hi:i=min 2 m.length:=by omega
  rw[<-hi]at hv;rw[hv];by_cases hl:i<m.length
  ·have d1:decide ((i:Int)<(m.length:Nat))=true:=dT;have d2:decide ((i:Int)<2)=false:=dF;simp only[l177_0,r177_3,SS,fC,reduceCtorEq,reduceIte,qQ,h0,h4,d1,d2];simp only[r177_6,SS,reduceIte,qQ,h3];exact dR
  ·have d1:decide ((i:Int)<(m.length:Nat))=false:=dF;simp only[l177_0,r177_3,SS,fC,reduceCtorEq,reduceIte,qQ,h0,h4,d1];simp only[r177_6,SS,reduceIte,qQ,h3];exact dR
 |succ k=>
  have hi:i<m.length:=by omega
  have hi2:i<2:=by omega
  have d1:decide ((i:Int)<(m.length:Nat))=true:=dT;have d2:decide ((i:Int)<2)=true:=dT;have g:=zal m i hi AV.junk;have w5:=wS1 i (by omega);have w6:IntKind.i64.wrap (32*(i:Int))=((32*i:Nat):Int):=wQ (by omega);have w7:=qdc m dm hi hi2;simp only[l177_0,r177_3,SS,fC,reduceCtorEq,reduceIte,qQ,h0,h4,d1,d2];simp only[r177_4,r177_5,SS,fC,reduceCtorEq,reduceIte,qQ,h0,h3,h4,qK,g,zae,w5,w6,zbg (show m.getD i 0<18446744073709551616 by omega),w7];refine⟨⟨by omega,by omega⟩,by omega,by omega,?_⟩;refine⟨k,_,_,by omega,⟨i+1,by omega,?_,?_,?_,rfl⟩,.refl⟩<;>simp only[UU,qQ,reduceIte, *]
theorem zhr{l:List Nat}(h:zbn l)(hv:val l<18446744073709551616):l.length<=2:=by
 rcases xV 2 l.length with h1 | h1
 ·exfalso;have h2:=zft h.2 (by intro e;rw[e]at h1;simp at h1);have h3:4294967296^2<=4294967296^(l.length-1):=qP (by decide) (by omega);omega
 ·exact h1
theorem zur(m n:List Nat)(c d:Option Nat)(cm:zbn m)(cn:zbn n)(hm:val m<18446744073709551616)(hn:val n<18446744073709551616)(hn0:val n≠0):
  ∃q r c1 c2,zbn q/\zbn r/\q.length<=1100/\r.length<=1100/\val q=val m/val n/\val r=val m%val n/\
   Rt 227 [.vec (u32s m) m.length c,.vec (u32s n) n.length d] [] (.tup [.vec (u32s q) q.length c1,.vec (u32s r) r.length c2]) []:=by
 have lm:=zhr cm hm;have ln:=zhr cn hn;have t1:=zlow m c cm.1 (by omega);have t2:=zlow n d cn.1 (by omega);rw[qW lm]at t1;rw[qW ln]at t2;have hq:val m/val n<18446744073709551616:=zX (Nat.div_le_self _ _) hm;have hr:val m%val n<18446744073709551616:=zX (Nat.mod_le _ _) hm;obtain⟨vq,hq1,t3⟩:=qss false (val m/val n) hq;obtain⟨vr,hr1,t4⟩:=qss false (val m%val n) hr;obtain⟨q,c1,q1,q2,q3,rfl⟩:=hq1;obtain⟨r,c2,r1,r2,r3,rfl⟩:=hr1;refine⟨q,r,c1,c2,q1,r1,q2,r2,q3.trans (zgm _ _),r3.trans (zgm _ _),?_⟩;have d1:decide ((m.length:Int)<=2)=true:=dT;have d2:decide ((n.length:Int)<=2)=true:=dT
 have w1:IntKind.u64.wrap (Int.tdiv (val m:Nat) (val n:Nat))=((val m/val n:Nat):Int):=by
  show IntKind.u64.wrap ((val m/val n:Nat):Int)=_
  exact zbg hq
 have w2:Int.tmod (val m:Nat) (val n:Nat)=((val m%val n:Nat):Int):=rfl;refine oF o227 ?_;simp only[c227,r227_0,r227_1,SS,fC,reduceCtorEq,reduceIte,qQ,d1,d2];simp only[r227_2,SS,reduceCtorEq,reduceIte,qQ];refine zaa t1 ?_;simp only[SS,reduceIte,qQ];refine zaa t2 ?_;simp only[SS,reduceIte,qQ];simp only[r227_3,SS,reduceIte,qQ,w1];refine⟨by omega,?_⟩;refine zaa t3 ?_;simp only[SS,fC,reduceIte,qZ,qQ,qX];refine⟨by omega,?_⟩;refine zaa t4 ?_;simp only[SS,fC,reduceIte,qZ,qQ,qX];refine⟨rfl,?_⟩;exact dR
theorem zsl{x y:Int}(hy:y≠0):x/y=(if x.natAbs%y.natAbs≠0/\x<0 then(if y<0 then sgnZ (decide (x<0) != decide (y<0)) (x.natAbs/y.natAbs)+1 else sgnZ (decide (x<0) != decide (y<0)) (x.natAbs/y.natAbs)-1)else sgnZ (decide (x<0) != decide (y<0)) (x.natAbs/y.natAbs))/\
  x%y=(if x.natAbs%y.natAbs≠0/\x<0 then sgnZ (decide (x<0)) (x.natAbs%y.natAbs)+(y.natAbs:Int)else sgnZ (decide (x<0)) (x.natAbs%y.natAbs)):=by
 have h:=yL x.natAbs y.natAbs;have hR:=xA x.natAbs (show 0<y.natAbs by omega);generalize x.natAbs/y.natAbs=Q at*;generalize x.natAbs%y.natAbs=R at*;have h':(y.natAbs:Int)*Q+R=x.natAbs:=by exact_mod_cast h
 rcases Int.lt_or_lt_of_ne hy with hy1 | hy1
 ·rw[Int.ediv_emod_unique' hy1];have ey:(y.natAbs:Int)= -y:=by omega
  rw[ey]at h' ⊢;unfold sgnZ;rw[decide_eq_true hy1];by_cases hx:x<0
  ·have ex:(x.natAbs:Int)= -x:=by omega
   rw[ex]at h';rw[decide_eq_true hx];simp only[bne_self_eq_false,xL,if_false,if_true,hy1,hx,and_true];rw[Int.neg_mul]at h';by_cases h0:R=0
   ·subst h0;simp only[ne_eq,not_true_eq_false,if_false];refine⟨by omega,by omega,by omega⟩
   ·simp only[ne_eq,h0,not_false_eq_true,if_true];rw[Int.mul_add,zC];refine⟨by omega,by omega,by omega⟩
  ·have ex:(x.natAbs:Int)=x:=by omega
   rw[ex]at h';rw[decide_eq_false hx];simp only[Bool.bne_true,Bool.not_false,if_true,hx,and_false,if_false,xL];rw[Int.neg_mul]at h';rw[zD];refine⟨by omega,by omega,by omega⟩
 ·rw[Int.ediv_emod_unique hy1];have ey:(y.natAbs:Int)=y:=by omega
  rw[ey]at h' ⊢;unfold sgnZ;rw[decide_eq_false (show¬y<0 by omega)];by_cases hx:x<0
  ·have ex:(x.natAbs:Int)= -x:=by omega
   rw[ex]at h';rw[decide_eq_true hx];simp only[Bool.bne_false,if_true,hx,and_true,show¬y<0 by omega,if_false];by_cases h0:R=0
   ·subst h0;simp only[ne_eq,not_true_eq_false,if_false];rw[zD];refine⟨by omega,by omega,by omega⟩
   ·simp only[ne_eq,h0,not_false_eq_true,if_true];rw[Int.mul_sub,zD,zC];refine⟨by omega,by omega,by omega⟩
  ·have ex:(x.natAbs:Int)=x:=by omega
   rw[ex]at h';rw[decide_eq_false hx];simp only[bne_self_eq_false,xL,if_false,hx,and_false];refine⟨by omega,by omega,by omega⟩
def DivC(m n:List Nat)(c d:Option Nat):Prop:= ∃q r c1 c2,zbn q/\zbn r/\q.length<=1100/\r.length<=1100/\val q=val m/val n/\val r=val m%val n/\
   Rt 227 [.vec (u32s m) m.length c,.vec (u32s n) n.length d] [] (.tup [.vec (u32s q) q.length c1,.vec (u32s r) r.length c2]) []
theorem qld{x y:Int}{a b:AV}(ha:zap x a)(hb:zap y b)(hy:y≠0)(hdiv:∀m n c d,zbn m->zbn n->m.length<=1100->n.length<=1100->val m=x.natAbs->val n=y.natAbs->DivC m n c d)(hf:(x/y).natAbs<BIG):
  ∃v w,zap (x/y) v/\zap (x%y) w/\Rt 214 [a,b] [] (.tup [v,w,.bool true]) []:=by
 have hb0:=hb;obtain⟨hq0,hr0⟩:=zsl (x:=x) hy;obtain⟨l,ca,hc,hl,hv,rfl⟩:=ha;obtain⟨n,cb,hd,hlr,hw,rfl⟩:=hb;obtain⟨c1,t1⟩:=znw l ca (by omega);obtain⟨c2,t2⟩:=znw n cb (by omega);have l1:=zln l;have l2:=zln n;have k1:=zbc hc.1;have k2:=zbc hd.1;have v1:=(zbp l).trans hv;have v2:=(zbp n).trans hw
 have hn0:(zbi n).length≠0:=by
  intro e;have:=List.length_eq_zero_iff.1 e;rw[this]at v2;have:Limb.val []=0:=rfl;omega
 obtain⟨q,r,cq,cr,q1,r1,q2,r2,q3,r3,t3⟩:=hdiv (zbi l) (zbi n) c1 c2 k1 k2 (by omega) (by omega) v1 v2;rw[v1,v2]at q3 r3;obtain⟨vq,hvq,t4⟩:=zpr (decide (x<0) != decide (y<0)) q cq q1.1 (by omega) (zem q1.1 q2);obtain⟨vr,hvr,t5⟩:=zpr (decide (x<0)) r cr r1.1 (by omega) (zem r1.1 r2);rw[q3]at hvq;rw[r3]at hvr;have s1:=zxr hvr
 have hneg:decide ((sgnZ (decide (x<0)) (x.natAbs%y.natAbs)).sign<0)=decide (x.natAbs%y.natAbs≠0/\x<0):=by
  have:(sgnZ (decide (x<0)) (x.natAbs%y.natAbs)).sign<0↔sgnZ (decide (x<0)) (x.natAbs%y.natAbs)<0:=Int.sign_neg_iff;rw[decide_eq_decide,this];unfold sgnZ;simp only[decide_eq_true_eq];split<;>omega
 have hclo:vq.closed=true/\vr.closed=true:=⟨hvq.closed,hvr.closed⟩
 have hvq0:=hvq;have hvr0:=hvr;obtain⟨lq,dq,iq1,iq2,iq3,rfl⟩:=hvq;obtain⟨lr,dr,ir1,ir2,ir3,rfl⟩:=hvr;have hb3:(!(decide (x<0) == decide (y<0)))=(decide (x<0) != decide (y<0)):=rfl;by_cases hcase:x.natAbs%y.natAbs≠0/\x<0
 ·rw[if_pos hcase]at hq0 hr0;rw[decide_eq_true hcase]at hneg;obtain⟨vn,hvn,t6⟩:=zpr false (zbi n) c2 k2.1 (by omega) (zem k2.1 (by omega));have en:sgnZ false (Limb.val (zbi n))=(y.natAbs:Int):=by rw[v2];rfl
  rw[en]at hvn
  have hrf:(x%y).natAbs<BIG:=by
   have h1:=Int.emod_nonneg x hy;have h2:=Int.emod_lt x hy;have h3:=hb0.fits;omega
  obtain⟨vs,hvs,t7⟩:=zAdd hvr0 hvn (by rw[<-hr0];exact hrf);rw[<-hr0]at hvs;obtain⟨v1',hv1',t8⟩:=zhb 1 (by omega) (by omega);have s2:=zxr hb0;obtain⟨ln,dn,_,_,_,rfl⟩:=hvn;have hvs0:=hvs;obtain⟨ls,ds,_,_,_,rfl⟩:=hvs;by_cases hyn:y<0
  ·rw[if_pos hyn]at hq0;obtain⟨vt,hvt,t9⟩:=zAdd hvq0 hv1' (by rw[<-hq0];exact hf);rw[<-hq0]at hvt;have hvt0:=hvt;obtain⟨lt,dt,_,_,_,rfl⟩:=hvt;obtain⟨lo,dO,_,_,_,rfl⟩:=hv1';refine⟨_,_,hvt0,hvs0,?_⟩;have hsy:decide (y.sign<0)=true:=decide_eq_true (Int.sign_neg_iff.2 hyn);refine oF o214 ?_;simp only[c214,r214_0,r214_1,SS,fC,reduceCtorEq,reduceIte,qZ,qQ,qX];refine zaa t1 ?_;simp only[SS,fC,reduceIte,qZ,qQ,qX];refine zaa t2 ?_;simp only[SS,reduceIte,qQ];refine⟨rfl,?_⟩;simp only[r214_2,SS,reduceIte,qQ];refine⟨λh=>absurd h (by omega),λ_=>?_⟩;simp only[r214_4,SS,reduceIte,qQ];refine zaa t3 ?_;simp only[SS,reduceIte,qQ,qS,xI];simp only[r214_5,SS,fC,reduceIte,qZ,qQ,qX,hb3];refine zaa t4 ?_;simp only[SS,fC,reduceIte,qZ,qQ,qX];refine zaa t5 ?_;simp only[SS,reduceIte,qZ,qQ,qX];refine⟨rfl,?_⟩;simp only[r214_6,SS,reduceIte,qZ,qQ,qX];refine zaa s1 ?_;simp only[SS,fC,reduceIte,qQ,hneg];simp only[r214_7,SS,reduceIte,qZ,qQ,qX];refine zaa t6 ?_;simp only[SS,reduceIte,qQ];refine zaa t7 ?_;simp only[SS,reduceIte,qZ,qQ,qX];refine⟨rfl,?_⟩;simp only[r214_8,SS,reduceIte,qZ,qQ,qX];refine zaa s2 ?_;simp only[SS,fC,reduceIte,qQ,hsy];simp only[r214_9,SS,reduceIte,qZ,qQ,qX];refine zaa t8 ?_;simp only[SS,reduceIte,qQ];refine zaa t9 ?_;simp only[SS,reduceIte,qZ,qQ,qX];refine⟨rfl,?_⟩;exact dR
  ·rw[if_neg hyn]at hq0;obtain⟨vt,hvt,t9⟩:=zSub hvq0 hv1' (by rw[<-hq0];exact hf);rw[<-hq0]at hvt;have hvt0:=hvt;obtain⟨lt,dt,_,_,_,rfl⟩:=hvt;obtain⟨lo,dO,_,_,_,rfl⟩:=hv1';refine⟨_,_,hvt0,hvs0,?_⟩;have hsy:decide (y.sign<0)=false:=decide_eq_false (λh=>hyn (Int.sign_neg_iff.1 h));refine oF o214 ?_;simp only[c214,r214_0,r214_1,SS,fC,reduceCtorEq,reduceIte,qZ,qQ,qX];refine zaa t1 ?_;simp only[SS,fC,reduceIte,qZ,qQ,qX];refine zaa t2 ?_;simp only[SS,reduceIte,qQ];refine⟨rfl,?_⟩;simp only[r214_2,SS,reduceIte,qQ];refine⟨λh=>absurd h (by omega),λ_=>?_⟩;simp only[r214_4,SS,reduceIte,qQ];refine zaa t3 ?_;simp only[SS,reduceIte,qQ,qS,xI];simp only[r214_5,SS,fC,reduceIte,qZ,qQ,qX,hb3];refine zaa t4 ?_;simp only[SS,fC,reduceIte,qZ,qQ,qX];refine zaa t5 ?_;simp only[SS,reduceIte,qZ,qQ,qX];refine⟨rfl,?_⟩;simp only[r214_6,SS,reduceIte,qZ,qQ,qX];refine zaa s1 ?_;simp only[SS,fC,reduceIte,qQ,hneg];simp only[r214_7,SS,reduceIte,qZ,qQ,qX];refine zaa t6 ?_;simp only[SS,reduceIte,qQ];refine zaa t7 ?_;simp only[SS,reduceIte,qZ,qQ,qX];refine⟨rfl,?_⟩;simp only[r214_8,SS,reduceIte,qZ,qQ,qX];refine zaa s2 ?_;simp only[SS,fC,reduceIte,qQ,hsy];simp only[r214_10,SS,reduceIte,qZ,qQ,qX];refine zaa t8 ?_;simp only[SS,reduceIte,qQ];refine zaa t9 ?_;simp only[SS,reduceIte,qZ,qQ,qX];refine⟨rfl,?_⟩;exact dR
 ·rw[if_neg hcase]at hq0 hr0;rw[decide_eq_false hcase]at hneg;rw[<-hq0]at hvq0;rw[<-hr0]at hvr0;refine⟨_,_,hvq0,hvr0,?_⟩;rw[hq0,hr0];refine oF o214 ?_;simp only[c214,r214_0,r214_1,SS,fC,reduceCtorEq,reduceIte,qZ,qQ,qX];refine zaa t1 ?_;simp only[SS,fC,reduceIte,qZ,qQ,qX];refine zaa t2 ?_;simp only[SS,reduceIte,qQ];refine⟨rfl,?_⟩;simp only[r214_2,SS,reduceIte,qQ];refine⟨λh=>absurd h (by omega),λ_=>?_⟩;simp only[r214_4,SS,reduceIte,qQ];refine zaa t3 ?_;simp only[SS,reduceIte,qQ,qS,xI];simp only[r214_5,SS,fC,reduceIte,qZ,qQ,qX,hb3];refine zaa t4 ?_;simp only[SS,fC,reduceIte,qZ,qQ,qX];refine zaa t5 ?_;simp only[SS,reduceIte,qZ,qQ,qX];refine⟨rfl,?_⟩;simp only[r214_6,SS,reduceIte,qZ,qQ,qX];refine zaa s1 ?_;simp only[SS,fC,reduceIte,qQ,hneg];simp only[r214_11,SS,reduceIte,qZ,qQ,qX];refine⟨rfl,?_⟩;exact dR
theorem zQuo{x y:Int}{a b:AV}(ha:zap x a)(hb:zap y b)(hy:y≠0)(hdiv:∀m n c d,zbn m->zbn n->m.length<=1100->n.length<=1100->val m=x.natAbs->val n=y.natAbs->DivC m n c d)(hf:(x/y).natAbs<BIG):
  ∃v,zap (x/y) v/\Rt 172 [a,b] [] v []:=by
 obtain⟨v,w,hv,hw,t⟩:=qld ha hb hy hdiv hf;obtain⟨l,ca,_,_,_,rfl⟩:=ha;obtain⟨n,cb,_,_,_,rfl⟩:=hb;have hv0:=hv;obtain⟨lv,cv,_,_,_,rfl⟩:=hv;obtain⟨lw,cw,_,_,_,rfl⟩:=hw;refine⟨_,hv0,?_⟩;refine oF o172 ?_;simp only[c172,r172_0,r172_1,SS,reduceCtorEq,reduceIte,qZ,qQ,qX];refine zaa t ?_;simp only[SS,reduceIte,qZ,qQ,qX,qS,xI];simp only[r172_2,SS,reduceIte,qZ,qQ,qX];exact dR
end Go.Proofs.YtgfbaioffpcelaaGreatDoor
namespace Go.Proofs.YtgfbaioffpcelaaGreatDoor
open Go Go.AL Go.Proofs
theorem qan{a:List AV}{H:Heap}:getB (some a::H) 0=some a:=rfl
theorem qsv{a:Option (List AV)}{H:Heap}{i:Nat}:getB (a::H) (i+1)=getB H i:=rfl
theorem zcq{P:Program}{Γ:Glob}{n0:Nat}{E:Env}{H:Heap}{d:Option Nat}{g:Nat}{want:Bool}{k:CK}{os:List COp}{Q:List FP->Env->Heap->Prop}(h:E g= .bool want):regA P Γ n0 (⟨d,some (g,want),k⟩::os) E H Q=regA P Γ n0 (⟨d,none,k⟩::os) E H Q:=by
 rw[zpi,h];simp only[zxe,zbf,zjt h,true_implies];apply propext;refine⟨λx=>x.1,λx=>⟨x,λe=>?_⟩⟩;cases want<;>simp at e
theorem zkk{P:Program}{Γ:Glob}{n0:Nat}{E:Env}{H:Heap}{d:Option Nat}{g:Nat}{want:Bool}{k:CK}{os:List COp}{Q:List FP->Env->Heap->Prop}(h:E g= .bool (!want)):regA P Γ n0 (⟨d,some (g,want),k⟩::os) E H Q=regA P Γ n0 os (updO E d .junk) H (λl=>Q (([],[])::l)):=by
 rw[zpi,h];simp only[zxe,zbf,zjt h,true_implies];apply propext;refine⟨λx=>x.2,λx=>⟨λe=>?_,x⟩⟩;cases want<;>simp at e
open Go.Limb
theorem zap.shape{n:Int}{v:AV}(h:zap n v):∃l c,v= .agg [.bool (decide (n<0)),.vec (u32s l) l.length c]:=by
 obtain⟨l,c,_,_,_,rfl⟩:=h;exact⟨l,c,rfl⟩
theorem qsw{l:List Nat}(h:zbn l):zbi l=l:=zdk (zbc h.1) h (zbp l)
theorem zpv(l:List Nat)(c:Option Nat)(hl:l.length<16777216):Rt 156 [.vec (u32s l) l.length c] [] (.vec (u32s (zbi l)) (zbi l).length c) []:=by
 refine oF o156 ?_;simp only[c156,r156_0,SS,reduceCtorEq];refine zaj (λk E H=>k<=l.length/\zdg l k=zdg l l.length/\E 0= .vec (u32s (l.take k)) k c/\H=[]) (n:=l.length) ⟨by omega,rfl,by simp only[UU,qQ,qM],rfl⟩ ?_;rintro k E H ⟨hk,ht,h0,rfl⟩;refine wM ?_
 have fin:k=zdg l l.length->AV.vec (u32s (l.take k)) k c= .vec (u32s (zbi l)) (zbi l).length c:=λe=>by
  rw[zgc,<-e];unfold zbi;rw[<-e]
 cases k with
 |zero=>
  have d1:decide ((0:Int)<((0:Nat):Int))=false:=rfl;simp only[l156_0,r156_1,↓zkk,SS,fC,reduceCtorEq,reduceIte,qQ,h0,d1];simp only[r156_3,SS,reduceCtorEq,reduceIte,qQ,h0];rw[show zbi l=[] by unfold zbi;rw[<-ht];rfl];exact kR
 |succ k=>
  have hlt:(l.take (k+1)).length=k+1:=by rw[xQ];omega
  have g:=zal (l.take (k+1)) k (by omega) AV.junk;have g2:(l.take (k+1)).getD k 0=l.getD k 0:=by rw[qJ,qJ,List.getElem?_take];simp
  rw[g2]at g;have w1:IntKind.i64.wrap (((k+1:Nat):Int)-1)=(k:Nat):=wQ (by omega);have d1:decide ((0:Int)<((k+1:Nat):Int))=true:=dT;simp only[l156_0,r156_1,↓zcq,SS,fC,reduceCtorEq,reduceIte,qQ,qX,h0,d1,w1,g,qK,zae,hlt];refine⟨⟨by omega,by omega⟩,by omega,λhz=>?_,λhz=>?_⟩
  ·have hz:l.getD k 0=0:=by omega
   simp only[r156_2,SS,reduceCtorEq,reduceIte,qQ,qX,h0,w1,qK,zae,hlt];refine⟨by omega,⟨by omega,by omega,by omega⟩,k,_,_,by omega,⟨by omega,?_,?_,rfl⟩,.refl⟩
   ·rw[<-ht,zdg,if_pos hz]
   ·simp only[UU,qQ,reduceIte,zpq,List.take_take,zK,yI (show k<=k+1 by omega)]
  ·have hz:l.getD k 0≠0:=by omega
   simp only[r156_3,SS,reduceCtorEq,reduceIte,qQ,h0];rw[fin (by rw[<-ht,zdg,if_neg hz])];exact kR
theorem zfu{l:List Nat}(c:Option Nat)(hc:zbn l)(hl:l.length<16777216):Rt 156 [.vec (u32s l) l.length c] [] (.vec (u32s l) l.length c) []:=by
 have:=zpv l c hl
 rwa[qsw hc]at this
theorem zih(s:Bool){l:List Nat}(c:Option Nat)(hc:zbn l)(hl:l.length<=1100):∃v,zap (sgnZ s (val l)) v/\Rt 148 [.bool s,.vec (u32s l) l.length c] [] v []:=by
 have h1:=zgl hc;cases l with
 |nil=>
  refine⟨_,⟨[],some 0,zbn.nil,by simp,by rw[zgm],rfl⟩,?_⟩;have:decide (sgnZ s (val [])<0)=false:=by cases s<;>rfl
  rw[this];refine oF o148 ?_;simp only[c148,r148_0,r148_1,SS,fC,reduceCtorEq,reduceIte,qQ,zA,decide_true];simp only[r148_2,SS,reduceIte,qZ,qQ,qX];exact dR
 |cons d l=>
  refine⟨_,⟨d::l,c,hc,hl,by rw[zgm],rfl⟩,?_⟩
  have:decide (sgnZ s (val (d::l))<0)=s:=by
   have:val (d::l)≠0:=λe=>by have:=h1.1 e;simp at this
   cases s<;>simp[sgnZ]<;>omega
  rw[this];have d0:decide (((l.length+1:Nat):Int)=0)=false:=dF;refine oF o148 ?_;simp only[c148,r148_0,r148_1,SS,fC,reduceCtorEq,reduceIte,qQ,d0];simp only[r148_3,SS,reduceCtorEq,reduceIte,qZ,qQ,qX];exact dR
theorem zpw{u:Nat}(hu:u<18446744073709551616):∃l c,zbn l/\l.length<=2/\val l=u/\Rt 149 [.int .u64 (u:Int)] [] (.vec (u32s l) l.length c) []:=by
 have hd:Dig [u%4294967296,u/4294967296]:=Dig.cons (xA _ (by decide)) (Dig.cons (by omega) Dig.nil);have e:val [u%4294967296,u/4294967296]=u:=by simp only[Limb.val];omega
 have ht:=zpv [u%4294967296,u/4294967296] (some 2) (by simp);refine⟨zbi [u%4294967296,u/4294967296],some 2,zbc hd,by rw[zgc];exact zhq _ _,by rw[zbp,e],?_⟩;refine oF o149 ?_;simp only[c149,r149_0,r149_1,SS,reduceCtorEq,reduceIte,qZ,qQ,qX,zlm,wu32,zmz (show u/4294967296<4294967296 by omega)];refine⟨by omega,?_⟩;refine zfp (id:=0) (cs:=u32s [u%4294967296,u/4294967296]) (d:=2) (args0:=[.sl 0 0 2 1 (some 2)]) ht ?_ ?_ ?_ ?_
 ·rfl
 ·rfl
 ·rfl
 simp only[zaf,zac,xB,xM,SS,reduceIte,qQ];exact dR
theorem qao{m:List Nat}(c:Option Nat)(dm:Dig m)(hm:m.length<=2):Rt 183 [.vec (u32s m) m.length c] [] (.int .u64 (val m:Nat)) []:=by
 refine oF o183 ?_;simp only[c183,r183_0,r183_1,r183_2,SS,reduceCtorEq,reduceIte];refine zaj (λk E H=>∃i,i+k=m.length/\E 3= .int .u64 (val (m.take i):Nat)/\E 6= .vec (u32s m) m.length c/\E 7= .int .i64 (m.length:Nat)/\E 8= .int .i64 (i:Nat)/\H=[]) (n:=m.length) ⟨0,by omega,by rfl,by rfl,by rfl,by rfl,rfl⟩ ?_;rintro k E H ⟨i,hik,h3,h6,h7,h8,rfl⟩;refine wM ?_;have bi:=dm.getD i;cases k with
 |zero=>
  obtain rfl:i=m.length:=by omega
  have d1:decide ((m.length:Int)<(m.length:Nat))=false:=dF;simp only[l183_0,r183_3,SS,fC,reduceCtorEq,reduceIte,h7,h8,d1];simp only[r183_7,SS,reduceIte,qQ,h3,qM];exact kR
 |succ k=>
  have hi:i<m.length:=by omega
  have d1:decide ((i:Int)<(m.length:Nat))=true:=dT;have g:=zal m i hi AV.junk;have w5:=wS1 i (by omega);have w6:IntKind.i64.wrap (32*(i:Int))=((32*i:Nat):Int):=wQ (by omega);have w7:=qdc m dm hi (by omega);simp only[l183_0,r183_3,r183_4,SS,fC,reduceCtorEq,reduceIte,qQ,h6,h7,h8,d1,qK,g,zae];refine⟨⟨by omega,by omega⟩,by omega,?_⟩;simp only[r183_5,r183_6,SS,reduceIte,qQ,h3,h8,w5,w6,zbg (show m.getD i 0<18446744073709551616 by omega),w7,qK];refine⟨by omega,?_⟩;refine⟨k,_,_,by omega,⟨i+1,by omega,?_,?_,?_,?_,rfl⟩,.refl⟩<;>simp only[UU,qQ,reduceIte, *]
theorem qle(l:List Nat)(c:Option Nat)(hl:l.length<=1100):∃c',Rt 203 [.vec (u32s l) l.length c] [] (.vec (u32s l) l.length c') []:=by
 cases l with
 |nil=>exact⟨_,qww _ _⟩
 |cons d l=>
  refine⟨none,?_⟩;have hu:=zae (d::l);have hn:(d::l).length≠0:=by simp
  generalize d::l=l at*;refine oF o203 ?_;simp only[c203,r203_0,r203_1,r203_2,r203_3,SS,fC,reduceCtorEq,reduceIte,qQ,hn,if_false];have e1:l.length*1<=(u32s l).length:=by omega
  have e2:l.length<=(u32s l).length:=by omega
  simp only[zby,lenA,zea,need,xX,e2,qY,and_self,if_true,hn,if_false,getB,qS,yZ,xC,true_and,show 4*l.length*4<=2^48 by omega,show l.length<2^62 by omega,zar,zac,xO,yC,yS,yV,yB];refine⟨.inl trivial,_,rfl,?_⟩;rw[qW (by omega)];exact zmy rfl rfl
theorem znp(n:Int)(h1: -9223372036854775808<=n)(h2:n<9223372036854775808):∃v,zap n v/\Rt 62 [.int .i64 n] [] v []:=by
 obtain⟨l,c,hc,hl,hv,t1⟩:=zpw (u:=n.natAbs) (by omega);by_cases hn:n<0
 ·obtain⟨v,iv,t2⟩:=zih true c hc (by omega);rw[hv,show sgnZ true n.natAbs=n by unfold sgnZ;simp only[if_true];omega]at iv;obtain⟨l',c',_,_,_,rfl⟩:=iv;refine⟨_,⟨l',c',by assumption,by assumption,by assumption,rfl⟩,?_⟩
  have w1:IntKind.u64.wrap n=((18446744073709551616-n.natAbs:Nat):Int):=by
   simp[IntKind.wrap,IntKind.bits,IntKind.signed];omega
  have w2:IntKind.u64.wrap (0-((18446744073709551616-n.natAbs:Nat):Int))=(n.natAbs:Nat):=by
   simp[IntKind.wrap,IntKind.bits,IntKind.signed];omega
  refine oF o62 ?_;simp only[c62,r62_0,r62_1,SS,reduceCtorEq,reduceIte,qQ];refine⟨λ_=>?_,λh=>absurd hn h⟩;simp only[r62_2,SS,reduceCtorEq,reduceIte,qQ,w1,w2];refine zaa t1 ?_;simp only[SS,reduceIte,qQ];refine zaa t2 ?_;simp only[SS,reduceIte,qZ,qQ,qX];exact dR
 ·obtain⟨v,iv,t2⟩:=zih false c hc (by omega);rw[hv,show sgnZ false n.natAbs=n by unfold sgnZ;simp;omega]at iv;obtain⟨l',c',_,_,_,rfl⟩:=iv;refine⟨_,⟨l',c',by assumption,by assumption,by assumption,rfl⟩,?_⟩
  have w1:IntKind.u64.wrap n=(n.natAbs:Int):=by
   simp[IntKind.wrap,IntKind.bits,IntKind.signed];omega
  refine oF o62 ?_;simp only[c62,r62_0,r62_1,SS,reduceCtorEq,reduceIte,qQ];refine⟨λh=>absurd h hn,λ_=>?_⟩;simp only[r62_3,SS,reduceCtorEq,reduceIte,qQ,w1];refine zaa t1 ?_;simp only[SS,reduceIte,qQ];refine zaa t2 ?_;simp only[SS,reduceIte,qZ,qQ,qX];exact dR
theorem zus(z:Int):sgnZ (decide (z<0)) z.natAbs=z:=by unfold sgnZ;simp only[decide_eq_true_eq];split<;>omega
theorem qlf(z:Int):sgnZ (!decide (z<0)) z.natAbs= -z:=by unfold sgnZ;simp only[zW,decide_eq_false_iff_not];split<;>omega
theorem zna{z:Int}{a:AV}(h:zap z a):∃v,zap z v/\Rt 145 [a] [] v []:=by
 obtain⟨l,c,hc,hl,hv,rfl⟩:=h;have t1:=zfu c hc (by omega);obtain⟨c2,t2⟩:=qle l c hl;obtain⟨v,iv,t3⟩:=zih (decide (z<0)) c2 hc hl;rw[hv,zus]at iv;obtain⟨l',c',_,_,_,rfl⟩:=iv;refine⟨_,⟨l',c',by assumption,by assumption,by assumption,rfl⟩,?_⟩;refine oF o145 ?_;simp only[c145,r145_0,r145_1,SS,fC,reduceCtorEq,reduceIte,qZ,qQ,qX];refine zaa t1 ?_;simp only[SS,reduceIte,qQ];refine zaa t2 ?_;simp only[SS,reduceIte,qQ];refine zaa t3 ?_;simp only[SS,reduceIte,qZ,qQ,qX];refine⟨rfl,?_⟩;exact dR
theorem iNeg{z:Int}{a:AV}(h:zap z a):∃v,zap (-z) v/\Rt 190 [a] [] v []:=by
 obtain⟨l,c,hc,hl,hv,rfl⟩:=h;have t1:=zfu c hc (by omega);obtain⟨c2,t2⟩:=qle l c hl;obtain⟨v,iv,t3⟩:=zih (!decide (z<0)) c2 hc hl;rw[hv,qlf]at iv;obtain⟨l',c',_,_,_,rfl⟩:=iv;refine⟨_,⟨l',c',by assumption,by assumption,by assumption,rfl⟩,?_⟩;refine oF o190 ?_;simp only[c190,r190_0,r190_1,SS,fC,reduceCtorEq,reduceIte,qZ,qQ,qX];refine zaa t1 ?_;simp only[SS,reduceIte,qQ];refine zaa t2 ?_;simp only[SS,reduceIte,qQ];refine zaa t3 ?_;simp only[SS,reduceIte,qZ,qQ,qX];refine⟨rfl,?_⟩;exact dR
theorem zpx{z:Int}{a:AV}(h:zap z a):Rt 69 [a] [] (.int .i64 z.sign) []:=by
 obtain⟨l,c,hc,hl,hv,rfl⟩:=h;have t1:=zfu c hc (by omega);have h1:=zgl hc;rw[hv]at h1;refine oF o69 ?_;simp only[c69,r69_0,r69_1,SS,fC,reduceCtorEq,reduceIte,qZ,qQ,qX];refine zaa t1 ?_;simp only[SS,reduceIte,qQ];refine⟨λh0=>?_,λh0=>?_⟩
 ·obtain rfl:z=0:=by
   have:=h1.2 (List.length_eq_zero_iff.1 (by omega));omega
  simp only[r69_2,SS];exact dR
 ·have:z≠0:=by
   rintro rfl;have:=h1.1 rfl;rw[this]at h0;exact h0 rfl
  simp only[r69_3,SS,fC,reduceIte,qZ,qQ,qX];refine⟨λh2=>?_,λh2=>?_⟩
  ·rw[qT h2];simp only[r69_4,SS];exact dR
  ·rw[xD (by omega)];simp only[r69_5,SS];exact dR
def RowC:List Int->List AV->Prop
 | [],[]=>True
 |z::r,u::v::cs=>zap z (.agg [u,v])/\RowC r cs
 |_,_=>False
theorem zcz:∀{r:List Int} {cs:List AV},RowC r cs->cs.length=r.length*2
 | [],[],_=>rfl
 |_::_,_::_::_,h=>by have:=zcz h.2;simp[this];omega
 | [],_::_,h=>h.elim
 |_::_,[],h=>h.elim
 |_::_,[_],h=>h.elim
theorem zfi:∀{r:List Int} {cs:List AV},RowC r cs->∀j,j<r.length->∃u v,(cs.drop (j*2)).take 2=[u,v]/\zap (r.getD j 0) (.agg [u,v])
 | [],[],_,j,hj=>absurd hj (by simp)
 |z::r,u::v::cs,h,0,_=>⟨u,v,rfl,h.1⟩
 |z::r,u::v::cs,h,j+1,hj=>by
  obtain⟨a,b,h1,h2⟩:=zfi h.2 j (by simpa using hj);refine⟨a,b,?_,by simpa using h2⟩;rw[show(j+1)*2=j*2+2 by omega];exact h1
 | [],_::_,h,_,_=>h.elim
 |_::_,[],h,_,_=>h.elim
 |_::_,[_],h,_,_=>h.elim
theorem zut:∀{r:List Int} {cs:List AV},RowC r cs->∀j z u v,j<r.length->zap z (.agg [u,v])->RowC (r.set j z) (setL cs (j*2) [u,v])
 | [],[],_,j,_,_,_,hj,_=>absurd hj (by simp)
 |z::r,u::v::cs,h,0,y,a,b,_,hy=>⟨hy,h.2⟩
 |z::r,u::v::cs,h,j+1,y,a,b,hj,hy=>by
  have:=zut h.2 j y a b (by simpa using hj) hy;rw[show(j+1)*2=j*2+2 by omega];exact⟨h.1,this⟩
 | [],_::_,h,_,_,_,_,_,_=>h.elim
 |_::_,[],h,_,_,_,_,_,_=>h.elim
 |_::_,[_],h,_,_,_,_,_,_=>h.elim
theorem zlo:∀{r:List Int} {cs:List AV},RowC r cs->∀z u v,zap z (.agg [u,v])->RowC (r++[z]) (cs++[u,v])
 | [],[],_,z,u,v,h=>⟨h,trivial⟩
 |_::_,_::_::_,h,z,u,v,hz=>⟨h.1,zlo h.2 z u v hz⟩
 | [],_::_,h,_,_,_,_=>h.elim
 |_::_,[],h,_,_,_,_=>h.elim
 |_::_,[_],h,_,_,_,_=>h.elim
theorem qdd:∀{r:List Int} {cs:List AV},RowC r cs->∀m d H,cs.mapM (frzI m H (d+1))=some cs:=by
 intro r cs h m d H;refine zoe (λa ha=>?_)
 induction r generalizing cs with
 |nil=>
  cases cs with
  |nil=>simp at ha
  |cons _ _=>exact h.elim
 |cons z r ih=>
  match cs,h with
  |u::v::cs,h=>
   obtain⟨⟨l,c,_,_,_,e⟩,h2⟩:=h;injection e with e
   injection e with e1 e2
   injection e2 with e2 _
   rcases List.mem_cons.1 ha with h | h
   ·rw[h,e1];rfl
   ·rcases List.mem_cons.1 h with h | h
    ·rw[h,e2];rfl
    ·exact ih h2 h
theorem qap:∀{r:List Int} {cs:List AV},RowC r cs->qU cs=true:=by
 intro r
 induction r with
 |nil=>
  intro cs h;cases cs with
  |nil=>rfl
  |cons _ _=>exact h.elim
 |cons z r ih=>
  intro cs h
  match cs,h with
  |u::v::cs,h=>
   obtain⟨⟨l,c,_,_,_,e⟩,h2⟩:=h;injection e with e
   injection e with e1 e2
   injection e2 with e2 _
   rw[e1,e2]
   show qU cs=true
   exact ih h2
theorem zix:∀{r:List Int} {cs:List AV},RowC r cs->AV.scalL cs=true:=by
 intro r
 induction r with
 |nil=>
  intro cs h;cases cs with
  |nil=>rfl
  |cons _ _=>exact h.elim
 |cons z r ih=>
  intro cs h
  match cs,h with
  |u::v::cs,h=>
   obtain⟨⟨l,c,_,_,_,e⟩,h2⟩:=h;injection e with e
   injection e with e1 e2
   injection e2 with e2 _
   rw[e1,e2]
   show AV.scalL cs=true
   exact ih h2
def zgn(r:List Int)(a:AV):Prop:= ∃cs c,a= .vec cs r.length c/\RowC r cs
def MatV(M:List (List Int))(a:AV):Prop:= ∃rows c,a= .vec rows M.length c/\rows.length=M.length/\∀i,i<M.length->zgn (M.getD i []) (rows.getD i .junk)
def qlg(M:List (List Int)):Prop:=1<=M.length/\M.length<=16/\∀i,i<M.length->1<=(M.getD i []).length/\(M.getD i []).length<=16/\(M.getD i []).length=(M.getD 0 []).length
theorem qde{M:List (List Int)}{a:AV}(h:MatV M a)(hs:qlg M):Rt 166 [a] [] (.tup [.int .i64 (M.length:Nat),.int .i64 ((M.getD 0 []).length:Nat),.bool true]) []:=by
 obtain⟨rows,c,rfl,hl,hr⟩:=h;obtain⟨h1,h2,h3⟩:=hs;have d1:decide ((M.length:Int)<1)=false:=dF;have d2:decide ((16:Int)<(M.length:Nat))=false:=dF;obtain⟨cs0,c0,e0,r0⟩:=hr 0 (by omega);refine oF o166 ?_;simp only[c166,r166_0,r166_1,SS,fC,reduceCtorEq,reduceIte,qQ,d1,d2];simp only[r166_3,SS,reduceCtorEq,reduceIte,qQ];refine zaj (λk E H=>∃i,i+k=M.length/\E 0= .vec rows M.length c/\E 15= .vec rows M.length c/\E 16= .int .i64 (M.length:Nat)/\E 17= .int .i64 (i:Nat)/\H=[]) (n:=M.length) ⟨0,by omega,by rfl,by rfl,by rfl,by rfl,rfl⟩ ?_;rintro k E H ⟨i,hik,h0,h15,h16,h17,rfl⟩;refine wM ?_;simp only[l166_0,r166_4,SS,reduceCtorEq,reduceIte,h16,h17];refine⟨λhlt=>?_,λhge=>?_⟩
 ·obtain⟨k,rfl⟩:∃k',k=k'+1:=⟨k-1,by omega⟩
  obtain⟨csi,ci,ei,ri⟩:=hr i (by omega);obtain⟨g1,g2,g3⟩:=h3 i (by omega);have d3:decide (((M.getD i []).length:Int)<1)=false:=dF;have d4:decide ((16:Int)<((M.getD i []).length:Nat))=false:=dF;have d5:decide (((M.getD i []).length:Int)≠((M.getD 0 []).length:Nat))=false:=dF;have w5:=wS1 i (by omega);simp only[r166_5,r166_6,r166_8,SS,fC,reduceCtorEq,reduceIte,qQ,h0,h15,h17,qK,Int.toNat_zero,ei,e0,hl,d3,d4,d5,w5];refine⟨⟨by omega,by omega⟩,by omega,⟨by omega,by omega⟩,by omega,?_⟩;refine⟨k,_,_,by omega,⟨i+1,by omega,?_,?_,?_,?_,rfl⟩,.refl⟩<;>simp only[UU,qQ,reduceIte, *]
 ·simp only[r166_9,SS,fC,reduceCtorEq,reduceIte,qQ,h0,Int.toNat_zero,e0,hl];refine⟨⟨by omega,by omega⟩,by omega,rfl,?_⟩;exact dR
theorem zbm{H X:Heap}{i:Nat}(h:i<H.length):getB (H++X) i=getB H i:=by
 unfold getB;rw[qN h]
theorem zxt{H:Heap}{cs:List AV}{X:Heap}:getB (H++some cs::X) H.length=some cs:=by
 unfold getB;rw[qA (qY _)];simp
theorem zai{H:Heap}{i j:Nat}{x:Option (List AV)}(h:i≠j):getB (H.set i x) j=getB H j:=by
 unfold getB;rw[xG h]
theorem zaw{H:Heap}{i:Nat}{cs:List AV}(h:i<H.length):getB (H.set i (some cs)) i=some cs:=by
 unfold getB;rw[yU h]
theorem zam{H:Heap}{i:Nat}{cs:List AV}(h:getB H i=some cs):i<H.length:=ziu h
def zcv(n:Nat)(p:Nat×Option Nat):AV:= .sl p.1 0 n 2 p.2
structure MatH(H:Heap)(o:Nat)(ps:List (Nat×Option Nat))(n:Nat)(M:List (List Int)):Prop where
 outer:getB H o=some (ps.map (zcv n))
 len:ps.length=M.length
 cols:∀i,i<M.length->(M.getD i []).length=n
 rows:∀i,i<M.length->∃cs,getB H (ps.getD i (0,none)).1=some cs/\RowC (M.getD i []) cs
 nodup:(o::ps.map (·.1)).Nodup
def qaq(H:Heap)(r:List Int)(a:AV)(bad:List Nat):Prop:=
 (r=[]/\a= .vec [] 0 (some 0))\/(r≠[]/\∃id cs,a= .sl id 0 r.length 2 none/\getB H id=some cs/\RowC r cs/\id∉bad)
theorem jaj{H:Heap}{r:List Int}{a:AV}{bad:List Nat}{z:Int}{u v:AV}{t fr n0:Nat}(h:qaq H r a bad)(hz:zap z (.agg [u,v]))(ht:getB H t=some [u,v])(hr:r.length<1100)(hfr:fr∉bad)(hfr2:H.length=fr):
  ∃e rd cs,zby n0 fr H 2 32 a (.sl t 0 1 2 (some 1))=some (.sl fr 0 (r.length+1) 2 none,e,rd)/\RowC (r++[z]) cs/\getB (zac e (H++[none])) fr=some cs/\(zac e (H++[none])).length=H.length+1/\
   (∀i∈bad,i<H.length->getB (zac e (H++[none])) i=getB H i)/\(∀i∈keys e,i=fr\/∃n c,a= .sl i 0 n 2 c)/\(∀i∈rd,i=t\/∃n c,a= .sl i 0 n 2 c):=by
 have hs:AV.scalL [u,v]=true:=zix (r:=[z]) (cs:=[u,v]) ⟨hz,trivial⟩
 have hel:zea H 2 1 (.sl t 0 1 2 (some 1))=some ([u,v],[t]):=by
  simp[zea,ht,need]
 rcases h with⟨rfl,rfl⟩ | ⟨hne,id,cs,rfl,hg,hc,hb⟩
 ·refine⟨[(fr,some [u,v])],[t],[u,v],?_,⟨hz,trivial⟩,?_,?_,?_,?_,?_⟩
  ·simp only[zby,lenA,xX,hel];simp[need]
  ·simp only[zac];rw[qB _ _ (by omega),<-hfr2,yA];exact zxt
  ·simp[zac]
  ·intro i hi hlt;simp only[zac];rw[zai (by intro e;exact hfr (e ▸ hi)),zbm hlt]
  ·intro i hi;simp[keys]at hi;exact .inl hi
  ·intro i hi;simp at hi;exact .inl hi
 ·have hlt:=zam hg;have hl:=zcz hc;refine⟨[(id,none),(fr,some (cs++[u,v]))],[id,t],cs++[u,v],?_,zlo hc z u v hz,?_,?_,?_,?_,?_⟩
  ·have e1:¬((none:Option Nat)=some r.length):=by simp
   have e2:id≠fr:=by omega
   have b1:4*(r.length+1)*32<=2^48:=by
    have:(2:Nat)^48=281474976710656:=rfl;omega
   have b2:r.length+1<2^62:=by
    have:(2:Nat)^62=4611686018427387904:=rfl;omega
   simp only[zby,lenA,xX,hel,hg,need,yM,if_false,true_and,hl,qY,b1,b2,and_self,if_true,e1,yZ,hs,e2,ne_eq,not_false_eq_true];rw[qW (by omega)]
  ·simp only[zac];rw[zaw (by simp;omega)]
  ·simp[zac]
  ·intro i hi hlt2;simp only[zac];rw[zai (by intro e;exact hfr (e ▸ hi)),zai (by intro e;exact hb (e ▸ hi)),zbm hlt2]
  ·intro i hi;simp[keys]at hi;rcases hi with h | h
   ·exact .inr ⟨_,_,by rw[h]⟩
   ·exact .inl h
  ·intro i hi;simp at hi;rcases hi with h | h
   ·exact .inr ⟨_,_,by rw[h]⟩
   ·exact .inl h
theorem zju{α:Type}{H:List α}{x y:α}:(H++[x]).set H.length y=H++[y]:=by
 rw[qB _ _ (qY _),yA];rfl
theorem zba{H:Heap}{cs:List AV}:getB (H++[some cs]) H.length=some cs:=zxt
def zuu(i:Nat)(st:Heap×AV)(p:List AV×List AV):Heap×AV:=
 match zby 0 (st.1.length+1+1) (st.1++[some p.1]++[some p.2]) 2 32 st.2 (.sl (st.1.length+1) 0 1 2 (some 1))with
 |some (v,e,_)=>((zac e (st.1++[some p.1]++[some p.2]++[none])).set 0 (some (((getB (zac e (st.1++[some p.1]++[some p.2]++[none])) 0).getD []).set i v)),v)
 |none=>st
structure CpOK(i:Nat)(oc:List AV)(ids:List Nat)(H0:Heap)(r:List Int)(st:Heap×AV):Prop where
 part:qaq st.1 r st.2 (0::ids)
 outer:getB st.1 0=some (oc.set i st.2)
 keep:∀id∈ids,getB st.1 id=getB H0 id
 len:H0.length<=st.1.length
theorem qdf{i:Nat}{oc:List AV}{ids:List Nat}{H0:Heap}{r:List Int}{st:Heap×AV}{x:List AV}{u v:AV}{z:Int}(hids:∀id∈ids,id<H0.length/\id≠0)(h:CpOK i oc ids H0 r st)(hi:i<oc.length)(hz:zap z (.agg [u,v]))(hr:r.length<1100):
  CpOK i oc ids H0 (r++[z]) (zuu i st (x,[u,v]))/\∃e rd,zby 0 (st.1.length+1+1) (st.1++[some x]++[some [u,v]]) 2 32 st.2 (.sl (st.1.length+1) 0 1 2 (some 1))=some ((zuu i st (x,[u,v])).2,e,rd)/\
   getB (zac e (st.1++[some x]++[some [u,v]]++[none])) 0=some (oc.set i st.2)/\(zuu i st (x,[u,v])).1=(zac e (st.1++[some x]++[some [u,v]]++[none])).set 0 (some (oc.set i (zuu i st (x,[u,v])).2))/\∃id n,(zuu i st (x,[u,v])).2= .sl id 0 n 2 none:=by
 obtain⟨hp,hg,hkeep,hlen⟩:=h;have h0lt:0<st.1.length:=zam hg;have hl2:(st.1++[some x]++[some [u,v]]).length=st.1.length+1+1:=by simp
 have hk2:∀y,y<st.1.length->getB (st.1++[some x]++[some [u,v]]) y=getB st.1 y:=by
  intro y hy;rw[zY,zbm hy]
 have hp2:qaq (st.1++[some x]++[some [u,v]]) r st.2 (0::ids):=by
  rcases hp with⟨h1,h2⟩ | ⟨h1,id,cs',h2,h3,h4,h5⟩
  ·exact .inl ⟨h1,h2⟩
  ·exact .inr ⟨h1,id,cs',h2,by rw[hk2 _ (zam h3)];exact h3,h4,h5⟩
 have ht2:getB (st.1++[some x]++[some [u,v]]) (st.1.length+1)=some [u,v]:=by
  have:st.1.length+1=(st.1++[some x]).length:=by simp
  rw[this];exact zba
 have hfb:st.1.length+1+1∉0::ids:=by
  intro hm;rcases List.mem_cons.1 hm with h | h
  ·omega
  ·have:=(hids _ h).1;omega
 obtain⟨e,rd,cs',hap,hrow,hfr,hl3,hsame,hke,hrd⟩:=jaj (n0:=0) (fr:=st.1.length+1+1) hp2 hz ht2 hr hfb hl2
 have g3:getB (zac e (st.1++[some x]++[some [u,v]]++[none])) 0=some (oc.set i st.2):=by
  rw[hsame 0 (by simp) (by omega),hk2 0 h0lt];exact hg
 have hc:zuu i st (x,[u,v])=((zac e (st.1++[some x]++[some [u,v]]++[none])).set 0 (some (oc.set i (.sl (st.1.length+1+1) 0 (r.length+1) 2 none))),.sl (st.1.length+1+1) 0 (r.length+1) 2 none):=by
  unfold zuu;rw[hap];simp only[g3,Option.getD_some,zU]
 rw[hc];refine⟨⟨.inr ⟨by simp,_,cs',by simp,?_,hrow,hfb⟩,?_,?_,?_⟩,e,rd,hap,g3,rfl,_,_,rfl⟩
 ·show getB (List.set _ 0 _) _=_
  rw[zai (by omega)];exact hfr
 ·show getB (List.set _ 0 _) _=_
  rw[zaw (by omega)]
 ·intro id hid
  show getB (List.set _ 0 _) _=_
  have:=hids id hid;rw[zai (by omega),hsame id (by simp[hid]) (by omega),hk2 id (by omega)];exact hkeep id hid
 ·show _<=(List.set _ 0 _).length
  rw[qH];omega
def zuv:List Int->List AV->List (List AV×List AV)->Prop
 | [],[],[]=>True
 |z::r,a::b::cs,(x,y)::l=>x=[a,b]/\(∃u v,y=[u,v]/\zap z (.agg [u,v]))/\zap z (.agg [a,b])/\Rt 160 [.agg x] [] (.agg y) []/\zuv r cs l
 |_,_,_=>False
theorem qsx:∀{r:List Int} {cs:List AV},RowC r cs->∃l,zuv r cs l:=by
 intro r
 induction r with
 |nil=>
  intro cs h;cases cs with
  |nil=>exact⟨[],trivial⟩
  |cons _ _=>exact h.elim
 |cons z r ih=>
  intro cs h
  match cs,h with
  |a::b::cs,h=>
   obtain⟨l,hl⟩:=ih h.2;obtain⟨w,hw,t⟩:=zsk h.1;have hw0:=hw;obtain⟨lw,cw,_,_,_,rfl⟩:=hw0;exact⟨([a,b],_)::l,rfl,⟨_,_,rfl,hw⟩,h.1,t,hl⟩
theorem zpy:∀{r:List Int} {cs:List AV} {l:List (List AV×List AV)},zuv r cs l->l.length=r.length
 | [],[],[],_=>rfl
 |_::_,_::_::_,(_,_)::_,h=>by have:=zpy h.2.2.2.2;simp[this]
 | [],[],_::_,h=>h.elim
 | [],_::_,_,h=>by cases ‹List (List AV×List AV)› <;> exact h.elim
 |_::_,[],_,h=>by cases ‹List (List AV×List AV)› <;> exact h.elim
 |_::_,[_],_,h=>by cases ‹List (List AV×List AV)› <;> exact h.elim
 |_::_,_::_::_,[],h=>h.elim
theorem zxu:∀{r:List Int} {cs:List AV} {l:List (List AV×List AV)},zuv r cs l->∀j,j<r.length->∃a b u v,(cs.drop (j*2)).take 2=[a,b]/\l[j]?=some ([a,b],[u,v])/\zap (r.getD j 0) (.agg [a,b])/\zap (r.getD j 0) (.agg [u,v])/\
  Rt 160 [.agg [a,b]] [] (.agg [u,v]) []:=by
 intro r
 induction r with
 |nil=>intro cs l _ j hj;exact absurd hj (by simp)
 |cons z r ih=>
  intro cs l h j hj
  match cs,l,h with
  |a::b::cs,(x,y)::l,h=>
   obtain⟨rfl,⟨u,v,rfl,hu⟩,ha,t,hl⟩:=h;cases j with
   |zero=>exact⟨a,b,u,v,rfl,rfl,ha,hu,t⟩
   |succ j=>
    obtain⟨a',b',u',v',h1,h2,h3,h4,h5⟩:=ih hl j (by simpa using hj);refine⟨a',b',u',v',?_,by simpa using h2,by simpa using h3,by simpa using h4,h5⟩;rw[show(j+1)*2=j*2+2 by omega];exact h1
def zrs(i:Nat)(st:Heap×AV)(l:List (List AV×List AV)):Heap×AV:=l.foldl (zuu i) st
theorem zsm{α β:Type}(f:β->α->β)(b:β)(l:List α)(j:Nat)(x:α)(h:l[j]?=some x):(l.take (j+1)).foldl f b=f ((l.take j).foldl f b) x:=by
 rw[yW,h];simp
theorem qdg{i:Nat}{oc:List AV}{ids:List Nat}{H0:Heap}{r:List Int}{cs:List AV}{l:List (List AV×List AV)}(hids:∀id∈ids,id<H0.length/\id≠0)(h00:getB H0 0=some oc)(hi:i<oc.length)(hoci:oc.getD i .junk= .vec [] 0 (some 0))
  (hp:zuv r cs l) (hr:r.length<1100):∀j,j<=r.length->CpOK i oc ids H0 (r.take j) (zrs i (H0,.vec [] 0 (some 0)) (l.take j)):=by
 intro j
 induction j with
 |zero=>
  intro _;refine⟨.inl ⟨rfl,rfl⟩,?_,λ_ _=>rfl,qY _⟩
  show getB H0 0=some (oc.set i (.vec [] 0 (some 0)))
  rw[h00]
  have:oc.set i (.vec [] 0 (some 0))=oc:=by
   rw[<-hoci,qJ,qV hi];simp
  rw[this]
 |succ j ih=>
  intro hj;obtain⟨a,b,u,v,_,h2,_,h4,_⟩:=zxu hp j (by omega);have:=(qdf (x:=[a,b]) hids (ih (by omega)) hi h4 (by rw[xQ];omega)).1;unfold zrs at this ⊢;rw[zsm _ _ _ _ _ h2]
  have htk:r.take j++[r.getD j 0]=r.take (j+1):=by
   rw[yW,qJ,qV (by omega)];rfl
  rw[htk]at this;exact this
theorem qsy{r:List Int}{cs:List AV}{c:Option Nat}{l:List (List AV×List AV)}(hpr:zuv r cs l)(hr:RowC r cs)(hn:r.length<=16){arg:AV}{i N:Nat}{oc:List AV}(hoc:oc.length=N)(hi:i<N)(hN:N<=16){ids:List Nat}{H0:Heap}(h00:getB H0 0=some oc)
  (hoci:oc.getD i .junk= .vec [] 0 (some 0)) (hids:∀id∈ids,id<H0.length/\id≠0) {v10:AV} {E:Env} {Q:Post} (e0:E 0=arg) (e3:E 3= .sl 0 0 N 1 (some N)) (e4:E 4= .int .i64 (i:Nat)) (e10:E 10=v10) (e11:E 11= .int .i64 (N:Nat))
  (e12:E 12= .int .i64 (i:Nat)) (e18:E 18= .vec cs r.length c) (e19:E 19= .int .i64 (r.length:Nat)) (e20:E 20= .int .i64 0)
  (hQ:∀E',E' 0=arg->E' 3= .sl 0 0 N 1 (some N)->E' 10=v10->E' 11= .int .i64 (N:Nat)->E' 12= .int .i64 (i:Nat)->Q (.exit 2) E' (zrs i (H0,.vec [] 0 (some 0)) l).1):
  Wg 0 38 (.loop l72_1) E H0 Q:=by
 have hall:=qdg hids h00 (by omega) hoci hpr (by omega)
 refine zaj (λk E H=>∃j,j+k=r.length/\H=(zrs i (H0,.vec [] 0 (some 0)) (l.take j)).1/\E 0=arg/\E 3= .sl 0 0 N 1 (some N)/\E 4= .int .i64 (i:Nat)/\E 10=v10/\
  E 11= .int .i64 (N:Nat)/\E 12= .int .i64 (i:Nat)/\E 18= .vec cs r.length c/\E 19= .int .i64 (r.length:Nat)/\E 20= .int .i64 (j:Nat)) (n:=r.length) ⟨0,by omega,rfl,e0,e3,e4,e10,e11,e12,e18,e19,e20⟩ ?_
 rintro k E H ⟨j,hjk,hH,e0,e3,e4,e10,e11,e12,e18,e19,e20⟩;refine wM ?_;simp only[l72_1,r72_6,SS,reduceIte,e19,e20];refine⟨λhlt=>?_,λhge=>?_⟩
 ·obtain⟨k,rfl⟩:∃k',k=k'+1:=⟨k-1,by omega⟩
  obtain⟨u,v,x,y,hu,hl,hz,hw,tn⟩:=zxu hpr j (by omega);have hok:=hall j (by omega);obtain⟨hok2,e,rd,hap,g3,hH4,idn,nn,hv2⟩:=qdf (x:=[u,v]) hids hok (by omega) hw (by rw[xQ];omega);have hnext:zrs i (H0,.vec [] 0 (some 0)) (l.take (j+1))=zuu i (zrs i (H0,.vec [] 0 (some 0)) (l.take j)) ([u,v],[x,y]):=zsm _ _ _ _ _ hl;generalize zrs i (H0,.vec [] 0 (some 0)) (l.take j)=st at*;subst hH;obtain⟨hp,hg,hkeep,hlen⟩:=hok;have hscz:AV.scalL [u,v]=true:=zix (r:=[r.getD j 0]) (cs:=[u,v]) ⟨hz,trivial⟩;obtain⟨lz,cz,_,_,_,ez⟩:=hz;injection ez with ez
  injection ez with ez1 ez2
  injection ez2 with ez2 _
  obtain⟨lw,cw,_,_,_,ew⟩:=hw;injection ew with ew
  injection ew with ew1 ew2
  injection ew2 with ew2 _
  subst ez1 ez2 ew1 ew2;have hcl:=zcz hr;have h0lt:0<st.1.length:=zam hg;have w5:=wS1 j (by omega);simp only[r72_7,SS,reduceIte,qZ,qQ,qX,e18,e20,qK,hcl,hu,zba,zju];refine⟨⟨by omega,by omega⟩,by omega,?_⟩;have g0:getB (st.1++[some [AV.bool (decide (r.getD j 0<0)),AV.vec (u32s lz) lz.length cz]]) 0=some (oc.set i st.2):=by rw[zbm h0lt];exact hg
  have ga:(oc.set i st.2).getD i AV.junk=st.2:=by
   rw[qJ,yU (by omega)];rfl
  simp only[r72_8,SS,fC,reduceIte,qZ,qQ,qX,e3,e4,qK,g0,ga,qH,hoc,zba];refine⟨⟨by omega,by omega⟩,by omega,?_⟩;refine zaa tn ?_;simp only[SS,reduceIte,qZ,qQ,qX,zcy];rw[hap];simp only[SS,g3,qK,qH,hoc,hv2];refine⟨⟨by omega,by omega⟩,by omega,by simp[dynB,zxd],?_⟩;simp only[r72_9,SS,reduceIte,qQ,e20,w5];refine⟨k,_,_,by omega,⟨j+1,by omega,?_,?_,?_,?_,?_,?_,?_,?_,?_,?_⟩,.refl⟩
  ·rw[hnext,hH4,hv2,zU]
  all_goals simp only[UU,qQ,reduceIte, *]
 ·have hk:j=r.length:=by omega
  subst hk;have hl:=zpy hpr;rw[qW (by omega)]at hH;rw[hH];exact hQ _ (by simp only[UU,qQ, *]) (by simp only[UU,qQ, *]) (by simp only[UU,qQ, *]) (by simp only[UU,qQ, *]) (by simp only[UU,qQ, *])
abbrev nilV:AV:= .vec [] 0 (some 0)
def cpM(N:Nat)(ls:List (List (List AV×List AV))):Nat->Heap
 |0=>[some (List.replicate N nilV)]
 |i+1=>(zrs i (cpM N ls i,nilV) (ls.getD i [])).1
structure CpM(N n:Nat)(M:List (List Int))(H:Heap)(i:Nat)(ps:List (Nat×Option Nat)):Prop where
 len:ps.length=i
 outer:getB H 0=some (ps.map (zcv n)++List.replicate (N-i) nilV)
 rows:∀i',i'<i->∃cs,getB H (ps.getD i' (0,none)).1=some cs/\RowC (M.getD i' []) cs
 nodup:(0::ps.map (·.1)).Nodup
 lt:∀p∈ps,p.1<H.length
theorem qwy{N n i:Nat}{ps:List (Nat×Option Nat)}(hl:ps.length=i)(hi:i<N):(ps.map (zcv n)++List.replicate (N-i) nilV).getD i .junk=nilV:=by
 rw[qJ,qA (by simp;omega),yJ,if_pos (by simp;omega)];rfl
theorem qlh{N n i:Nat}{M:List (List Int)}{H:Heap}{ps:List (Nat×Option Nat)}(h:CpM N n M H i ps):∀id∈ps.map (·.1),id<H.length/\id≠0:=by
 intro id hid;have hn:=h.nodup;rw[qC]at hn;refine⟨?_,λe=>hn.1 (e ▸ hid)⟩;obtain⟨p,hp,rfl⟩:=List.mem_map.1 hid;exact h.lt p hp
theorem jfa{N n:Nat}{M:List (List Int)}{cf:Nat->List AV}{ls:List (List (List AV×List AV))}(hn:1<=n/\n<=16)(hc:∀i,i<N->(M.getD i []).length=n)(hls:∀i,i<N->zuv (M.getD i []) (cf i) (ls.getD i [])):
  ∀i,i<=N->∃ps,CpM N n M (cpM N ls i) i ps:=by
 intro i
 induction i with
 |zero=>
  intro _;refine⟨[],rfl,?_,λ_ h=>absurd h (by omega),by simp,by simp⟩;simp[cpM,getB]
 |succ i ih=>
  intro hi;obtain⟨ps,h⟩:=ih (by omega);have hri:=hc i (by omega);have hok:=qdg (qlh h) h.outer (by simp[h.len];omega) (qwy h.len (by omega)) (hls i (by omega)) (by omega) (M.getD i []).length (qY _);rw[qM,qW (by rw[zpy (hls i (by omega))];omega)]at hok;obtain⟨hp,hg,hkeep,hlen⟩:=hok;rcases hp with⟨h1,_⟩ | ⟨_,id,cs,hid,hb,hrow,hnm⟩
  ·rw[h1]at hri;simp at hri;omega
  ·rw[hri]at hid;have hnm2:id≠0/\id∉ps.map (·.1):=⟨λe=>hnm (by simp[e]),λhm=>hnm (by simp only[yQ];exact .inr hm)⟩
   refine⟨ps++[(id,none)],by simp[h.len],?_,?_,?_,?_⟩
   ·show getB (zrs i (cpM N ls i,nilV) (ls.getD i [])).1 0=_
    rw[hg,hid]
    have e:List.replicate (N-i) nilV=nilV::List.replicate (N-(i+1)) nilV:=by
     rw[<-xT];congr 1;omega
    rw[e,qB _ _ (by simp[h.len])];simp[h.len,zcv]
   ·intro i' hi';show∃cs,getB (zrs i (cpM N ls i,nilV) (ls.getD i [])).1 _=some cs/\_
    rcases xV i' i with hlt | hge
    ·obtain⟨cs',h1,h2⟩:=h.rows i' hlt;refine⟨cs',?_,h2⟩
     have e:(ps++[(id,none)]).getD i' (0,none)=ps.getD i' (0,none):=by
      rw[qJ,qN (by rw[h.len];exact hlt),qJ]
     rw[e,hkeep _ (by
      rw[qJ,qV (by rw[h.len];exact hlt)];exact List.mem_map.2 ⟨_,zB _,rfl⟩)]
     exact h1
    ·have e:i'=i:=by omega
     subst e;refine⟨cs,?_,hrow⟩
     have e:(ps++[(id,(none:Option Nat))]).getD i' (0,none)=(id,none):=by
      rw[qJ,qA (by rw[h.len];exact qY _),h.len,yA];rfl
     rw[e];exact hb
   ·rw[List.map_append];have hn0:=h.nodup;rw[qC]at hn0 ⊢;refine⟨?_,?_⟩
    ·intro hm;rcases List.mem_append.1 hm with hm | hm
     ·exact hn0.1 hm
     ·simp at hm;exact hnm2.1 hm.symm
    ·rw[List.nodup_append];refine⟨hn0.2,by simp,?_⟩;intro x hx y hy;simp at hy;subst hy;intro e;exact hnm2.2 (e ▸ hx)
   ·intro p hp;rcases List.mem_append.1 hp with hp | hp
    ·have:=h.lt p hp;exact qO this hlen
    ·simp at hp;subst hp;exact zam hb
theorem jfb{M:List (List Int)}{a:AV}{n:Nat}(h:MatV M a)(hn:1<=n/\n<=16)(hN:M.length<=16)(hc:∀i,i<M.length->(M.getD i []).length=n):
  ∃ps H',MatH H' 0 ps n M/\Rt 72 [a] [] (.sl 0 0 M.length 1 (some M.length)) H':=by
 obtain⟨rows,c,rfl,hl,hr⟩:=h
 have hex:∀i,i<M.length->∃l cs c,rows.getD i .junk= .vec cs (M.getD i []).length c/\RowC (M.getD i []) cs/\zuv (M.getD i []) cs l:=by
  intro i hi;obtain⟨cs,c,h1,h2⟩:=hr i hi;obtain⟨l,hl⟩:=qsx h2;exact⟨l,cs,c,h1,h2,hl⟩
 have hch:∃(ls:List (List (List AV×List AV))) (cf:Nat->List AV),∀i,i<M.length->(∃c,rows.getD i .junk= .vec (cf i) (M.getD i []).length c)/\RowC (M.getD i []) (cf i)/\zuv (M.getD i []) (cf i) (ls.getD i []):=by
  refine⟨(List.range M.length).map λi=>if h:i<M.length then Classical.choose (hex i h)else[],λi=>if h:i<M.length then Classical.choose (Classical.choose_spec (hex i h))else[],λi hi=>?_⟩;obtain⟨c,h1,h2,h3⟩:=Classical.choose_spec (Classical.choose_spec (hex i hi))
  have e:((List.range M.length).map λi=>if h:i<M.length then Classical.choose (hex i h)else[]).getD i []=Classical.choose (hex i hi):=by
   rw[qJ,xN,List.getElem?_range hi];simp[hi]
  rw[e];simp only[hi,dif_pos];exact⟨⟨c,h1⟩,h2,h3⟩
 obtain⟨ls,cf,hls⟩:=hch;have hall:=jfa (N:=M.length) (cf:=cf) hn hc (λi hi=>(hls i hi).2.2);obtain⟨ps,hps⟩:=hall M.length (qY _);refine⟨ps,cpM M.length ls M.length,⟨?_,hps.len,hc,hps.rows,hps.nodup⟩,?_⟩
 ·have:=hps.outer;rw[yA,xB,xM]at this;exact this
 refine oF o72 ?_;simp only[c72,r72_0,r72_1,SS,reduceCtorEq,reduceIte,qQ,qK];refine⟨by omega,⟨by omega,by omega,by omega,by omega⟩,?_⟩;simp only[r72_2,SS,reduceCtorEq,reduceIte,qQ];refine zaj (λk E H=>∃i,i+k=M.length/\H=cpM M.length ls i/\E 0= .vec rows M.length c/\E 3= .sl 0 0 M.length 1 (some M.length)/\E 10= .vec rows M.length c/\E 11= .int .i64 (M.length:Nat)/\E 12= .int .i64 (i:Nat)) (n:=M.length) ⟨0,by omega,rfl,?_,?_,?_,?_,?_⟩ ?_
 ·rfl
 ·rfl
 ·rfl
 ·rfl
 ·rfl
 rintro k E H ⟨i,hik,rfl,e0,e3,e10,e11,e12⟩;refine wM ?_;simp only[l72_0,r72_3,SS,reduceCtorEq,reduceIte,e11,e12];refine⟨λhlt=>?_,λhge=>?_⟩
 ·obtain⟨k,rfl⟩:∃k',k=k'+1:=⟨k-1,by omega⟩
  obtain⟨⟨ci,hci⟩,hrow,hpi⟩:=hls i (by omega);obtain⟨qs,hqs⟩:=hall i (by omega);have w5:=wS1 i (by omega);simp only[r72_4,r72_5,SS,fC,reduceCtorEq,reduceIte,qQ,e0,e12,qK,hci,hl];refine⟨⟨by omega,by omega⟩,by omega,?_⟩;refine qsy (c:=ci) hpi hrow (by rw[hc i (by omega)];omega) (N:=M.length) (i:=i) (by simp[hqs.len];omega) (by omega) hN hqs.outer (qwy hqs.len (by omega)) (qlh hqs) (v10:= .vec rows M.length c) (arg:= .vec rows M.length c) ?_ ?_ ?_ ?_ ?_ ?_ ?_ ?_ ?_ (λE1 f0 f3 f10 f11 f12=>?rest)
  case rest=>
   simp only[r72_10,SS,reduceCtorEq,reduceIte,qQ,f12,w5];refine⟨k,_,_,by omega,⟨i+1,by omega,rfl,?_,?_,?_,?_,?_⟩,.refl⟩<;>simp only[UU,qQ,reduceIte, *]
  all_goals simp only[UU,qQ,reduceIte, *]
 ·have hk:i=M.length:=by omega
  subst hk;simp only[r72_11,SS,reduceIte,qQ,e3];exact kR
end Go.Proofs.YtgfbaioffpcelaaGreatDoor
namespace Go.Proofs.YtgfbaioffpcelaaGreatDoor
open Go Go.AL
def ck(B:Nat)(z:Int):Option Int:=if z.natAbs<B then some z else none
def ent(M:List (List Int))(i j:Nat):Int:=(M.getD i []).getD j 0
def setM(M:List (List Int))(i j:Nat)(z:Int):List (List Int):=M.set i ((M.getD i []).set j z)
def newE(B:Nat)(M:List (List Int))(k i j:Nat)(last:Int):Option Int:=
 if last=0 then none else(ck B last).bind λ_=>(ck B (ent M k k*ent M i j)).bind λp=>(ck B (ent M i k*ent M k j)).bind λq=>(ck B (p-q)).bind λs=>ck B (s/last)
def elJ(B k i:Nat)(last:Int):Nat->Nat->List (List Int)->Option (List (List Int))
 |0,_,M=>some M
 |m+1,j,M=>(newE B M k i j last).bind λz=>elJ B k i last m (j+1) (setM M i j z)
def elI(B n k:Nat)(last:Int):Nat->Nat->List (List Int)->Option (List (List Int))
 |0,_,M=>some M
 |m+1,i,M=>(elJ B k i last (n-(k+1)) (k+1) M).bind λM'=>elI B n k last m (i+1) M'
def piv(M:List (List Int))(k:Nat):Nat->Nat->Nat
 |0,p=>p
 |m+1,p=>if ent M p k=0 then piv M k m (p+1)else p
def zec(M:List (List Int))(p k:Nat):List (List Int):=(M.set p (M.getD k [])).set k (M.getD p [])
def detG(B n:Nat):Nat->Nat->List (List Int)->Int->Bool->Option Int
 |0,_,_,last,neg=>some (if neg then -last else last)
 |m+1,k,M,last,neg=>if piv M k (n-k) k=n then some 0 else
  (elI B n k last (n-(k+1)) (k+1) (if k<piv M k (n-k) k then zec M (piv M k (n-k) k) k else M)).bind λM2=>detG B n m (k+1) M2 (ent M2 k k) (if k<piv M k (n-k) k then !neg else neg)
def detO(B:Nat)(M:List (List Int)):Option Int:=detG B M.length M.length 0 M 1 false
theorem zdc{B:Nat}{z y:Int}(h:ck B z=some y):y=z/\z.natAbs<B:=by
 unfold ck at h;split at h
 ·simp at h;exact⟨h.symm,by assumption⟩
 ·simp at h
theorem zxv{B:Nat}{M:List (List Int)}{k i j:Nat}{last z:Int}(h:newE B M k i j last=some z):last≠0/\last.natAbs<B/\(ent M k k*ent M i j).natAbs<B/\(ent M i k*ent M k j).natAbs<B/\(ent M k k*ent M i j-ent M i k*ent M k j).natAbs<B/\
  z=(ent M k k*ent M i j-ent M i k*ent M k j)/last/\z.natAbs<B:=by
 unfold newE at h;split at h
 ·simp at h
 ·rename_i h0;simp only[qD]at h;obtain⟨l,h1,p,h2,q,h3,s,h4,h5⟩:=h;obtain⟨_,k1⟩:=zdc h1;obtain⟨rfl,k2⟩:=zdc h2;obtain⟨rfl,k3⟩:=zdc h3;obtain⟨rfl,k4⟩:=zdc h4;obtain⟨rfl,k5⟩:=zdc h5;exact⟨h0,k1,k2,k3,k4,rfl,k5⟩
theorem zdd(M:List (List Int))(i j:Nat)(z:Int):(setM M i j z).length=M.length:=by simp[setM]
theorem qwz{M:List (List Int)}{k:Nat}:∀{m p:Nat},p<=piv M k m p/\piv M k m p<=p+m:=by
 intro m
 induction m with
 |zero=>intro p;simp[piv]
 |succ m ih=>
  intro p;simp only[piv];split
  ·have:=ih (p:=p+1);omega
  ·omega
theorem jfc{M:List (List Int)}{k:Nat}:∀{m p:Nat},piv M k m p<p+m->ent M (piv M k m p) k≠0:=by
 intro m
 induction m with
 |zero=>intro p h;simp only[piv]at h;omega
 |succ m ih=>
  intro p h;simp only[piv]at h ⊢;split
  ·rename_i h0;rw[if_pos h0]at h;exact ih (by omega)
  ·assumption
def selR(M:List (List Int))(i:Nat)(cs:List Nat):List Int:=cs.map λj=>ent M i j
def selM(M:List (List Int))(rs cs:List Nat):List (List Int):=rs.map λi=>selR M i cs
def minK(M:List (List Int))(k:Nat):List (List Int):=selM M (List.range k++[k]) (List.range k++[k])
def zeu(B:Nat)(M:List (List Int)):Nat->Option (List Int)
 |0=>some []
 |k+1=>(zeu B M k).bind λl=>(detO B (minK M k)).bind λd=>(ck B d).bind λd=>some (l++[d])
def zpz(B:Nat)(M:List (List Int)):Option (List Int):=zeu B M M.length
theorem zek{B:Nat}{M:List (List Int)}:∀{k:Nat} {l:List Int},zeu B M k=some l->l.length=k:=by
 intro k
 induction k with
 |zero=>intro l h;simp only[zeu,qG]at h;rw[<-h];rfl
 |succ k ih=>
  intro l h;simp only[zeu,qD,qG]at h;obtain⟨l0,h1,d,_,d',_,rfl⟩:=h;simp[ih h1]
theorem zqa{B:Nat}{M:List (List Int)}:∀{k m:Nat} {l:List Int},zeu B M (k+m)=some l->zeu B M k=some (l.take k):=by
 intro k m
 induction m with
 |zero=>intro l h;have:=zek h;rw[qW (by omega)];exact h
 |succ m ih=>
  intro l h;have h':zeu B M ((k+m)+1)=some l:=h;simp only[zeu,qD,qG]at h';obtain⟨l0,h1,d,_,d',_,rfl⟩:=h';rw[ih h1,List.take_append_of_le_length (by rw[zek h1];omega)]
def symB(M:List (List Int)):Bool:=(List.range M.length).all λi=>(List.range i).all λj=>decide (ent M i j=ent M j i)
theorem zqb{M:List (List Int)}:symB M=true↔∀i,i<M.length->∀j,j<i->ent M i j=ent M j i:=by
 unfold symB;simp only[List.all_eq_true,List.mem_range,decide_eq_true_eq]
def defB(M:List (List Int))(ds:List Int):Bool:=symB M && ds.all λd=>decide (0<d)
theorem zsn{B:Nat}{M:List (List Int)}:∀{k:Nat} {l:List Int},zeu B M k=some l->∀z∈l,z.natAbs<B:=by
 intro k
 induction k with
 |zero=>intro l h;simp only[zeu,qG]at h;rw[<-h];simp
 |succ k ih=>
  intro l h z hz;simp only[zeu,qD,qG]at h;obtain⟨l0,h1,d,_,d',hck,rfl⟩:=h;rcases List.mem_append.1 hz with e | e
  ·exact ih h1 z e
  ·simp at e;have:=(zdc hck)
   rw[e,this.1];exact this.2
def valZ(M:List (List Int))(ds:List Int):Int:=if symB M=false then 4 else if defB M ds=false then 5 else 0
def zdb(ds:List Int)(k:Nat):Int:=if k=0 then 1 else ds.getD (k-1) 0
def lamM(M:List (List Int))(i j:Nat):List (List Int):=selM M (List.range j++[i]) (List.range j++[j])
def lamO(B:Nat)(M:List (List Int))(i j:Nat):Option Int:=(detO B (lamM M i j)).bind (ck B)
def zqc(B:Nat)(M:List (List Int))(ds:List Int)(i j:Nat):Option Bool:=(lamO B M i j).bind λl=>(ck B (2*l)).bind λ_=>some (decide (2*(l.natAbs:Int)<=zdb ds (j+1)))
def lovO(B:Nat)(M:List (List Int))(ds:List Int)(i:Nat):Option Bool:=(lamO B M i (i-1)).bind λl=>(ck B (zdb ds (i-1)*zdb ds (i+1))).bind λp=>(ck B (l*l)).bind λq=>(ck B (p+q)).bind λs=>(ck B (4*s)).bind λx=>
 (ck B (zdb ds i*zdb ds i)).bind λr=>(ck B (3*r)).bind λy=>some (decide (y<=x))
theorem zhc{B:Nat}{M:List (List Int)}{i j:Nat}{l:Int}(h:lamO B M i j=some l):detO B (lamM M i j)=some l/\l.natAbs<B:=by
 unfold lamO at h;rw[qD]at h;obtain⟨d,h1,h2⟩:=h;obtain⟨rfl,h3⟩:=zdc h2;exact⟨h1,h3⟩
open Go.Proofs Go.Limb
def DivB(B:Nat):Prop:=B<=BIG/\∀x y:Int,x.natAbs<B->y.natAbs<B->y≠0->∀m n c d,zbn m->zbn n->m.length<=1100->n.length<=1100->val m=x.natAbs->val n=y.natAbs->DivC m n c d
def pid(ps:List (Nat×Option Nat))(i:Nat):Nat:=(ps.getD i (0,none)).1
theorem zce{ps:List (Nat×Option Nat)}{n i:Nat}(hi:i<ps.length):(ps.map (zcv n)).getD i .junk= .sl (pid ps i) 0 n 2 (ps.getD i (0,none)).2:=by
 rw[qJ,xN,qV hi];simp[zcv,pid,qJ,hi]
theorem zei{H:Heap}{o n:Nat}{ps:List (Nat×Option Nat)}{M:List (List Int)}(h:MatH H o ps n M){i:Nat}(hi:i<M.length):∃cs,getB H (pid ps i)=some cs/\cs.length=n*2/\RowC (M.getD i []) cs/\
  ∀j,j<n->∃u v,(cs.drop (j*2)).take 2=[u,v]/\zap (ent M i j) (.agg [u,v]):=by
 obtain⟨cs,h1,h2⟩:=h.rows i hi;have hl:=zcz h2;rw[h.cols i hi]at hl;refine⟨cs,h1,hl,h2,λj hj=>?_⟩;exact zfi h2 j (by rw[h.cols i hi];exact hj)
theorem zgd{ps:List (Nat×Option Nat)}{i:Nat}(hi:i<ps.length):pid ps i∈ps.map (·.1):=by
 unfold pid;rw[qJ,qV hi];exact List.mem_map.2 ⟨_,zB _,rfl⟩
theorem qli{ps:List (Nat×Option Nat)}(hn:(ps.map (·.1)).Nodup){i j:Nat}(hi:i<ps.length)(hj:j<ps.length)(h:pid ps i=pid ps j):i=j:=by
 unfold pid at h;rw[qJ,qV hi,qJ,qV hj]at h;have key:=List.pairwise_iff_getElem.1 hn;rcases zV i j with hlt | he | hlt
 ·exact absurd (by rw[xZ,xZ];exact h) (key i j (by simpa using hi) (by simpa using hj) hlt)
 ·exact he
 ·exact absurd (by rw[xZ,xZ];exact h.symm) (key j i (by simpa using hj) (by simpa using hi) hlt)
theorem ziy{H:Heap}{o n:Nat}{ps:List (Nat×Option Nat)}{M:List (List Int)}(h:MatH H o ps n M){i j:Nat}(hi:i<M.length)(hj:j<n){z:Int}{u v:AV}(hz:zap z (.agg [u,v])){cs:List AV}(hcs:getB H (pid ps i)=some cs):
  MatH (H.set (pid ps i) (some (setL cs (j*2) [u,v]))) o ps n (setM M i j z):=by
 have hnd:=h.nodup;rw[qC]at hnd;have hoi:pid ps i≠o:=λe=>hnd.1 (e ▸ zgd (by rw[h.len];exact hi))
 refine⟨by rw[zai hoi];exact h.outer,by rw[zdd];exact h.len,?_,?_,h.nodup⟩
 ·intro i' hi';rw[zdd]at hi';unfold setM;rw[qJ,yG];split
  ·rename_i e;subst e;show((M.getD i []).set j z).length=n
   rw[qH];exact h.cols i hi
  ·rw[<-qJ];exact h.cols i' hi'
 ·intro i' hi';rw[zdd]at hi';by_cases e:i=i'
  ·subst e;obtain⟨cs',h1,h2⟩:=h.rows i hi
   have:cs'=cs:=by
    have:=h1.symm.trans hcs;simpa using this
   subst this;refine⟨_,zaw (zam hcs),?_⟩;unfold setM;rw[qJ,yU hi];exact zut h2 j z u v (by rw[h.cols i hi];exact hj) hz
  ·obtain⟨cs',h1,h2⟩:=h.rows i' hi';refine⟨cs',?_,?_⟩
   ·show getB (List.set H (pid ps i) _) (pid ps i')=_
    rw[zai (λe'=>e (qli hnd.2 (by rw[h.len];exact hi) (by rw[h.len];exact hi') e'))];exact h1
   ·unfold setM;rw[qJ,xG e,<-qJ];exact h2
structure DS(n:Nat)(M:List (List Int))(last:Int)(neg:Bool)(k:Nat)(E:Env)(H:Heap)(ps:List (Nat×Option Nat))(b:Nat):Prop where
 mat:MatH H 1 ps n M
 rows:M.length=n
 e2:E 2= .ptr 0 0
 e3:E 3= .sl 1 0 n 1 (some n)
 e4:E 4= .int .i64 (n:Nat)
 e5:E 5= .ptr b 0
 e6:E 6= .bool neg
 e7:E 7= .int .i64 (k:Nat)
 last:∃u v,getB H b=some [u,v]/\zap last (.agg [u,v])
 res:∃u v,getB H 0=some [u,v]
 nodup:(0::b::1::ps.map (·.1)).Nodup
theorem DS.frame{n k b:Nat}{M:List (List Int)}{last:Int}{neg:Bool}{E E':Env}{H:Heap}{ps:List (Nat×Option Nat)}(h:DS n M last neg k E H ps b)(hE:∀t,t<8->E' t=E t):DS n M last neg k E' H ps b:=
 ⟨h.mat,h.rows,(hE 2 (by omega)).trans h.e2,(hE 3 (by omega)).trans h.e3,(hE 4 (by omega)).trans h.e4,(hE 5 (by omega)).trans h.e5,(hE 6 (by omega)).trans h.e6,(hE 7 (by omega)).trans h.e7,h.last,h.res,h.nodup⟩
theorem zlp{E:Env}{d:Nat}{v:AV}{t:Nat}(ht:t<8)(hd:8<=d):upd E d v t=E t:=by
 unfold upd;rw[if_neg (by omega)]
theorem zau{z:Int}{u v:AV}(h:zap z (.agg [u,v])):∃l c,u= .bool (decide (z<0))/\v= .vec (u32s l) l.length c:=by
 obtain⟨l,c,_,_,_,e⟩:=h;injection e with e
 injection e with e1 e2
 injection e2 with e2 _
 exact⟨l,c,e1,e2⟩
theorem jik{B n k i b:Nat}{last:Int}{neg:Bool}(hB:DivB B)(hn:n<=16)(hk:k<n)(hi:k<i/\i<n){fin:List (List Int)}{Q:Post}:∀{E:Env} {H:Heap} {ps:List (Nat×Option Nat)} {M:List (List Int)},
  DS n M last neg k E H ps b->E 9= .int .i64 (i:Nat)->E 10= .int .i64 ((k+1:Nat):Int)->elJ B k i last (n-(k+1)) (k+1) M=some fin->
  (∀E' H',DS n fin last neg k E' H' ps b->E' 9= .int .i64 (i:Nat)->Q (.exit 6) E' H')->Wg 0 125 (.loop l89_3) E H Q:=by
 intro E H ps M hD h9 h10 hf hQ;refine zaj (λm E H=>∃j M,j+m=n/\k<j/\DS n M last neg k E H ps b/\E 9= .int .i64 (i:Nat)/\E 10= .int .i64 (j:Nat)/\elJ B k i last m j M=some fin) (n:=n-(k+1)) ⟨k+1,M,by omega,by omega,hD,h9,h10,hf⟩ ?_;clear hD h9 h10 hf M E H;rintro m E H ⟨j,M,hjm,hkj,hD,h9,h10,hf⟩;refine wM ?_;obtain⟨hM,hrows,e2,e3,e4,e5,e6,e7,⟨lu,lv,hlast,hl⟩,⟨ru,rv,hres⟩,hnd⟩:=hD;simp only[l89_3,r89_17,SS,reduceIte,qQ,e4,h10];refine⟨λhlt=>?_,λhge=>?_⟩
 ·obtain⟨m,rfl⟩:∃m',m=m'+1:=⟨m-1,by omega⟩
  have hj:j<n:=by omega
  simp only[elJ,qD]at hf;obtain⟨z,hz,hf⟩:=hf;obtain⟨b0,b1,b2,b3,b4,hzz,b5⟩:=zxv hz;obtain⟨csi,gi,li,ri,fi⟩:=zei hM (i:=i) (by omega);obtain⟨csk,gk,lk,rk,fk⟩:=zei hM (i:=k) (by omega);obtain⟨u1,v1,x1,y1⟩:=fk k hk;obtain⟨u2,v2,x2,y2⟩:=fi j hj;obtain⟨u3,v3,x3,y3⟩:=fi k hk;obtain⟨u4,v4,x4,y4⟩:=fk j hj;obtain⟨p,hp,t1⟩:=zMul y1 y2 (qO b2 hB.1);obtain⟨q,hq,t2⟩:=zMul y3 y4 (qO b3 hB.1);obtain⟨s,hs,t3⟩:=zSub hp hq (qO b4 hB.1);obtain⟨d,hd,t4⟩:=zQuo hs hl b0 (hB.2 _ _ b4 b1 b0) (by rw[<-hzz];exact qO b5 hB.1);rw[<-hzz]at hd;have oi:=zce (ps:=ps) (n:=n) (i:=i) (by rw[hM.len];omega);have ok:=zce (ps:=ps) (n:=n) (i:=k) (by rw[hM.len];omega);have hol:(ps.map (zcv n)).length=n:=by rw[xE,hM.len];exact hrows
  have hou:=hM.outer;have hpc:=hp.closed;have hqc:=hq.closed;have hsc:=hs.closed;have w5:=wS1 j (by omega);have hd0:=hd;obtain⟨ld,cd,_,_,_,rfl⟩:=hd0;have hdr:(lu,lv)=(lu,lv):=rfl;have hlast2:([lu,lv].drop 0).take 2=[lu,lv]:=rfl
  have c1:qU [.agg [u1,v1],.agg [u2,v2]]=true:=by
   simp only[qU,y1.closed,y2.closed,yX]
  have c2:qU [.agg [u3,v3],.agg [u4,v4]]=true:=by
   simp only[qU,y3.closed,y4.closed,yX]
  have c3:qU [p,q]=true:=by simp only[qU,hpc,hqc,yX]
  have c4:qU [s,.agg [lu,lv]]=true:=by simp only[qU,hsc,hl.closed,yX]
  simp only[r89_18,SS,fC,reduceIte,qQ,e3,e7,h9,h10,qK,hou,hol,oi,ok,gi,gk,li,lk,x1,x2];refine⟨⟨by omega,by omega⟩,by omega,⟨by omega,by omega⟩,by omega,⟨by omega,by omega⟩,by omega,⟨by omega,by omega⟩,by omega,⟨by omega,by omega⟩,by omega,?_⟩;refine zaa t1 ?_ c1 hpc;simp only[SS,fC,reduceIte,qQ,e3,e7,h9,h10,qK,hou,hol,oi,ok,gi,gk,li,lk,x3,x4];refine⟨⟨by omega,by omega⟩,by omega,⟨by omega,by omega⟩,by omega,⟨by omega,by omega⟩,by omega,⟨by omega,by omega⟩,by omega,?_⟩;refine zaa t2 ?_ c2 hqc;simp only[SS,reduceIte,qQ];refine zaa t3 ?_ c3 hsc;simp only[SS,reduceIte,qZ,qQ,qX,e5,hlast];refine zaa t4 ?_ c4;simp only[SS,reduceIte,qZ,qQ,qK,gi,li];refine⟨⟨by omega,by omega⟩,by omega,rfl,?_⟩;have hs2:((csi.set (j*2) (AV.bool (decide (z<0)))).set (j*2+1) (AV.vec (u32s ld) ld.length cd))=setL csi (j*2) [AV.bool (decide (z<0)),AV.vec (u32s ld) ld.length cd]:=rfl;rw[hs2];simp only[r89_19,SS,reduceIte,qQ,h10,w5];have hnd2:=hnd;simp only[qC,yQ,not_or]at hnd2;have hpi:pid ps i∈ps.map (·.1):=zgd (by rw[hM.len];omega);have hpi0:pid ps i≠0:=λe=>hnd2.1.2.2 (e ▸ hpi)
  have hpib:pid ps i≠b:=λe=>hnd2.2.1.2 (e ▸ hpi)
  refine⟨m,_,_,by omega,⟨j+1,setM M i j z,by omega,by omega,⟨ziy hM (by omega) hj hd gi,by rw[zdd];exact hrows,?_,?_,?_,?_,?_,?_,⟨lu,lv,?_,hl⟩,⟨ru,rv,?_⟩,hnd⟩,?_,?_,hf⟩,.refl⟩
  ·exact e2
  ·exact e3
  ·exact e4
  ·exact e5
  ·exact e6
  ·exact e7
  ·rw[zai hpib];exact hlast
  ·rw[zai hpi0];exact hres
  ·simp only[UU,qQ,h9]
  ·rfl
 ·have hk2:m=0:=by omega
  subst hk2;simp only[elJ,qG]at hf;subst hf;refine hQ _ _ (DS.frame (E:=E) ⟨hM,hrows,e2,e3,e4,e5,e6,e7,⟨lu,lv,hlast,hl⟩,⟨ru,rv,hres⟩,hnd⟩ (λt ht=>?_)) ?_
  ·repeat rw[zlp ht (by decide)]
  ·simp only[UU,qQ,h9]
theorem jfd{B n k b:Nat}{last:Int}{neg:Bool}(hB:DivB B)(hn:n<=16)(hk:k<n){fin:List (List Int)}{Q:Post}{E:Env}{H:Heap}{ps:List (Nat×Option Nat)}{M:List (List Int)}
  (hD:DS n M last neg k E H ps b) (h9:E 9= .int .i64 ((k+1:Nat):Int)) (hf:elI B n k last (n-(k+1)) (k+1) M=some fin)
  (hQ:∀E' H',DS n fin last neg k E' H' ps b->Q (.exit 4) E' H'):Wg 0 125 (.loop l89_2) E H Q:=by
 refine zaj (λm E H=>∃i M,i+m=n/\k<i/\DS n M last neg k E H ps b/\E 9= .int .i64 (i:Nat)/\elI B n k last m i M=some fin) (n:=n-(k+1)) ⟨k+1,M,by omega,by omega,hD,h9,hf⟩ ?_;clear hD h9 hf M E H;rintro m E H ⟨i,M,him,hki,hD,h9,hf⟩;refine wM ?_;have hD0:=hD;obtain⟨hM,hrows,e2,e3,e4,e5,e6,e7,hlast,hres,hnd⟩:=hD;simp only[l89_2,r89_15,SS,reduceIte,qQ,e4,h9];refine⟨λhlt=>?_,λhge=>?_⟩
 ·obtain⟨m,rfl⟩:∃m',m=m'+1:=⟨m-1,by omega⟩
  simp only[elI,qD]at hf;obtain⟨M',hf1,hf2⟩:=hf;have w5:=wS1 i (by omega);have w6:=wS1 k (by omega);simp only[r89_16,SS,reduceIte,qQ,e7,w6];refine jik hB hn hk ⟨hki,by omega⟩ (ps:=ps) (b:=b) (last:=last) (neg:=neg) (i:=i) (hD0.frame (λt ht=>?_)) ?_ ?_ hf1 (λE1 H1 hD1 f9=>?rest)
  case rest=>
   simp only[r89_20,SS,reduceIte,qQ,f9,w5];refine⟨m,_,_,by omega,⟨i+1,M',by omega,by omega,hD1.frame (λt ht=>?_),?_,hf2⟩,.refl⟩
   ·repeat rw[zlp ht (by decide)]
   ·rfl
  ·repeat rw[zlp ht (by decide)]
  ·simp only[UU,qQ,h9]
  ·rfl
 ·have hk2:m=0:=by omega
  subst hk2;simp only[elI,qG]at hf;subst hf;refine hQ _ _ (hD0.frame (λt ht=>?_))
  repeat rw[zlp ht (by decide)]
theorem jil{n k b:Nat}{last:Int}{neg:Bool}(hn:n<=16)(hk:k<n){Q:Post}{E:Env}{H:Heap}{ps:List (Nat×Option Nat)}{M:List (List Int)}
  (hD:DS n M last neg k E H ps b) (h8:E 8= .int .i64 (k:Nat))
  (hQ:∀E',DS n M last neg k E' H ps b->E' 8= .int .i64 (piv M k (n-k) k:Nat)->Q (.exit 2) E' H):Wg 0 125 (.loop l89_1) E H Q:=by
 refine zaj (λm E H'=>∃p,p+m=n/\k<=p/\H'=H/\DS n M last neg k E H ps b/\E 8= .int .i64 (p:Nat)/\piv M k m p=piv M k (n-k) k) (n:=n-k) ⟨k,by omega,by omega,rfl,hD,h8,rfl⟩ ?_;clear hD h8 E;rintro m E H' ⟨p,hpm,hkp,rfl,hD,h8,hp⟩;refine wM ?_;have hD0:=hD;obtain⟨hM,hrows,e2,e3,e4,e5,e6,e7,hlast,hres,hnd⟩:=hD;cases m with
 |zero=>
  have d1:decide ((p:Int)<(n:Nat))=false:=dF;simp only[l89_1,r89_7,SS,fC,reduceIte,qQ,e4,h8,d1];simp only[piv]at hp;refine hQ _ (hD0.frame (λt ht=>?_)) ?_
  ·repeat rw[zlp ht (by decide)]
  ·simp only[UU,qQ,h8,hp]
 |succ m=>
  have d1:decide ((p:Int)<(n:Nat))=true:=dT;obtain⟨csp,gp,lp,rp,fp⟩:=zei hM (i:=p) (by omega);obtain⟨u,v,x,y⟩:=fp k hk;have op:=zce (ps:=ps) (n:=n) (i:=p) (by rw[hM.len];omega);have hol:(ps.map (zcv n)).length=n:=by rw[xE,hM.len];exact hrows
  have hou:=hM.outer;have t:=zxr y;have c1:qU [.agg [u,v]]=true:=by simp only[qU,y.closed,yX]
  have w5:=wS1 p (by omega);simp only[l89_1,r89_7,SS,fC,reduceIte,qQ,e3,e4,e7,h8,d1,qK,hou,hol,op,gp,lp,x];refine⟨⟨by omega,by omega⟩,by omega,⟨by omega,by omega⟩,by omega,?_⟩;refine zaa t ?_ c1;simp only[SS,fC,reduceIte,qQ];simp only[piv]at hp;refine⟨λh0=>?_,λh0=>?_⟩
  ·have h0:ent M p k=0:=Int.sign_eq_zero_iff_zero.1 h0;rw[if_pos h0]at hp;simp only[r89_8,SS,reduceIte,qQ,h8,w5];refine⟨m,_,_,by omega,⟨p+1,by omega,by omega,rfl,hD0.frame (λt ht=>?_),?_,hp⟩,.refl⟩
   ·repeat rw[zlp ht (by decide)]
   ·rfl
  ·have h0:¬ent M p k=0:=λe=>h0 (by rw[e];rfl)
   rw[if_neg h0]at hp;refine hQ _ (hD0.frame (λt ht=>?_)) ?_
   ·repeat rw[zlp ht (by decide)]
   ·simp only[UU,qQ,h8,hp]
def zgg(ps:List (Nat×Option Nat))(p k:Nat):List (Nat×Option Nat):=(ps.set p (ps.getD k (0,none))).set k (ps.getD p (0,none))
theorem zqd{α:Type}{l:List α}{p k i:Nat}{d:α}(hp:p<l.length)(hk:k<l.length):((l.set p (l.getD k d)).set k (l.getD p d)).getD i d=l.getD (if i=k then p else if i=p then k else i) d:=by
 rw[qJ,yG];by_cases h1:k=i
 ·subst h1;rw[if_pos rfl,if_pos (by simpa using hk),if_pos rfl];rfl
 ·rw[if_neg h1,if_neg (λe=>h1 e.symm),yG];by_cases h2:p=i
  ·subst h2;rw[if_pos rfl,if_pos hp,if_pos rfl];rfl
  ·rw[if_neg h2,if_neg (λe=>h2 e.symm),qJ]
theorem qdh{H:Heap}{o n:Nat}{ps:List (Nat×Option Nat)}{M:List (List Int)}(h:MatH H o ps n M){p k:Nat}(hp:p<M.length)(hk:k<M.length):
  MatH (H.set o (some (((ps.map (zcv n)).set p (.sl (pid ps k) 0 n 2 (ps.getD k (0,none)).2)).set k (.sl (pid ps p) 0 n 2 (ps.getD p (0,none)).2)))) o (zgg ps p k) n (zec M p k)/\(∀x,x∈(zgg ps p k).map (·.1)↔x∈ps.map (·.1))/\((zgg ps p k).map (·.1)).Nodup:=by
 have hnd:=h.nodup;rw[qC]at hnd;have hlen:=h.len
 have hidx:∀i,i<M.length->(if i=k then p else if i=p then k else i)<M.length:=by
  intro i hi;split
  ·exact hp
  ·split<;>omega
 have hpid:∀i,pid (zgg ps p k) i=pid ps (if i=k then p else if i=p then k else i):=by
  intro i;unfold pid zgg;rw[zqd (by omega) (by omega)]
 have hsl:(zgg ps p k).length=ps.length:=by simp[zgg]
 have hmem:∀x,x∈(zgg ps p k).map (·.1)↔x∈ps.map (·.1):=by
  intro x;constructor
  ·intro hx;obtain⟨q,hq,rfl⟩:=List.mem_map.1 hx;unfold zgg at hq;rcases xS hq with hq | rfl
   ·rcases xS hq with hq | rfl
    ·exact List.mem_map.2 ⟨q,hq,rfl⟩
    ·exact zgd (i:=k) (by omega)
   ·exact zgd (i:=p) (by omega)
  ·intro hx;obtain⟨q,hq,rfl⟩:=List.mem_map.1 hx;obtain⟨i,hi,rfl⟩:=List.mem_iff_getElem.1 hq;have e:=hpid (if i=k then p else if i=p then k else i)
   have e2:(if(if i=k then p else if i=p then k else i)=k then p else if(if i=k then p else if i=p then k else i)=p then k else(if i=k then p else if i=p then k else i))=i:=by
    by_cases h1:i=k
    ·subst h1;rw[if_pos rfl];by_cases h2:p=i
     ·rw[if_pos h2];exact h2
     ·rw[if_neg h2,if_pos rfl]
    ·rw[if_neg h1];by_cases h2:i=p
     ·subst h2;rw[if_pos rfl,if_pos rfl]
     ·rw[if_neg h2,if_neg h1,if_neg h2]
   rw[e2]at e;have e3:pid ps i=ps[i].1:=by unfold pid;rw[qJ,qV hi];rfl
   rw[<-e3,<-e];exact zgd (by rw[hsl,hlen];exact hidx i (by omega))
 have hnd2:((zgg ps p k).map (·.1)).Nodup:=by
  refine List.pairwise_iff_getElem.2 (λi j hi hj hij=>?_);rw[xZ,xZ];simp only[xE,hsl]at hi hj;have e1:(zgg ps p k)[i]'(by rw[hsl];exact hi)=(zgg ps p k).getD i (0,none):=by rw[qJ,qV (by rw[hsl];exact hi)];rfl
  have e2:(zgg ps p k)[j]'(by rw[hsl];exact hj)=(zgg ps p k).getD j (0,none):=by rw[qJ,qV (by rw[hsl];exact hj)];rfl
  rw[e1,e2];intro e;have e':pid (zgg ps p k) i=pid (zgg ps p k) j:=e;rw[hpid,hpid]at e';have:=qli hnd.2 (by rw[hlen];exact hidx i (by omega)) (by rw[hlen];exact hidx j (by omega)) e';revert this;by_cases h1:i=k
  ·by_cases h3:j=p
   ·rw[if_pos h1,if_neg (show¬j=k by omega),if_pos h3];omega
   ·rw[if_pos h1,if_neg (show¬j=k by omega),if_neg h3];omega
  ·by_cases h2:i=p
   ·by_cases h3:j=k
    ·rw[if_neg h1,if_pos h2,if_pos h3];omega
    ·rw[if_neg h1,if_pos h2,if_neg h3,if_neg (show¬j=p by omega)];omega
   ·by_cases h3:j=k
    ·rw[if_neg h1,if_neg h2,if_pos h3];omega
    ·by_cases h4:j=p
     ·rw[if_neg h1,if_neg h2,if_neg h3,if_pos h4];omega
     ·rw[if_neg h1,if_neg h2,if_neg h3,if_neg h4];omega
 refine⟨⟨?_,?_,?_,?_,?_⟩,hmem,hnd2⟩
 ·rw[zaw (zam h.outer)];have e1:AV.sl (pid ps k) 0 n 2 (ps.getD k (0,none)).2=zcv n (ps.getD k (0,none)):=rfl;have e2:AV.sl (pid ps p) 0 n 2 (ps.getD p (0,none)).2=zcv n (ps.getD p (0,none)):=rfl;rw[e1,e2,<-zZ,<-zZ];rfl
 ·rw[hsl,hlen];simp[zec]
 ·intro i hi;have hi:i<M.length:=by simpa[zec]using hi
  unfold zec;rw[zqd hp hk];exact h.cols _ (hidx i hi)
 ·intro i hi;have hi:i<M.length:=by simpa[zec]using hi
  obtain⟨cs,h1,h2⟩:=h.rows _ (hidx i hi);refine⟨cs,?_,?_⟩
  ·show getB _ (pid (zgg ps p k) i)=_
   have hne:o≠pid ps (if i=k then p else if i=p then k else i):=λe=>hnd.1 (by rw[e];exact zgd (by rw[hlen];exact hidx i hi))
   rw[hpid,zai hne];exact h1
  ·unfold zec;rw[zqd hp hk];exact h2
 ·rw[qC];exact⟨λhm=>hnd.1 ((hmem _).1 hm),hnd2⟩
def zso:Nat->Nat->List Nat
 |0,_=>[]
 |f+1,n=>if n=0 then[]else n%4294967296::zso f (n/4294967296)
def zav(n:Nat):List Nat:=zso n n
theorem zxw:∀f n,n<=f->zbn (zso f n)/\val (zso f n)=n:=by
 intro f
 induction f with
 |zero=>
  intro n h;have:n=0:=by omega
  subst this;exact⟨zbn.nil,rfl⟩
 |succ f ih=>
  intro n h;unfold zso;by_cases h0:n=0
  ·rw[if_pos h0,h0];exact⟨zbn.nil,rfl⟩
  ·rw[if_neg h0];obtain⟨h1,h2⟩:=ih (n/4294967296) (by omega);refine⟨⟨Dig.cons (xA _ (by decide)) h1.1,?_⟩,?_⟩
   ·cases e:zso f (n/4294967296)with
    |nil=>
     rw[e]at h2;have:n/4294967296=0:=h2.symm
     show n%4294967296≠0
     omega
    |cons d r=>
     have:=h1.2;rw[e]at this;exact this
   ·rw[Limb.val,h2];omega
theorem zak(n:Nat):zbn (zav n):=(zxw n n (qY _)).1
theorem zaq(n:Nat):val (zav n)=n:=(zxw n n (qY _)).2
def intV(z:Int):AV:= .agg [.bool (decide (z<0)),.vec (u32s (zav z.natAbs)) (zav z.natAbs).length none]
theorem qlj(l:List Nat):AV.wk.wkL (u32s l)=u32s l:=by
 induction l with
 |nil=>rfl
 |cons d l ih=>show AV.wk (.int .u32 d)::AV.wk.wkL (u32s l)=_;rw[ih];rfl
theorem zap.wk{z:Int}{a:AV}(h:zap z a):a.wk=intV z:=by
 obtain⟨l,c,hc,_,hv,rfl⟩:=h;have:l=zav z.natAbs:=zdk hc (zak _) (hv.trans (zaq _).symm);subst this;simp only[AV.wk,AV.wk.wkL,qlj,intV]
theorem zbv{z:Int}(h:z.natAbs<BIG):zap z (intV z):=
 ⟨zav z.natAbs,none,zak _,canon_len (zak _) (by rw[zaq];exact h),zaq _,rfl⟩
theorem zcj(k i:Nat):zan [] k i=k+i:=by simp[zan]
theorem zhs{H:Heap}(σ:Nat->Nat)(hσ:∀i,σ i=H.length+i):∀(L X:Heap),zac (effs σ X.length L) (H++(X++List.replicate L.length none))=H++(X++L.map (renB σ)):=by
 intro L
 induction L with
 |nil=>intro X;simp[effs,zac]
 |cons c L ih=>
  intro X;simp only[effs,zac,xP,xT]
  have e:(H++(X++none::List.replicate L.length none)).set (σ X.length) (renB σ c)=H++((X++[renB σ c])++List.replicate L.length none):=by
   rw[hσ,qB _ _ (by omega),xU,qB _ _ (qY _),yA];simp
  rw[e];have:=ih (X++[renB σ c]);rw[yT,List.length_singleton]at this;rw[this];simp
theorem zdx{f:FuncId}{args:List AV}{v:AV}{H H0:Heap}{K:AV->Eff->List Nat->Nat->Prop}(h:Rt f args [] v H0)(ha:qU args=true)
  (hk:K (v.ren (zan [] H.length)) (effs (zan [] H.length) 0 H0) [] H0.length):ziv Tryz.prog G f args H K:=by
 refine⟨_,_,_,_,?_,hk⟩;have:=CallR0.mk (P:= Tryz.prog) (Γ:=G) (f:=f) (args:=args) (k:=H.length) (H:=H++List.replicate H0.length none) [] args [] v H0 h rfl .nil (by simp) (zay _ _ ha).symm (zbd _ _ ha) (by intro i c h;simp at h);exact .base this
theorem qdi{H L:Heap}{σ:Nat->Nat}{i:Nat}{cs:List AV}(h:getB L i=some cs):getB (H++L.map (renB σ)) (H.length+i)=some (cs.map (AV.ren σ)):=by
 unfold getB at h ⊢;rw[qA (by omega),xU,xN];cases hx:L[i]? with
 |none=>rw[hx]at h;simp at h
 |some c=>
  rw[hx]at h;cases c with
  |none=>simp at h
  |some c=>simp at h;subst h;rfl
theorem zlq{H L:Heap}{n:Nat}{ps:List (Nat×Option Nat)}{M:List (List Int)}(h:MatH L 0 ps n M):MatH (H++L.map (renB (zan [] H.length))) H.length (ps.map λp=>(H.length+p.1,p.2)) n M:=by
 have hp:∀i,i<ps.length->pid (ps.map λp=>(H.length+p.1,p.2)) i=H.length+pid ps i:=by
  intro i hi;unfold pid;rw[qJ,xN,qV hi,qJ,qV hi];rfl
 refine⟨?_,by rw[xE];exact h.len,h.cols,?_,?_⟩
 ·have:=qdi (H:=H) (σ:=zan [] H.length) h.outer;rw[qI]at this;rw[this,yH,yH]
  have e:(AV.ren (zan [] H.length) ∘ zcv n)=(zcv n ∘ λp=>(H.length+p.1,p.2)):=by
   funext p;simp[zcv,AV.ren,zcj]
  rw[e]
 ·intro i hi;obtain⟨cs,h1,h2⟩:=h.rows i hi;refine⟨cs,?_,h2⟩
  show getB _ (pid _ i)=_
  have h1':getB L (pid ps i)=some cs:=h1;rw[hp i (by rw[h.len];exact hi),qdi h1',zay _ _ (qap h2)]
 ·have hnd:=h.nodup;rw[qC]at hnd ⊢;rw[yH];refine⟨?_,?_⟩
  ·intro hm;obtain⟨p,hp,e⟩:=List.mem_map.1 hm;have e:H.length+p.1=H.length:=e;exact hnd.1 (List.mem_map.2 ⟨p,hp,by omega⟩)
  ·refine List.pairwise_iff_getElem.2 (λi j hi hj hij=>?_);have:=List.pairwise_iff_getElem.1 hnd.2 i j (by simpa using hi) (by simpa using hj) hij;rw[xZ,xZ]at this ⊢;simp only[Function.comp];omega
theorem qar{H X:Heap}{o n:Nat}{ps:List (Nat×Option Nat)}{M:List (List Int)}(h:MatH H o ps n M):MatH (H++X) o ps n M:=
 ⟨by rw[zbm (zam h.outer)];exact h.outer,h.len,h.cols,λi hi=>by
  obtain⟨cs,h1,h2⟩:=h.rows i hi;exact⟨cs,by rw[zbm (zam h1)];exact h1,h2⟩,h.nodup⟩
theorem zqe{H:Heap}{o n x:Nat}{y:Option (List AV)}{ps:List (Nat×Option Nat)}{M:List (List Int)}(h:MatH H o ps n M)(h1:x≠o)(h2:x∉ps.map (·.1)):MatH (H.set x y) o ps n M:=
 ⟨by rw[zai h1];exact h.outer,h.len,h.cols,λi hi=>by
  obtain⟨cs,g1,g2⟩:=h.rows i hi;refine⟨cs,?_,g2⟩;have hne:x≠(ps.getD i (0,none)).1:=λe=>h2 (by rw[e];exact zgd (ps:=ps) (by rw[h.len];exact hi))
  rw[zai hne];exact g1,h.nodup⟩
theorem mDet{B:Nat}{M:List (List Int)}{a:AV}{d:Int}(hB:DivB B)(h:MatV M a)(hN:1<=M.length/\M.length<=16)(hc:∀i,i<M.length->(M.getD i []).length=M.length)(hd:detO B M=some d):
  Rt 89 [a] [] (intV d) []:=by
 obtain⟨ps0,L,hL,tc⟩:=jfb h ⟨hN.1,hN.2⟩ hN.2 hc;obtain⟨v1,hv1,ts⟩:=zhb 1 (by omega) (by omega)
 have ha:qU [a]=true:=by
  obtain⟨rows,c,rfl,_⟩:=h;rfl
 have hv1':=hv1;obtain⟨l1,c1,_,_,_,rfl⟩:=hv1';refine oFw o89 ?_;simp only[c89,r89_0,r89_1,SS,reduceCtorEq,reduceIte];refine zdx tc ha ?_;simp only[zaf,SS,reduceIte,qQ,AV.ren,zcj,qI]
 have hH1:zac (effs (zan [] 1) 0 L) (some [AV.bool false,AV.vec [] 0 (some 0)]::List.replicate (List.length L) none)=some [AV.bool false,AV.vec [] 0 (some 0)]::L.map (renB (zan [] 1)):=
  zhs (H:=[some [AV.bool false,AV.vec [] 0 (some 0)]]) (zan [] 1) (λi=>zcj 1 i) L []
 rw[hH1];have hM1:MatH (some [AV.bool false,AV.vec [] 0 (some 0)]::L.map (renB (zan [] 1))) 1 (ps0.map λp=>(1+p.1,p.2)) M.length M:=zlq (H:=[some [AV.bool false,AV.vec [] 0 (some 0)]]) hL;generalize hHH:(some [AV.bool false,AV.vec [] 0 (some 0)]::L.map (renB (zan [] 1)):Heap)=H1 at*;have g0:getB H1 0=some [AV.bool false,AV.vec [] 0 (some 0)]:=by rw[<-hHH];rfl
 have hlt0:=zam g0;simp only[r89_2,r89_3,SS,reduceIte,qQ];refine zaa ts ?_;simp only[SS,reduceIte,qZ,qQ,qX,zba,zju];simp only[r89_4,SS];have hlast0:=hv1;have hM2:=qar (X:=[some [AV.bool (decide ((1:Int)<0)),AV.vec (u32s l1) l1.length c1]]) hM1
 have hids:∀x∈(ps0.map λp=>(1+p.1,p.2)).map (·.1),2<=x/\x<H1.length:=by
  intro x hx;have hnd:=hL.nodup;rw[qC]at hnd;rw[yH]at hx;obtain⟨p,hp,rfl⟩:=List.mem_map.1 hx;have hp0:p.1≠0:=λe=>hnd.1 (List.mem_map.2 ⟨p,hp,e⟩)
  refine⟨by show 2<=1+p.1;omega,?_⟩;obtain⟨i,hi,e⟩:=List.mem_iff_getElem.1 hp;obtain⟨cs,h1,_⟩:=hM1.rows i (by rw[<-hL.len];exact hi);have:=zam h1;rw[qJ,xN,qV hi,e]at this;exact this
 have hnd0:(0::H1.length::1::(ps0.map λp=>(1+p.1,p.2)).map (·.1)).Nodup:=by
  have hn1:=hM1.nodup;have h1lt:=zam hM1.outer;rw[qC,qC];refine⟨?_,?_,hn1⟩
  ·intro hm;rcases List.mem_cons.1 hm with e | hm
   ·omega
   ·rcases List.mem_cons.1 hm with e | hm
    ·omega
    ·have:=hids _ hm;omega
  ·intro hm;rcases List.mem_cons.1 hm with e | hm
   ·omega
   ·have:=hids _ hm;omega
 refine zaj (λm E H=>∃k M' last neg ps,k+m=M.length/\DS M.length M' last neg k E H ps H1.length/\detG B M.length m k M' last neg=some d) (n:=M.length) ⟨0,M,1,false,_,by omega,⟨hM2,rfl,?_,?_,?_,?_,?_,?_,⟨_,_,zba,hlast0⟩,⟨_,_,(zbm hlt0).trans g0⟩,hnd0⟩,hd⟩ ?_
 ·rfl
 ·rfl
 ·rfl
 ·rfl
 ·rfl
 ·rfl
 rintro m E H ⟨k,M',last,neg,ps,hkm,hD,hdet⟩;have hD0:=hD;obtain⟨hM,hrows,e2,e3,e4,e5,e6,e7,⟨lu,lv,hlast,hl⟩,⟨ru,rv,hres⟩,hnd⟩:=hD;refine wM ?_;simp only[l89_0,r89_5,SS,reduceCtorEq,reduceIte,qQ,e4,e7];refine⟨λhlt=>?_,λhge=>?_⟩
 ·obtain⟨m,rfl⟩:∃m',m=m'+1:=⟨m-1,by omega⟩
  have hk:k<M.length:=by omega
  simp only[detG]at hdet;have hpl:=qwz (M:=M') (k:=k) (m:=M.length-k) (p:=k);have w6:=wS1 k (by omega);simp only[r89_6,SS,reduceIte,qQ,e7];refine jil hN.2 hk (hD0.frame (λt ht=>?_)) ?_ (λE1 hD1 f8=>?rest)
  case rest=>
   generalize hpv:piv M' k (M.length-k) k=p at*;have hD10:=hD1;obtain⟨hM3,hrows3,f2,f3,f4,f5,f6,f7,⟨lu3,lv3,hlast3,hl3⟩,⟨ru3,rv3,hres3⟩,hnd3⟩:=hD1;simp only[r89_9,SS,reduceCtorEq,reduceIte,qQ,f4,f8];refine⟨λhpn=>?_,λhpn=>?_⟩
   ·have hpn:p=M.length:=by omega
    rw[if_pos hpn,qG]at hdet;subst hdet;simp only[r89_10,SS,reduceIte,qZ,qQ,qX,f2,hres3];refine⟨.inl trivial,_,_,zfh (id:=0) (by exact f2) (zaw (zam hres3)),.drop _ _ rfl (by intro i cs h;omega),rfl⟩
   ·have hpn:p≠M.length:=by omega
    rw[if_neg hpn,qD]at hdet;obtain⟨M2,hel,hdet⟩:=hdet;by_cases hkp:k<p
    ·rw[if_pos hkp]at hel hdet;have d1:decide ((k:Int)<(p:Nat))=true:=dT;have ok3:=zce (ps:=ps) (n:=M.length) (i:=k) (by rw[hM3.len];omega);have op3:=zce (ps:=ps) (n:=M.length) (i:=p) (by rw[hM3.len];omega);have hol3:(ps.map (zcv M.length)).length=M.length:=by rw[xE,hM3.len];exact hrows3
     have hou3:=hM3.outer;obtain⟨hMs,hmem,hnds⟩:=qdh hM3 (p:=p) (k:=k) (by omega) (by omega);simp only[r89_11,SS,fC,reduceIte,qQ,f7,f8,d1];simp only[r89_12,SS,fC,reduceIte,qQ,f3,f7,f8,qK,hou3,hol3,ok3,op3];have gs:getB (List.set H 1 (some ((List.map (zcv M.length) ps).set p (AV.sl (pid ps k) 0 M.length 2 (ps.getD k (0,none)).snd)))) 1=some ((List.map (zcv M.length) ps).set p (AV.sl (pid ps k) 0 M.length 2 (ps.getD k (0,none)).snd)):=zaw (zam hou3);simp only[SS,gs,qH,hol3,zU];refine⟨⟨by omega,by omega⟩,by omega,⟨by omega,by omega⟩,by omega,⟨by omega,by omega⟩,by omega,⟨by omega,by omega⟩,by omega,rfl,?_⟩;simp only[r89_13,SS,reduceIte,qQ,f6];simp only[r89_14,SS,reduceIte,qQ,f7,w6];have hnd6:=hnd3;simp only[qC,yQ,not_or]at hnd6
     have hnd7:(0::H1.length::1::(zgg ps p k).map (·.1)).Nodup:=by
      simp only[qC,yQ,not_or];exact⟨⟨hnd6.1.1,hnd6.1.2.1,λhm=>hnd6.1.2.2 ((hmem _).1 hm)⟩,⟨hnd6.2.1.1,λhm=>hnd6.2.1.2 ((hmem _).1 hm)⟩,λhm=>hnd6.2.2.1 ((hmem _).1 hm),hnds⟩
     refine jfd hB hN.2 hk (ps:=zgg ps p k) (b:=H1.length) (last:=last) (neg:=!neg) (M:=zec M' p k) ⟨hMs,by simp[zec,hrows3],?_,?_,?_,?_,?_,?_,⟨lu3,lv3,?_,hl3⟩,⟨ru3,rv3,?_⟩,hnd7⟩ ?_ hel (λE3 H3 hD3=>?rest2)
     case rest2=>
      obtain⟨hM4,hrows4,g2,g3,g4,g5,g6,g7,⟨lu4,lv4,hlast4,hl4⟩,⟨ru4,rv4,hres4⟩,hnd4⟩:=hD3;obtain⟨csk,gk,lk,rk,fk⟩:=zei hM4 (i:=k) (by omega);obtain⟨u,v,hx,hy⟩:=fk k hk;have ok:=zce (ps:=zgg ps p k) (n:=M.length) (i:=k) (by rw[hM4.len];omega);have hol:((zgg ps p k).map (zcv M.length)).length=M.length:=by rw[xE,hM4.len];exact hrows4
      have hou:=hM4.outer;obtain⟨ly,cy,hy1,hy2⟩:=zau hy;subst hy1 hy2;simp only[r89_21,SS,fC,reduceCtorEq,reduceIte,qZ,qQ,qX,g3,g5,g7,qK,hou,hol,ok,gk,lk,hx,hlast4];refine⟨⟨by omega,by omega⟩,by omega,⟨by omega,by omega⟩,by omega,?_⟩;simp only[r89_22,SS,reduceIte,qQ,g7,w6];have hnd5:=hnd4;simp only[qC,yQ,not_or]at hnd5;refine⟨m,_,_,by omega,⟨k+1,M2,_,(!neg),zgg ps p k,by omega,⟨zqe hM4 (λe=>hnd5.2.1.1 e) (λhm=>hnd5.2.1.2 hm),hrows4,?_,?_,?_,?_,?_,?_,⟨_,_,zaw (zam hlast4),hy⟩,⟨ru4,rv4,?_⟩,hnd4⟩,hdet⟩,.refl⟩
      ·simp only[UU,qQ,g2]
      ·simp only[UU,qQ,g3]
      ·simp only[UU,qQ,g4]
      ·simp only[UU,qQ,g5]
      ·simp only[UU,qQ,g6]
      ·rfl
      ·rw[zai (λe=>hnd5.1.1 e.symm)];exact hres4
     ·exact f2
     ·exact f3
     ·exact f4
     ·exact f5
     ·rfl
     ·exact f7
     ·rw[zai (λe=>hnd6.2.1.1 e.symm)];exact hlast3
     ·rw[zai (by decide)];exact hres3
     ·rfl
    ·rw[if_neg hkp]at hel hdet;have d1:decide ((k:Int)<(p:Nat))=false:=dF;simp only[r89_11,SS,fC,reduceIte,qQ,f7,f8,d1];simp only[r89_14,SS,reduceIte,qQ,f7,w6];refine jfd hB hN.2 hk (hD10.frame (λt ht=>?_)) ?_ hel (λE3 H3 hD3=>?rest2)
     case rest2=>
      obtain⟨hM4,hrows4,g2,g3,g4,g5,g6,g7,⟨lu4,lv4,hlast4,hl4⟩,⟨ru4,rv4,hres4⟩,hnd4⟩:=hD3;obtain⟨csk,gk,lk,rk,fk⟩:=zei hM4 (i:=k) (by omega);obtain⟨u,v,hx,hy⟩:=fk k hk;have ok:=zce (ps:=ps) (n:=M.length) (i:=k) (by rw[hM4.len];omega);have hol:((ps).map (zcv M.length)).length=M.length:=by rw[xE,hM4.len];exact hrows4
      have hou:=hM4.outer;obtain⟨ly,cy,hy1,hy2⟩:=zau hy;subst hy1 hy2;simp only[r89_21,SS,fC,reduceCtorEq,reduceIte,qZ,qQ,qX,g3,g5,g7,qK,hou,hol,ok,gk,lk,hx,hlast4];refine⟨⟨by omega,by omega⟩,by omega,⟨by omega,by omega⟩,by omega,?_⟩;simp only[r89_22,SS,reduceIte,qQ,g7,w6];have hnd5:=hnd4;simp only[qC,yQ,not_or]at hnd5;refine⟨m,_,_,by omega,⟨k+1,M2,_,neg,ps,by omega,⟨zqe hM4 (λe=>hnd5.2.1.1 e) (λhm=>hnd5.2.1.2 hm),hrows4,?_,?_,?_,?_,?_,?_,⟨_,_,zaw (zam hlast4),hy⟩,⟨ru4,rv4,?_⟩,hnd4⟩,hdet⟩,.refl⟩
      ·simp only[UU,qQ,g2]
      ·simp only[UU,qQ,g3]
      ·simp only[UU,qQ,g4]
      ·simp only[UU,qQ,g5]
      ·simp only[UU,qQ,g6]
      ·rfl
      ·rw[zai (λe=>hnd5.1.1 e.symm)];exact hres4
     ·repeat rw[zlp ht (by decide)]
     ·rfl
  ·repeat rw[zlp ht (by decide)]
  ·rfl
 ·have hm:m=0:=by omega
  subst hm;simp only[detG,qG]at hdet;have c4:qU [.agg [lu,lv]]=true:=by simp only[qU,hl.closed,yX]
  simp only[r89_23,SS,reduceIte,qQ,e6];refine⟨λhn=>?_,λhn=>?_⟩
  ·rw[if_pos hn]at hdet;obtain⟨w,hw,tn⟩:=zNeg hl;rw[hdet]at hw;have hw0:=hw;obtain⟨lw,cw,_,_,_,rfl⟩:=hw0;simp only[r89_24,SS,reduceIte,qZ,qQ,qX,e5,hlast];refine zaa tn ?_ c4;simp only[SS,reduceIte,qZ,qQ,qX,e2,hres];refine⟨.inl trivial,_,_,zfh (id:=0) (by exact e2) (zaw (zam hres)),.drop _ _ rfl (by intro i cs h;omega),hw.wk⟩
  ·rw[if_neg (by rw[hn];simp)]at hdet;subst hdet;obtain⟨lw,cw,h1,h2⟩:=zau hl;subst h1 h2;simp only[r89_25,SS,reduceIte,qZ,qQ,qX,e5,hlast,e2,hres];refine⟨.inl trivial,_,_,zfh (id:=0) (by exact e2) (zaw (zam hres)),.drop _ _ rfl (by intro i cs h;omega),hl.wk⟩
theorem icmp(m n:List Nat)(c d:Option Nat)(hm:m.length<16777216)(hn:n.length<16777216):Rt 155 [.vec (u32s m) m.length c,.vec (u32s n) n.length d] [] (.int .i64 (cmpL m n)) []:=by
 refine oF o155 ?_;simp only[c155,r155_0,r155_1,SS,reduceCtorEq,reduceIte,qQ];refine⟨λh=>?_,λh=>?_⟩
 ·rw[show cmpL m n= -1 by unfold cmpL;rw[if_neg (by omega),if_pos (by omega)]];simp only[r155_2,SS];exact kR
 simp only[r155_3,SS,reduceCtorEq,reduceIte,qQ];refine⟨λh2=>?_,λh2=>?_⟩
 ·rw[show cmpL m n=1 by unfold cmpL;rw[if_neg (by omega),if_neg (by omega)]];simp only[r155_4,SS];exact kR
 have h:m.length=n.length:=by omega
 rw[show cmpL m n=cmpN m n m.length by unfold cmpL;rw[if_pos h]];simp only[r155_5,SS,reduceCtorEq,reduceIte,qQ];refine zaj (λk E H=>k<=m.length/\cmpN m n k=cmpN m n m.length/\E 0= .vec (u32s m) m.length c/\E 1= .vec (u32s n) n.length d/\E 5= .int .i64 ((k:Int)-1)/\H=[]) (n:=m.length) ⟨by omega,rfl,?_,?_,?_,rfl⟩ ?_
 ·rfl
 ·rfl
 ·simp only[UU,qQ,reduceIte];rw[w64 (by omega) (by omega)]
 rintro k E H ⟨hk,ht,h0,h1,h5,rfl⟩;refine wM ?_;simp only[l155_0,r155_6,SS,reduceCtorEq,reduceIte,qQ,h5];refine⟨λhge=>?_,λhlt=>?_⟩
 ·obtain⟨k,rfl⟩:∃j,k=j+1:=⟨k-1,by omega⟩
  have e5:((k+1:Nat):Int)-1=(k:Nat):=by omega
  rw[e5]at h5;have g1:=zal m k (by omega) AV.junk;have g2:=zal n k (by omega) AV.junk;simp only[cmpN]at ht;simp only[r155_7,SS,fC,reduceCtorEq,reduceIte,qQ,e5,h0,h1,h5,qK,g1,g2,zae];refine⟨⟨by omega,by omega⟩,by omega,⟨by omega,by omega⟩,by omega,rfl,λhl=>?_,λhl=>?_⟩
  ·rw[if_neg (by omega),if_pos (by omega)]at ht;rw[<-ht];simp only[r155_8,SS];exact kR
  simp only[r155_9,SS,fC,reduceCtorEq,reduceIte,qQ,h0,h1,h5,qK,g1,g2,zae];refine⟨⟨by omega,by omega⟩,by omega,⟨by omega,by omega⟩,by omega,rfl,λhg=>?_,λhg=>?_⟩
  ·rw[if_neg (by omega),if_neg (by omega)]at ht;rw[<-ht];simp only[r155_10,SS];exact kR
  rw[if_pos (by omega)]at ht;simp only[r155_11,SS,reduceIte,qQ,h5];refine⟨k,_,_,by omega,⟨by omega,ht,?_,?_,?_,rfl⟩,.refl⟩
  ·simp only[UU,qQ, *]
  ·simp only[UU,qQ, *]
  ·simp only[UU,qQ,reduceIte];rw[w64 (by omega) (by omega)]
 ·obtain rfl:k=0:=by omega
  rw[<-ht];simp only[r155_12,SS];exact kR
theorem zof{m n out:List Nat}{i cy:Nat}(ho:i<out.length)(hz:out.getD i 0=0)(h:val out+4294967296^i*cy=val (m.take i)+val (n.take i)):
  val (out.set i ((cy+(m.getD i 0+n.getD i 0))%4294967296))+4294967296^(i+1)*((cy+(m.getD i 0+n.getD i 0))/4294967296)=val (m.take (i+1))+val (n.take (i+1)):=by
 have h1:=zgu (v:=(cy+(m.getD i 0+n.getD i 0))%4294967296) ho;rw[hz,xW,qI]at h1;rw[h1,zbk,zbk,xJ];generalize 4294967296^i=p at*
 have e:p*((cy+(m.getD i 0+n.getD i 0))%4294967296)+p*4294967296*((cy+(m.getD i 0+n.getD i 0))/4294967296)=p*cy+(p*m.getD i 0+p*n.getD i 0):=by
  rw[xK,<-xY,<-xY,<-xY,Nat.mod_add_div]
 omega
theorem zfq{l:List Nat}{i v t:Nat}(h:i<t):(l.set i v).getD t 0=l.getD t 0:=by
 rw[qJ,qJ,xG (by omega)]
theorem rep0(k i:Nat):(List.replicate k 0).getD i 0=0:=by rw[qJ,yJ];split<;>rfl
theorem zuw(k:Nat):val (List.replicate k 0)=0:=by
 induction k with
 |zero=>rfl
 |succ k ih=>simp only[xT,Limb.val,ih]
theorem zux(k:Nat):Dig (List.replicate k 0):=λd h=>by rw[(List.mem_replicate.1 h).2];decide
theorem znb(k:Nat):List.replicate k (AV.int .u32 0)=u32s (List.replicate k 0):=by simp[u32s]
theorem zbo(l:List Nat)(n:Nat)(c:Option Nat):(AV.vec (u32s l) n c).closed=true:=by simp only[AV.closed]
theorem zhd{f:FuncId}{id n:Nat}{c:Option Nat}{l:List Nat}{v:AV}{H:Heap}{K:AV->Eff->List Nat->Nat->Prop}(h:Rt f [.vec (u32s l) n c] [] v [])(hid:H[id]?=some (some (u32s l)))(hn:n=l.length)(hv:v.closed=true)(hk:K v [(id,none)] [id] 0):ziv Tryz.prog G f [.sl id 0 n 1 c] H K:=
 zfp (d:=2) (args0:=[.sl 0 0 n 1 c]) h hid (by simp[qam hn]) (by simp[AV.ren,zan]) hk rfl (zao l) hv
theorem qxa(m n:List Nat)(c d:Option Nat)(hn:n.length<=m.length)(hm:m.length<=1100)(dm:Dig m)(dn:Dig n){E:Env}{Q:Post}(e0:E 0= .vec (u32s m) m.length c)(e1:E 1= .vec (u32s n) n.length d)
  (hQ:∀E' H',E' 4= .vec (u32s (zav (val m+val n))) (zav (val m+val n)).length (some (m.length+1))->Q .ret E' H'):
  Wg 0 83 (.seq (rN r205_3) (.seq (rN r205_4) (.seq (.seq (rN r205_5) (.block 0 (.loop l205_0))) (.seq (.seq (rN r205_12) (.block 2 (.loop l205_1))) (.seq (rN r205_19) (.seq (rN r205_20) .ret)))))) E [] Q:=by
 refine wM ?_;have w1:=wS1 m.length (by omega);simp only[r205_3,r205_4,r205_5,SS,reduceIte,qQ,e0,e1,w1,znb,qK];refine⟨by omega,⟨by omega,by omega,by omega,by omega⟩,?_⟩
 refine zaj (λk E H=>∃i cy out,i+k=n.length/\out.length=m.length+1/\Dig out/\(∀t,i<=t->out.getD t 0=0)/\cy<=1/\val out+4294967296^i*cy=val (m.take i)+val (n.take i)/\
   E 0= .vec (u32s m) m.length c/\E 1= .vec (u32s n) n.length d/\E 5= .sl 0 0 (m.length+1) 1 (some (m.length+1))/\E 6= .int .u64 (cy:Nat)/\E 21= .int .i64 (n.length:Nat)/\E 22= .int .i64 (i:Nat)/\H=[some (u32s out)]) (n:=n.length)
  ⟨0,0,List.replicate (m.length+1) 0,by omega,by simp,zux _,λt _=>rep0 _ t,by omega,by rw[zuw];rfl,?_,?_,?_,?_,?_,?_,rfl⟩ ?_
 ·exact e0
 ·exact e1
 ·rfl
 ·rfl
 ·rfl
 ·rfl
 clear e0 e1 E;rintro k E H ⟨i,cy,out,hik,hol,hd,hz,hcy,hv,h0,h1,h5,h6,h21,h22,rfl⟩;refine wM ?_;have bm:=dm.getD i;have bn:=dn.getD i;cases k with
 |succ k=>
  have g1:=zal m i (by omega) AV.junk;have g2:=zal n i (by omega) AV.junk;have d1:decide ((i:Int)<(n.length:Nat))=true:=dT;have w2:IntKind.u64.wrap (((m.getD i 0:Nat):Int)+((n.getD i 0:Nat):Int))=((m.getD i 0+n.getD i 0:Nat):Int):=by rw[<-qL];exact zbg (by omega)
  have w3:IntKind.u64.wrap ((cy:Int)+((m.getD i 0+n.getD i 0:Nat):Int))=((cy+(m.getD i 0+n.getD i 0):Nat):Int):=by rw[<-qL];exact zbg (by omega)
  have w5:=wS1 i (by omega);simp only[l205_0,r205_6,r205_7,r205_8,SS,fC,reduceCtorEq,reduceIte,qQ,h0,h1,h6,h21,h22,d1,qK,g1,g2,zae,zbg (show m.getD i 0<18446744073709551616 by omega),zbg (show n.getD i 0<18446744073709551616 by omega),w2,w3];refine⟨⟨by omega,by omega⟩,by omega,⟨by omega,by omega⟩,by omega,rfl,?_⟩;simp only[r205_9,r205_10,r205_11,SS,reduceIte,qQ,h5,h22,qK,wu32,zlm,zae,zbq,w5];refine⟨by omega,by omega,by omega,k,_,_,by omega,⟨i+1,_,_,by omega,by rw[qH];exact hol,hd.set (xA _ (by decide)),λt ht=>by rw[zfq (by omega)];exact hz t (by omega),by omega,zof (by omega) (hz i (qY _)) hv,?_,?_,?_,?_,?_,?_,rfl⟩,.refl⟩
  all_goals simp only[UU,qQ,reduceIte, *]
 |zero=>
  obtain rfl:i=n.length:=by omega
  have d1:decide ((n.length:Int)<(n.length:Nat))=false:=dF;have wd:IntKind.i64.wrap ((m.length:Int)-(n.length:Int))=((m.length-n.length:Nat):Int):=wQ (by omega);simp only[l205_0,r205_6,SS,fC,reduceIte,h21,h22,d1];simp only[r205_12,SS,reduceCtorEq,reduceIte,qQ,h0,h1,wd]
  refine zaj (λk E H=>∃i cy out,i+k=m.length/\n.length<=i/\out.length=m.length+1/\Dig out/\(∀t,i<=t->out.getD t 0=0)/\cy<=1/\val out+4294967296^i*cy=val (m.take i)+val (n.take i)/\
    E 0= .vec (u32s m) m.length c/\E 1= .vec (u32s n) n.length d/\E 5= .sl 0 0 (m.length+1) 1 (some (m.length+1))/\E 6= .int .u64 (cy:Nat)/\E 50= .int .i64 ((m.length-n.length:Nat):Int)/\E 51= .int .i64 ((i-n.length:Nat):Int)/\H=[some (u32s out)]) (n:=m.length-n.length)
   ⟨n.length,cy,out,by omega,qY _,hol,hd,hz,hcy,hv,?_,?_,?_,?_,?_,?_,rfl⟩ ?_
  ·simp only[UU,qQ,h0]
  ·simp only[UU,qQ,h1]
  ·simp only[UU,qQ,h5]
  ·simp only[UU,qQ,h6]
  ·rfl
  ·simp only[UU,qQ,reduceIte,yA];rfl
  clear hik hz hd hv hcy hol h0 h1 h5 h6 h21 h22 d1;rintro k E H ⟨i,cy,out,hik,hni,hol,hd,hz,hcy,hv,h0,h1,h5,h6,h21,h22,rfl⟩;refine wM ?_;have bm:=dm.getD i;have bn:n.getD i 0=0:=zgv hni;cases k with
  |succ k=>
   have g1:=zal m i (by omega) AV.junk;have d1:decide (((i-n.length:Nat):Int)<((m.length-n.length:Nat):Int))=true:=dT;have w4:IntKind.i64.wrap ((n.length:Int)+((i-n.length:Nat):Int))=(i:Int):=wQ (by omega);have w3:IntKind.u64.wrap ((cy:Int)+((m.getD i 0:Nat):Int))=((cy+(m.getD i 0+n.getD i 0):Nat):Int):=by rw[bn,qI,<-qL];exact zbg (by omega)
   have w5:IntKind.i64.wrap (((i-n.length:Nat):Int)+1)=((i+1-n.length:Nat):Int):=wQ (by omega);simp only[l205_1,r205_13,r205_14,r205_15,SS,fC,reduceCtorEq,reduceIte,qQ,h0,h1,h6,h21,h22,d1,w4,qK,g1,zae,zbg (show m.getD i 0<18446744073709551616 by omega),w3];refine⟨⟨by omega,by omega⟩,by omega,?_⟩;simp only[r205_16,r205_17,r205_18,SS,reduceIte,qQ,h1,h5,h22,w4,qK,wu32,zlm,zae,zbq,w5];refine⟨⟨by omega,by omega⟩,by omega,by omega,k,_,_,by omega,⟨i+1,_,_,by omega,by omega,by rw[qH];exact hol,hd.set (xA _ (by decide)),λt ht=>by rw[zfq (by omega)];exact hz t (by omega),by omega,zof (by omega) (hz i (qY _)) hv,?_,?_,?_,?_,?_,?_,rfl⟩,.refl⟩
   all_goals simp only[UU,qQ,reduceIte, *]
  |zero=>
   obtain rfl:i=m.length:=by omega
   have d1:decide (((m.length-n.length:Nat):Int)<((m.length-n.length:Nat):Int))=false:=dF;have hv2:=zgu (i:=m.length) (v:=cy) (l:=out) (by omega);rw[hz m.length (qY _),xW,qI,hv,qM,qW hn]at hv2;have hc:zbn (zbi (out.set m.length cy)):=zbc (hd.set (by omega));have hL:zbi (out.set m.length cy)=zav (val m+val n):=zdk hc (zak _) (by rw[zbp,hv2,zaq]);have t1:=zpv (out.set m.length cy) (some (m.length+1)) (by rw[qH];omega);rw[hL,qH,hol]at t1;simp only[l205_1,r205_13,SS,fC,reduceIte,h21,h22,d1];simp only[r205_19,r205_20,SS,reduceCtorEq,reduceIte,qQ,h0,h5,h6,qK,zmz (show cy<4294967296 by omega),zae,zbq];refine⟨⟨by omega,by omega⟩,by omega,?_⟩;refine zhd t1 rfl (by rw[qH];exact hol.symm) (zbo _ _ _) ?_;simp only[zaf,zac,xB,xM,SS,reduceIte,qQ];exact hQ _ _ (by rfl)
theorem jak(m n:List Nat)(c d:Option Nat)(hm:m.length<=1100)(hn:n.length<=1100)(dm:Dig m)(dn:Dig n):
  ∃c',Rt 205 [.vec (u32s m) m.length c,.vec (u32s n) n.length d] [] (.vec (u32s (zav (val m+val n))) (zav (val m+val n)).length c') []:=by
 refine⟨some (max m.length n.length+1),?_⟩;refine oFW o205 ?_;simp only[c205];refine wW ?_;simp only[r205_0,SS];refine zki (wM ?_);by_cases h:m.length<n.length
 ·have d1:decide ((m.length:Int)<(n.length:Nat))=true:=dT;simp only[r205_1,r205_2,SS,fC,reduceCtorEq,reduceIte,qQ,d1];rw[Nat.add_comm (val m)]at*;rw[Nat.max_eq_right (by omega)];refine qxa n m d c (by omega) hn dn dm (by rfl) (by rfl) λE' H' h=>⟨.inl rfl,_,by simp[resA,zeh,h],.drop _ _ rfl (by intro i cs h;omega)⟩
 ·have d1:decide ((m.length:Int)<(n.length:Nat))=false:=dF;simp only[r205_1,SS,fC,reduceCtorEq,reduceIte,qQ,d1];rw[Nat.max_eq_left (by omega)];refine qxa m n c d (by omega) hm dm dn (by rfl) (by rfl) λE' H' h=>⟨.inl rfl,_,by simp[resA,zeh,h],.drop _ _ rfl (by intro i cs h;omega)⟩
theorem qlk(x:Nat):Int.fdiv (x:Int) (2^min (Int.toNat 63) IntKind.u64.bits)=((x/9223372036854775808:Nat):Int):=by
 show Int.fdiv (x:Int) 9223372036854775808=_
 rw[yE _ (by decide)];omega
def subT(a b:Nat):Nat:=(a+18446744073709551616-b)%18446744073709551616
theorem jim{a b:Nat}(ha:a<4294967296)(hb:b<=1):IntKind.u64.wrap ((a:Int)-(b:Int))=(subT a b:Nat):=by
 unfold subT;simp[IntKind.wrap,IntKind.bits,IntKind.signed];omega
theorem jin{a b c:Nat}(ha:a<4294967296)(hb:b<=1)(hc:c<4294967296):IntKind.u64.wrap ((subT a b:Nat)-(c:Int))=(subT a (b+c):Nat):=by
 unfold subT;simp[IntKind.wrap,IntKind.bits,IntKind.signed];omega
theorem zuy{a b:Nat}(hb:b<=4294967296):subT a b%4294967296=(a+8589934592-b)%4294967296:=by unfold subT;omega
theorem qas{a b:Nat}(ha:a<4294967296)(hb:b<=4294967296):subT a b/9223372036854775808=brw a b:=by unfold subT brw;split<;>omega
theorem qdj{m n out:List Nat}{i b:Nat}(ho:i<out.length)(hz:out.getD i 0=0)(hm:m.getD i 0<4294967296)(hb:b+n.getD i 0<=4294967296)(h:val (m.take i)+4294967296^i*b=val out+val (n.take i)):
  val (m.take (i+1))+4294967296^(i+1)*brw (m.getD i 0) (b+n.getD i 0)=val (out.set i (subT (m.getD i 0) (b+n.getD i 0)%4294967296))+val (n.take (i+1)):=by
 have h1:=zgu (v:=subT (m.getD i 0) (b+n.getD i 0)%4294967296) ho;rw[hz,xW,qI,zuy hb]at h1;rw[zuy hb];exact qkp (zbk m i) (zbk n i) h1 (pw i) (zuk hm hb) h
theorem qll(m n:List Nat)(c d:Option Nat)(hn:n.length<=m.length)(hm:m.length<=1100)(dm:Dig m)(dn:Dig n)(hle:val n<=val m):
  Rt 206 [.vec (u32s m) m.length c,.vec (u32s n) n.length d] [] (.vec (u32s (zav (val m-val n))) (zav (val m-val n)).length (some m.length)) []:=by
 refine oF o206 ?_;simp only[c206,r206_0,r206_1,r206_2,r206_3,SS,reduceCtorEq,reduceIte,qQ,znb,qK];refine⟨by omega,⟨by omega,by omega,by omega,by omega⟩,?_⟩
 refine zaj (λk E H=>∃i b out,i+k=m.length/\out.length=m.length/\Dig out/\(∀t,i<=t->out.getD t 0=0)/\b<=1/\val (m.take i)+4294967296^i*b=val out+val (n.take i)/\
   E 0= .vec (u32s m) m.length c/\E 1= .vec (u32s n) n.length d/\E 5= .sl 0 0 m.length 1 (some m.length)/\E 6= .int .u64 (b:Nat)/\E 13= .int .i64 (m.length:Nat)/\E 14= .int .i64 (i:Nat)/\H=[some (u32s out)]) (n:=m.length)
  ⟨0,0,List.replicate m.length 0,by omega,by simp,zux _,λt _=>rep0 _ t,by omega,by rw[zuw];rfl,?_,?_,?_,?_,?_,?_,rfl⟩ ?_
 ·rfl
 ·rfl
 ·rfl
 ·rfl
 ·rfl
 ·rfl
 rintro k E H ⟨i,b,out,hik,hol,hd,hz,hb,hv,h0,h1,h5,h6,h13,h14,rfl⟩;refine wM ?_;have bm:=dm.getD i;have bn:=dn.getD i;cases k with
 |succ k=>
  have g1:=zal m i (by omega) AV.junk;have d1:decide ((i:Int)<(m.length:Nat))=true:=dT;have w5:=wS1 i (by omega);have t1:=jim bm hb;have t2:=jin bm hb bn;have lo:=qas bm (show b+n.getD i 0<=4294967296 by omega);simp only[l206_0,r206_4,r206_5,r206_6,SS,fC,reduceCtorEq,reduceIte,qQ,h0,h6,h13,h14,d1,qK,g1,zae,zbg (show m.getD i 0<18446744073709551616 by omega),t1];refine⟨⟨by omega,by omega⟩,by omega,?_⟩;by_cases hin:i<n.length
  ·have g2:=zal n i hin AV.junk;have d2:decide ((i:Int)<(n.length:Nat))=true:=dT;simp only[r206_7,r206_8,r206_9,r206_10,r206_11,SS,fC,reduceIte,qQ,h1,h5,h14,d2,qK,g2,zae,zbg (show n.getD i 0<18446744073709551616 by omega),t2,wu32,zbq,qlk,lo,w5];refine⟨⟨by omega,by omega⟩,by omega,⟨by omega,by omega⟩,by omega,by omega,k,_,_,by omega,⟨i+1,_,_,by omega,by rw[qH];exact hol,hd.set (xA _ (by decide)),λt ht=>by rw[zfq (by omega)];exact hz t (by omega),qcy _ _,qdj (by omega) (hz i (qY _)) bm (by omega) hv,?_,?_,?_,?_,?_,?_,rfl⟩,.refl⟩
   all_goals simp only[UU,qQ,reduceIte, *]
  ·have d2:decide ((i:Int)<(n.length:Nat))=false:=dF;have e0:n.getD i 0=0:=zgv (by omega);have st:=qdj (by omega) (hz i (qY _)) bm (by omega) hv;simp only[e0,qI]at st lo;simp only[r206_7,r206_9,r206_10,r206_11,SS,fC,reduceIte,qQ,h1,h5,h14,d2,qK,zae,wu32,zbq,qlk,lo,w5];refine⟨⟨by omega,by omega⟩,by omega,by omega,k,_,_,by omega,⟨i+1,_,_,by omega,by rw[qH];exact hol,hd.set (xA _ (by decide)),λt ht=>by rw[zfq (by omega)];exact hz t (by omega),qcy _ _,st,?_,?_,?_,?_,?_,?_,rfl⟩,.refl⟩
   all_goals simp only[UU,qQ,reduceIte, *]
 |zero=>
  obtain rfl:i=m.length:=by omega
  have d1:decide ((m.length:Int)<(m.length:Nat))=false:=dF;rw[qM,qW hn]at hv;have hlt:=zfc hd;rw[hol]at hlt;have b0:=qcz hv hlt hle hb;rw[b0,xW,qI]at hv;have hL:zbi out=zav (val m-val n):=zdk (zbc hd) (zak _) (by rw[zbp,zaq];omega);have t1:=zpv out (some m.length) (by omega);rw[hL,hol]at t1;simp only[l206_0,r206_4,SS,fC,reduceCtorEq,reduceIte,h13,h14,d1];simp only[r206_12,SS,reduceIte,qQ,h5];refine zhd t1 rfl hol.symm (zbo _ _ _) ?_;simp only[zaf,zac,xB,xM,SS,reduceIte,qQ];exact dR
theorem znc{x y:Int}(m n:List Nat)(c d:Option Nat)(hm:m.length<=1100)(hn:n.length<=1100)(cm:zbn m)(cn:zbn n)(vm:val m=x.natAbs)(vn:val n=y.natAbs)(s t:Bool)(hs:sgnZ s x.natAbs=x)(ht:sgnZ t y.natAbs=y)(hf:(x+y).natAbs<BIG):
  ∃v,zap (x+y) v/\Rt 216 [.bool s,.vec (u32s m) m.length c,.bool t,.vec (u32s n) n.length d] [] v []:=by
 have t3:=icmp m n c d (by omega) (by omega);rw[zdw cm cn]at t3;have big:∀k,k<BIG->(zav k).length<=1100:=λk hk=>canon_len (zak k) (by rw[zaq];exact hk)
 by_cases hst:s=t
 ·subst hst;obtain⟨c1,t1⟩:=jak m n c d hm hn cm.1 cn.1;have e:sgnZ s (val m+val n)=x+y:=by rw[vm,vn];unfold sgnZ at *;split at hs<;>split at ht<;>split<;>simp_all<;>omega
  have ea:(x+y).natAbs=val m+val n:=by rw[<-e,zgm]
  obtain⟨v,iv,t2⟩:=zih s c1 (zak (val m+val n)) (big _ (by rw[<-ea];exact hf));rw[zaq,e]at iv;obtain⟨l',c',_,_,_,rfl⟩:=iv;refine⟨_,⟨l',c',by assumption,by assumption,by assumption,rfl⟩,?_⟩;refine oF o216 ?_;simp only[c216,r216_0,r216_1,SS,fC,reduceCtorEq,reduceIte,qQ,beq_self_eq_true];simp only[r216_2,SS,reduceCtorEq,reduceIte,qQ];refine zaa t1 ?_ rfl (zbo _ _ _);simp only[SS,reduceIte,qQ];refine zaa t2 ?_;simp only[SS,reduceIte,qZ,qQ,qX];exact dR
 ·have hst':(s == t)=false:=by cases s<;>cases t<;>simp_all
  by_cases hc:val n<=val m
  ·have hsg:decide ((0:Int)<=sgn (val m) (val n))=true:=decide_eq_true (by unfold sgn;split<;>(try split)<;>omega)
   have hl:n.length<=m.length:=by
    have h:=hc;rcases xV m.length n.length with h1 | h1
    ·have h2:=zfc cm.1;have h3:=zft cn.2 (by intro e;rw[e]at h1;simp at h1);have h4:4294967296^m.length<=4294967296^(n.length-1):=qP (by decide) (by omega);omega
    ·exact h1
   have t1:=qll m n c d hl hm cm.1 cn.1 hc;have e:sgnZ s (val m-val n)=x+y:=by rw[vm,vn]at *;unfold sgnZ at *;cases s<;>cases t<;>simp_all<;>omega
   have ea:(x+y).natAbs=val m-val n:=by rw[<-e,zgm]
   obtain⟨v,iv,t2⟩:=zih s (some m.length) (zak (val m-val n)) (big _ (by rw[<-ea];exact hf));rw[zaq,e]at iv;obtain⟨l',c',_,_,_,rfl⟩:=iv;refine⟨_,⟨l',c',by assumption,by assumption,by assumption,rfl⟩,?_⟩;refine oF o216 ?_;simp only[c216,r216_0,r216_1,SS,fC,reduceCtorEq,reduceIte,qQ,hst'];simp only[r216_3,SS,reduceIte,qQ];refine zaa t3 ?_;simp only[SS,fC,reduceIte,qQ,hsg];simp only[r216_4,SS,reduceCtorEq,reduceIte,qQ];refine zaa t1 ?_ rfl (zbo _ _ _);simp only[SS,reduceIte,qQ];refine zaa t2 ?_;simp only[SS,reduceIte,qZ,qQ,qX];exact dR
  ·have hsg:decide ((0:Int)<=sgn (val m) (val n))=false:=decide_eq_false (by unfold sgn;rw[if_pos (by omega)];omega)
   have hl:m.length<=n.length:=by
    rcases xV n.length m.length with h1 | h1
    ·have h2:=zfc cn.1;have h3:=zft cm.2 (by intro e;rw[e]at h1;simp at h1);have h4:4294967296^n.length<=4294967296^(m.length-1):=qP (by decide) (by omega);omega
    ·exact h1
   have t1:=qll n m d c hl hn cn.1 cm.1 (by omega);have e:sgnZ t (val n-val m)=x+y:=by rw[vm,vn]at *;unfold sgnZ at *;cases s<;>cases t<;>simp_all<;>omega
   have ea:(x+y).natAbs=val n-val m:=by rw[<-e,zgm]
   obtain⟨v,iv,t2⟩:=zih t (some n.length) (zak (val n-val m)) (big _ (by rw[<-ea];exact hf));rw[zaq,e]at iv;obtain⟨l',c',_,_,_,rfl⟩:=iv;refine⟨_,⟨l',c',by assumption,by assumption,by assumption,rfl⟩,?_⟩;refine oF o216 ?_;simp only[c216,r216_0,r216_1,SS,fC,reduceCtorEq,reduceIte,qQ,hst'];simp only[r216_3,SS,reduceIte,qQ];refine zaa t3 ?_;simp only[SS,fC,reduceIte,qQ,hsg];simp only[r216_5,SS,reduceIte,qQ];refine zaa t1 ?_ rfl (zbo _ _ _);simp only[SS,reduceIte,qQ];refine zaa t2 ?_;simp only[SS,reduceIte,qZ,qQ,qX];exact dR
theorem iAdd{x y:Int}{a b:AV}(ha:zap x a)(hb:zap y b)(hf:(x+y).natAbs<BIG):∃v,zap (x+y) v/\Rt 215 [a,b] [] v []:=by
 obtain⟨l,c,hc,hl,hv,rfl⟩:=ha;obtain⟨r,d,hd,hlr,hw,rfl⟩:=hb;have t1:=zfu c hc (by omega);have t2:=zfu d hd (by omega);obtain⟨v,iv,t3⟩:=znc l r c d hl hlr hc hd hv hw _ _ (zus x) (zus y) hf;obtain⟨l',c',_,_,_,rfl⟩:=iv;refine⟨_,⟨l',c',by assumption,by assumption,by assumption,rfl⟩,?_⟩;refine oF o215 ?_;simp only[c215,r215_0,r215_1,SS,fC,reduceCtorEq,reduceIte,qZ,qQ,qX];refine zaa t1 ?_;simp only[SS,fC,reduceIte,qZ,qQ,qX];refine zaa t2 ?_;simp only[SS,reduceIte,qQ];refine zaa t3 ?_;simp only[SS,reduceIte,qZ,qQ,qX];refine⟨rfl,?_⟩;exact dR
theorem iSub{x y:Int}{a b:AV}(ha:zap x a)(hb:zap y b)(hf:(x-y).natAbs<BIG):∃v,zap (x-y) v/\Rt 189 [a,b] [] v []:=by
 obtain⟨l,c,hc,hl,hv,rfl⟩:=ha;obtain⟨r,d,hd,hlr,hw,rfl⟩:=hb;have t1:=zfu c hc (by omega);have t2:=zfu d hd (by omega);obtain⟨v,iv,t3⟩:=znc (y:= -y) l r c d hl hlr hc hd hv (by omega) _ (!decide (y<0)) (zus x) (by rw[show(-y).natAbs=y.natAbs by omega];exact qlf y) hf;obtain⟨l',c',_,_,_,rfl⟩:=iv;refine⟨_,⟨l',c',by assumption,by assumption,by assumption,rfl⟩,?_⟩;refine oF o189 ?_;simp only[c189,r189_0,r189_1,SS,fC,reduceCtorEq,reduceIte,qZ,qQ,qX];refine zaa t1 ?_;simp only[SS,fC,reduceIte,qZ,qQ,qX];refine zaa t2 ?_;simp only[SS,reduceIte,qQ];refine zaa t3 ?_;simp only[SS,reduceIte,qZ,qQ,qX];refine⟨rfl,?_⟩;exact dR
theorem jio{x:Int}{a b:AV}(ha:zap x a)(hb:zap x b):Rt 67 [a,b] [] (.int .i64 0) []:=by
 have s1:=zpx ha;have s2:=zpx hb;obtain⟨l,c,hc,hl,hv,rfl⟩:=ha;obtain⟨r,d,hd,hlr,hw,rfl⟩:=hb;obtain rfl:l=r:=zdk hc hd (hv.trans hw.symm);have t1:=zfu c hc (by omega);have t2:=zfu d hd (by omega);have t3:=icmp l l c d (by omega) (by omega);rw[zdw hc hc,show sgn (val l) (val l)=0 by unfold sgn;rw[if_neg (by omega),if_pos rfl]]at t3;have d1:decide (x.sign<x.sign)=false:=dF;refine oF o67 ?_;simp only[c67,r67_0,r67_1,SS,reduceCtorEq,reduceIte,qZ,qQ,qX];refine zaa s1 ?_;simp only[SS,reduceIte,qZ,qQ,qX];refine zaa s2 ?_;simp only[SS,reduceIte,qQ];refine⟨rfl,?_⟩;simp only[r67_2,r67_4,SS,fC,reduceIte,qQ,d1];simp only[r67_6,SS,fC,reduceIte,qZ,qQ,qX];refine zaa t1 ?_;simp only[SS,fC,reduceIte,qZ,qQ,qX];refine zaa t2 ?_;simp only[SS,reduceIte,qQ];refine zaa t3 ?_;simp only[SS,reduceIte,qQ,Int.mul_zero];refine⟨rfl,?_⟩;exact dR
