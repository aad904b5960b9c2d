/- A part of the proof. -/
import Derived.Test.YtbjdfanphdfkdaaGreatDoorPF
import Derived.KernelRfl
set_option linter.all false
set_option maxRecDepth 100000
open List renaming getD_eq_getElem?_getD -> qX, take_of_length_le -> qZ, length_cons -> qY, take_length -> qU, length_take -> qA, getElem?_eq_getElem -> qE, getElem?_set_ne -> qH, take_add_one -> qN
open Nat renaming mul_assoc -> qJ, mul_add -> qK, pow_succ -> qW, pow_le_pow_right -> qV, mul_zero -> qB, lt_of_lt_of_le -> qC, le_refl -> qD, add_zero -> qG, mul_le_mul_left -> qI, mod_lt -> qL, mul_comm -> qM, lt_or_ge -> qO
namespace Go.Limb
def val:List Nat->Nat
 | []=>0
 |d::r=>d+4294967296*val r
def Dig(l:List Nat):Prop:= ∀d∈l,d<4294967296
def Top:List Nat->Prop
 | []=>True
 | [d]=>d≠0
 |_::d::r=>Top (d::r)
def zck(l:List Nat):Prop:=Dig l/\Top l
theorem Dig.nil:Dig []:=by intro d h;simp at h
theorem Dig.cons{d:Nat}{r:List Nat}(h:d<4294967296)(hr:Dig r):Dig (d::r):=by
 intro x hx;rcases List.mem_cons.1 hx with e | e
 ·rw[e];exact h
 ·exact hr x e
theorem Dig.head{d:Nat}{r:List Nat}(h:Dig (d::r)):d<4294967296:=h d (by simp)
theorem Dig.tail{d:Nat}{r:List Nat}(h:Dig (d::r)):Dig r:=λx hx=>h x (by simp[hx])
theorem Dig.append{l r:List Nat}(h:Dig l)(hr:Dig r):Dig (l++r):=by
 intro x hx;rcases List.mem_append.1 hx with e | e
 ·exact h x e
 ·exact hr x e
theorem Dig.take{l:List Nat}(h:Dig l)(n:Nat):Dig (l.take n):=λx hx=>h x (List.mem_of_mem_take hx)
theorem Dig.getD{l:List Nat}(h:Dig l)(i:Nat):l.getD i 0<4294967296:=by
 rw[qX];cases e:l[i]? with
 |none=>simp
 |some x=>exact h x (List.mem_of_getElem? e)
theorem zck.nil:zck []:=⟨Dig.nil,trivial⟩
theorem Top.tail{d:Nat}{r:List Nat}(h:Top (d::r)):Top r:=by
 cases r with
 |nil=>trivial
 |cons x r=>exact h
theorem zck.tail{d:Nat}{r:List Nat}(h:zck (d::r)):zck r:=⟨h.1.tail,h.2.tail⟩
theorem zes(l r:List Nat):val (l++r)=val l+4294967296^l.length*val r:=by
 induction l with
 |nil=>simp[val]
 |cons d l ih=>
  simp only[List.cons_append,val,ih,qY,qW,qK]
  have:4294967296*(4294967296^l.length*val r)=4294967296^l.length*4294967296*val r:=by
   rw[<-qJ,qM 4294967296]
  omega
theorem zlf{l:List Nat}(h:Dig l):val l<4294967296^l.length:=by
 induction l with
 |nil=>simp[val]
 |cons d l ih=>
  have h1:=ih h.tail;have h2:=h.head;simp only[val,qY,qW];have:val l+1<=4294967296^l.length:=h1;have:(val l+1)*4294967296<=4294967296^l.length*4294967296:=Nat.mul_le_mul_right _ this;omega
theorem zmp{l:List Nat}(ht:Top l)(hl:l≠[]):4294967296^(l.length-1)<=val l:=by
 induction l with
 |nil=>exact absurd rfl hl
 |cons d l ih=>
  cases l with
  |nil=>
   have:d≠0:=ht;simp[val];omega
  |cons x r=>
   have:=ih ht.tail (by simp);simp only[qY,Nat.add_sub_cancel]at this ⊢;rw[val,qW];omega
theorem zlg:∀{l r:List Nat},zck l->zck r->val l=val r->l=r:=by
 intro l
 induction l with
 |nil=>
  intro r _ hr h;cases r with
  |nil=>rfl
  |cons x r=>
   have h1:=zmp hr.2 (by simp);have h2:0<4294967296^((x::r).length-1):=Nat.pow_pos (by decide);rw[<-h]at h1;simp only[val]at h1;omega
 |cons d l ih=>
  intro r hl hr h;cases r with
  |nil=>
   have h1:=zmp hl.2 (by simp);have h2:0<4294967296^((d::l).length-1):=Nat.pow_pos (by decide);rw[h]at h1;simp only[val]at h1;omega
  |cons x r=>
   simp only[val]at h;have h1:=hl.1.head;have h2:=hr.1.head;have:d=x/\val l=val r:=by omega
   rw[this.1,ih hl.tail hr.tail this.2]
theorem qck{l:List Nat}(h:zck l):val l=0↔l=[]:=by
 constructor
 ·intro e;exact zlg h zck.nil e
 ·intro e;rw[e];rfl
def zhh(l:List Nat):Nat->Nat
 |0=>0
 |n+1=>if l.getD n 0=0 then zhh l n else n+1
theorem zjg(l:List Nat)(n:Nat):zhh l n<=n:=by
 induction n with
 |zero=>simp[zhh]
 |succ n ih=>simp only[zhh];split<;>omega
def zbd(l:List Nat):List Nat:=l.take (zhh l l.length)
theorem qgd{l:List Nat}{d:Nat}(h:d≠0):Top (l++[d]):=by
 induction l with
 |nil=>exact h
 |cons x l ih=>
  cases l with
  |nil=>exact h
  |cons y l=>exact ih
theorem zrw(l:List Nat):∀n,n<=l.length->Top (l.take (zhh l n))/\val (l.take (zhh l n))=val (l.take n):=by
 intro n
 induction n with
 |zero=>intro _;simp[zhh,Top]
 |succ n ih=>
  intro hn
  have e:l.take (n+1)=l.take n++[l.getD n 0]:=by
   rw[qN,qX,qE (by omega)];rfl
  simp only[zhh];split
  ·rename_i h0;obtain⟨h1,h2⟩:=ih (by omega);refine⟨h1,?_⟩;rw[h2,e,zes,h0];simp[val]
  ·rename_i h0;refine⟨?_,rfl⟩;rw[e];exact qgd h0
theorem zbj{l:List Nat}(h:Dig l):zck (zbd l):=⟨h.take _,(zrw l l.length (qD _)).1⟩
theorem zco(l:List Nat):val (zbd l)=val l:=by
 have:=(zrw l l.length (qD _)).2;rw[qU]at this;exact this
theorem zih(l:List Nat):(zbd l).length=zhh l l.length:=by
 unfold zbd;rw[qA];have:=zjg l l.length;omega
def cmpN(m n:List Nat):Nat->Int
 |0=>0
 |i+1=>if m.getD i 0=n.getD i 0 then cmpN m n i else if m.getD i 0<n.getD i 0 then -1 else 1
def cmpL(m n:List Nat):Int:=if m.length=n.length then cmpN m n m.length else if m.length<n.length then -1 else 1
def sgn(a b:Nat):Int:=if a<b then -1 else if a=b then 0 else 1
theorem zmq{l:List Nat}{n:Nat}(h:n<l.length):l.take (n+1)=l.take n++[l.getD n 0]:=by
 rw[qN,qX,qE h];rfl
theorem qlc{m n:List Nat}(hm:Dig m)(hn:Dig n):∀i,i<=m.length->i<=n.length->cmpN m n i=sgn (val (m.take i)) (val (n.take i)):=by
 intro i
 induction i with
 |zero=>intro _ _;simp[cmpN,sgn,val]
 |succ i ih=>
  intro h1 h2;have e1:=zmq (l:=m) (n:=i) (by omega);have e2:=zmq (l:=n) (n:=i) (by omega);have l1:=zlf (hm.take i);have l2:=zlf (hn.take i);have n1:(m.take i).length=i:=by rw[qA];omega
  have n2:(n.take i).length=i:=by rw[qA];omega
  rw[n1]at l1;rw[n2]at l2;rw[cmpN,ih (by omega) (by omega),e1,e2,zes,zes,n1,n2];simp only[val,qB,qG];generalize val (m.take i)=a at*;generalize val (n.take i)=b at*;generalize m.getD i 0=x at*;generalize n.getD i 0=y at*;generalize 4294967296^i=p at*;unfold sgn;split
  ·rename_i h;subst h;have:(a+p*x<b+p*x)↔a<b:=by omega
   have h3:(a+p*x=b+p*x)↔a=b:=by omega
   simp only[this,h3]
  ·rename_i h;split
   ·rename_i h3;have:p*(x+1)<=p*y:=qI _ h3;rw[qK]at this;rw[if_pos (by omega)]
   ·rename_i h3;have:p*(y+1)<=p*x:=qI _ (by omega);rw[qK]at this;rw[if_neg (by omega),if_neg (by omega)]
theorem zii{m n:List Nat}(hm:zck m)(hn:zck n):cmpL m n=sgn (val m) (val n):=by
 have key:∀{m n:List Nat},zck m->zck n->m.length<n.length->val m<val n:=by
  intro m n hm hn h;have h1:=zlf hm.1;have h2:=zmp hn.2 (by intro e;rw[e]at h;simp at h);have h3:4294967296^m.length<=4294967296^(n.length-1):=qV (by decide) (by omega);omega
 unfold cmpL;split
 ·rename_i h;rw[qlc hm.1 hn.1 m.length (qD _) (by omega),qU,h,qU]
 ·rename_i h;split
  ·rename_i h2;have:=key hm hn h2;unfold sgn;rw[if_pos this]
  ·rename_i h2;have:=key hn hm (by omega);unfold sgn;rw[if_neg (by omega),if_neg (by omega)]
def sumL(m n:List Nat):Nat->Nat->Nat->List Nat->List Nat
 |0,_,c,out=>out++[c%4294967296]
 |k+1,i,c,out=>sumL m n k (i+1) ((c+m.getD i 0+n.getD i 0)/4294967296) (out++[(c+m.getD i 0+n.getD i 0)%4294967296])
theorem zdu(l:List Nat)(i:Nat):val (l.take (i+1))=val (l.take i)+4294967296^i*l.getD i 0:=by
 rcases qO i l.length with h | h
 ·rw[zmq h,zes,qA,Nat.min_eq_left (by omega)];simp[val]
 ·rw[qZ h,qZ (by omega),qX,List.getElem?_eq_none h];simp
theorem qld(m n:List Nat)(hm:Dig m)(hn:Dig n):∀(k i c:Nat) (out:List Nat),c<=1->out.length=i->Dig out->m.length<=i+k->n.length<=i+k->
  val out+4294967296^i*c=val (m.take i)+val (n.take i)->
  val (sumL m n k i c out)=val m+val n/\Dig (sumL m n k i c out)/\(sumL m n k i c out).length=i+k+1:=by
 intro k
 induction k with
 |zero=>
  intro i c out hc ho hd h1 h2 h;rw[qZ (by omega),qZ (by omega)]at h;simp only[sumL];refine⟨?_,hd.append (Dig.cons (qL _ (by decide)) Dig.nil),by simp[ho]⟩;rw[zes,ho];simp only[val,qB,qG];rw[Nat.mod_eq_of_lt (by omega)];exact h
 |succ k ih=>
  intro i c out hc ho hd h1 h2 h;have b1:=hm.getD i;have b2:=hn.getD i
  have:=ih (i+1) ((c+m.getD i 0+n.getD i 0)/4294967296) (out++[(c+m.getD i 0+n.getD i 0)%4294967296]) (by omega) (by simp[ho])
   (hd.append (Dig.cons (qL _ (by decide)) Dig.nil)) (by omega) (by omega) (by
    rw[zdu,zdu,zes,ho];simp only[val,qB,qG,qW];generalize 4294967296^i=p at*;have e:c+m.getD i 0+n.getD i 0=(c+m.getD i 0+n.getD i 0)%4294967296+4294967296*((c+m.getD i 0+n.getD i 0)/4294967296):=by omega
    generalize (c+m.getD i 0+n.getD i 0)%4294967296=u at*;generalize (c+m.getD i 0+n.getD i 0)/4294967296=v at*;have e2:p*(c+m.getD i 0+n.getD i 0)=p*(u+4294967296*v):=by rw[e]
    simp only[qK]at e2;have e3:p*4294967296*v=p*(4294967296*v):=qJ _ _ _;omega)
  simp only[sumL];refine⟨this.1,this.2.1,by omega⟩
theorem qvd{a b c u v p A B C:Nat}(hv:a+4294967296*v=u+(b+c))(h:A+p*b=C+B):A+p*a+p*4294967296*v=C+p*u+(B+p*c):=by
 have e2:p*(a+4294967296*v)=p*(u+(b+c)):=by rw[hv]
 simp only[qK]at e2;have e3:p*4294967296*v=p*(4294967296*v):=qJ _ _ _;omega
theorem jzv{a b c u v p A B C V1 V2 V3 D:Nat}(h1:V1=A+p*a)(h2:V2=B+p*c)(h3:V3=C+p*u)(hD:D=p*4294967296)(hv:a+4294967296*v=u+(b+c))(h:A+p*b=C+B):V1+D*v=V3+V2:=by
 subst h1 h2 h3 hD;exact qvd hv h
theorem pw(i:Nat):4294967296^(i+1)=4294967296^i*4294967296:=by rw[qW]
theorem qge{l:List Nat}{i d:Nat}(h:l.length=i):val (l++[d])=val l+4294967296^i*d:=by
 rw[zes,h];simp[val]
def brw(a b:Nat):Nat:=if a<b then 1 else 0
theorem qve{a b:Nat}(ha:a<4294967296)(hb:b<=4294967296):a+4294967296*brw a b=(a+8589934592-b)%4294967296+b:=by
 unfold brw;split<;>omega
theorem xxk(a b:Nat):brw a b<=1:=by unfold brw;split<;>omega
def difL(m n:List Nat):Nat->Nat->Nat->List Nat->List Nat
 |0,_,_,out=>out
 |k+1,i,b,out=>difL m n k (i+1) (brw (m.getD i 0) (b+n.getD i 0)) (out++[(m.getD i 0+8589934592-(b+n.getD i 0))%4294967296])
theorem qvf{a b c d p:Nat}(h:a+p*b=c+d)(hlt:c<p)(hv:d<=a)(hb:b<=1):b=0:=by
 rcases qO b 1 with h2 | h2
 ·omega
 ·have e:b=1:=by omega
  rw[e,Nat.mul_one]at h;omega
theorem zph(m n:List Nat)(hm:Dig m)(hn:Dig n)(hnm:n.length<=m.length)(hv:val n<=val m):∀(k i b:Nat) (out:List Nat),b<=1->out.length=i->Dig out->m.length=i+k->
  val (m.take i)+4294967296^i*b=val out+val (n.take i)->
  val (difL m n k i b out)+val n=val m/\Dig (difL m n k i b out)/\(difL m n k i b out).length=m.length:=by
 intro k
 induction k with
 |zero=>
  intro i b out hb ho hd h1 h;have h1:m.length=i:=h1;have hlt:=zlf hd;rw[ho]at hlt;rw[qZ (by omega),qZ (by omega)]at h;simp only[difL];have hb0:=qvf h hlt hv hb;rw[hb0,qB]at h;clear hlt;exact⟨by omega,hd,by omega⟩
 |succ k ih=>
  intro i b out hb ho hd h1 h;have b1:=hm.getD i;have b2:=hn.getD i;simp only[difL];refine ih (i+1) _ _ (xxk _ _) (by simp[ho]) (hd.append (Dig.cons (qL _ (by decide)) Dig.nil)) (by omega) ?_;exact jzv (zdu m i) (zdu n i) (qge ho) (pw i) (qve b1 (by omega)) h
def mulR(n:List Nat)(x i:Nat):Nat->Nat->Nat->List Nat->Nat×List Nat
 |0,_,c,out=>(c,out)
 |k+1,j,c,out=>mulR n x i k (j+1) ((c+(x*n.getD j 0+out.getD (i+j) 0))/4294967296) (out.set (i+j) ((c+(x*n.getD j 0+out.getD (i+j) 0))%4294967296))
def mulL(n:List Nat):List Nat->Nat->List Nat->List Nat
 | [],_,out=>out
 |x::m,i,out=>mulL n m (i+1) ((mulR n x i n.length 0 0 out).2.set (i+n.length) ((mulR n x i n.length 0 0 out).1))
theorem zzm{l:List Nat}{i v:Nat}(h:i<l.length):val (l.set i v)+4294967296^i*l.getD i 0=val l+4294967296^i*v:=by
 induction l generalizing i with
 |nil=>simp at h
 |cons d l ih=>
  cases i with
  |zero=>simp[val];omega
  |succ i=>
   have:=ih (i:=i) (by simpa using h);simp only[List.set_cons_succ,val,List.getD_cons_succ,qW];have e1:4294967296^i*4294967296*l.getD i 0=4294967296*(4294967296^i*l.getD i 0):=by rw[qM (4294967296^i),qJ]
   have e2:4294967296^i*4294967296*v=4294967296*(4294967296^i*v):=by rw[qM (4294967296^i),qJ]
   omega
theorem Dig.set{l:List Nat}{i v:Nat}(h:Dig l)(hv:v<4294967296):Dig (l.set i v):=by
 intro a ha;rcases List.mem_or_eq_of_mem_set ha with e | e
 ·exact h a e
 ·rw[e];exact hv
theorem zwg(n:List Nat)(hn:Dig n)(x i:Nat)(hx:x<4294967296):∀(k j c:Nat) (out:List Nat),c<4294967296->j+k=n.length->i+n.length<out.length->Dig out->
  (mulR n x i k j c out).1<4294967296/\(mulR n x i k j c out).2.length=out.length/\Dig (mulR n x i k j c out).2/\
  (∀t,i+n.length<=t->(mulR n x i k j c out).2.getD t 0=out.getD t 0)/\
  val (mulR n x i k j c out).2+4294967296^(i+n.length)*(mulR n x i k j c out).1+4294967296^i*(x*val (n.take j))=val out+4294967296^(i+j)*c+4294967296^i*(x*val n):=by
 intro k
 induction k with
 |zero=>
  intro j c out hc hj hl hd;have hj:j=n.length:=by omega
  subst hj;refine⟨hc,rfl,hd,λ_ _=>rfl,?_⟩;simp only[mulR,qU]
 |succ k ih=>
  intro j c out hc hj hl hd;have b1:=hn.getD j;have b2:=hd.getD (i+j);have hxy:x*n.getD j 0<=4294967295*4294967295:=Nat.mul_le_mul (by omega) (by omega);have hS:c+(x*n.getD j 0+out.getD (i+j) 0)<4294967296*4294967296:=by omega
  obtain⟨h1,h2,h3,h4,h5⟩:=ih (j+1) ((c+(x*n.getD j 0+out.getD (i+j) 0))/4294967296) (out.set (i+j) ((c+(x*n.getD j 0+out.getD (i+j) 0))%4294967296)) (by omega) (by omega) (by simpa using hl)
   (hd.set (qL _ (by decide)))
  simp only[mulR];refine⟨h1,by simpa using h2,h3,λt ht=>?_,?_⟩
  ·rw[h4 t ht,qX,qH (by omega),qX]
  ·have hs:=zzm (l:=out) (i:=i+j) (v:=(c+(x*n.getD j 0+out.getD (i+j) 0))%4294967296) (by omega);rw[zdu]at h5;generalize mulR n x i k (j+1) ((c+(x*n.getD j 0+out.getD (i+j) 0))/4294967296) (out.set (i+j) ((c+(x*n.getD j 0+out.getD (i+j) 0))%4294967296))=R at*;generalize val (out.set (i+j) ((c+(x*n.getD j 0+out.getD (i+j) 0))%4294967296))=V at*;have e:c+(x*n.getD j 0+out.getD (i+j) 0)=(c+(x*n.getD j 0+out.getD (i+j) 0))%4294967296+4294967296*((c+(x*n.getD j 0+out.getD (i+j) 0))/4294967296):=by omega
   generalize (c+(x*n.getD j 0+out.getD (i+j) 0))%4294967296=u at*;generalize (c+(x*n.getD j 0+out.getD (i+j) 0))/4294967296=v at*;have e2:4294967296^(i+j)*(c+(x*n.getD j 0+out.getD (i+j) 0))=4294967296^(i+j)*(u+4294967296*v):=by rw[e]
   have e3:4294967296^(i+(j+1))*v=4294967296^(i+j)*(4294967296*v):=by rw[<-Nat.add_assoc,qW,qJ]
   have e4:4294967296^i*(x*(val (n.take j)+4294967296^j*n.getD j 0))=4294967296^i*(x*val (n.take j))+4294967296^(i+j)*(x*n.getD j 0):=by
    rw[qK,qK,Nat.pow_add,Nat.mul_left_comm x,qJ]
   rw[e3,e4]at h5;simp only[qK]at e2;omega
theorem qle(n:List Nat)(hn:Dig n):∀(m:List Nat) (i:Nat) (out:List Nat),Dig m->Dig out->out.length=i+m.length+n.length->(∀t,i+n.length<=t->out.getD t 0=0)->
  (mulL n m i out).length=out.length/\Dig (mulL n m i out)/\val (mulL n m i out)=val out+4294967296^i*(val m*val n):=by
 intro m
 induction m with
 |nil=>intro i out _ hd _ _;simp[mulL,val,hd]
 |cons x m ih=>
  intro i out hm hd hl hz;simp only[qY]at hl;obtain⟨h1,h2,h3,h4,h5⟩:=zwg n hn x i hm.head n.length 0 0 out (by decide) (by omega) (by omega) hd;simp only[mulL];generalize mulR n x i n.length 0 0 out=R at*;have hz0:R.2.getD (i+n.length) 0=0:=(h4 _ (qD _)).trans (hz _ (qD _));have hs:=zzm (l:=R.2) (i:=i+n.length) (v:=R.1) (by omega)
  obtain⟨g1,g2,g3⟩:=ih (i+1) (R.2.set (i+n.length) R.1) hm.tail (h3.set h1) (by simp;omega) (by
   intro t ht;rw[qX,qH (by omega),<-qX,h4 t (by omega)];exact hz t (by omega))
  refine⟨by rw[g1];simpa using h2,g2,?_⟩;rw[g3,val,Nat.add_mul,qK];rw[hz0]at hs;simp only[List.take_zero,val,qB,qG]at h5 hs;have e:4294967296^(i+1)*(val m*val n)=4294967296^i*(4294967296*val m*val n):=by rw[qW,qJ,qJ]
  omega
def POW(k:Nat):Nat:=4294967296^k
def BIG:Nat:=POW 1100
theorem qgf{l:List Nat}{k:Nat}(h:zck l)(hv:val l<POW k):l.length<=k:=by
 rcases qO k l.length with h1 | h1
 ·exfalso;have h2:=zmp h.2 (by intro e;rw[e]at h1;simp at h1);have h3:4294967296^k<=4294967296^(l.length-1):=qV (by decide) (by omega);unfold POW at hv;exact absurd (qC hv (Nat.le_trans h3 h2)) (Nat.lt_irrefl _)
 ·exact h1
theorem canon_len{l:List Nat}(h:zck l)(hv:val l<BIG):l.length<=1100:=qgf (k:=1100) h hv
theorem qlf{l:List Nat}{k:Nat}(h:Dig l)(hl:l.length<=k):val l<POW k:=
 qC (zlf h) (qV (by decide) hl)
theorem zfn{l:List Nat}(h:Dig l)(hl:l.length<=1100):val l<BIG:=qlf (k:=1100) h hl
theorem zzn{n k:Nat}(hk:4<=k)(h:n<340282366920938463463374607431768211456):n<POW k:=
 qC h (show 4294967296^4<=4294967296^k from qV (by decide) hk)
theorem zmr{n:Nat}(h:n<340282366920938463463374607431768211456):n<BIG:=zzn (k:=1100) (by decide) h
end Go.Limb
namespace Go.Proofs.YtbjdfanphdfkdaaGreatDoor
open Go Go.AL Go.Proofs
noncomputable section
open Tryz
def q3:=V (RF f3=·)
def r3_0:=X q3 0
def r3_1:=X q3 1
def r3_2:=X q3 2
def r3_3:=X q3 3
def r3_4:=X q3 4
def r3_5:=X q3 5
def r3_6:=X q3 6
def r3_7:=X q3 7
def r3_8:=X q3 8
def r3_9:=X q3 9
def r3_10:=X q3 10
def r3_11:=X q3 11
def r3_12:=X q3 12
def r3_13:=X q3 13
def r3_14:=X q3 14
def r3_15:=X q3 15
def l3_0:CC:=(.seq (rN r3_8) (.seq (.cond (.t 30) .skip (.exit 0)) (.seq (.block 1 (.seq (rN r3_9) (.seq (rN r3_10) (.seq (.seq (rN r3_11) (.cond (.t 41) (.seq (rN r3_12) .ret) .skip)) (.seq (rN r3_13) (.cond (.t 42) (rN r3_14) .skip)))))) (rN r3_15))))
def r3_16:=X q3 16
def c3:CC:=(.seq (rN r3_0) (.seq (rN r3_1) (.seq (rN r3_2) (.seq (.seq (rN r3_3) (.cond (.t 18) (.seq (rN r3_4) .ret) .skip)) (.seq (rN r3_5) (.seq (rN r3_6) (.seq (.seq (rN r3_7) (.block 0 (.loop l3_0))) (.seq (rN r3_16) .ret))))))))
theorem o3:FnI 3 55 f3 c3 [.tmp 2]:=oM func3
def q5:=V (RS f5=·)
def r5_0:=X q5 0
def r5_1:=X q5 1
def r5_2:=X q5 2
def c5:CC:=(.seq (rN r5_0) (.seq (rN r5_1) (.seq (rN r5_2) .ret)))
theorem o5:FnI 5 18 f5 c5 [.tmp 4]:=oM func5
def r6_0:RL:=[oP 2 (.mov (kI 0))]
def r6_1:RL:=[mV 6 0,cL 7 16 [.t 6],cL 8 19 [.t 7],cL 9 18 [.t 8],mV 5 9,eX 10 5 0,eX 11 5 1,mV 3 10,mV 4 11]
def r6_2:RL:=[mV 12 3,mV 2 12]
def c6:CC:=(.seq (rN r6_0) (.seq (rN r6_1) (.seq (rN r6_2) .ret)))
theorem o6:FnI 6 13 f6 c6 [.tmp 2]:=oM func6
def q7:=V (RS f7=·)
def r7_0:=X q7 0
def r7_1:=X q7 1
def r7_2:=X q7 2
def r7_3:=X q7 3
def c7:CC:=(.seq (rN r7_0) (.seq (rN r7_1) (.seq (rN r7_2) (.seq (rN r7_3) .ret))))
theorem o7:FnI 7 27 f7 c7 [.tmp 0]:=oM func7
def q8:=V (RS f8=·)
def r8_0:=X q8 0
def r8_1:=X q8 1
def r8_2:=X q8 2
def r8_3:=X q8 3
def r8_4:=X q8 4
def r8_5:=X q8 5
def r8_6:=X q8 6
def r8_7:=X q8 7
def r8_8:=X q8 8
def r8_9:=X q8 9
def r8_10:=X q8 10
def r8_11:=X q8 11
def r8_12:=X q8 12
def r8_13:=X q8 13
def r8_14:=X q8 14
def r8_15:=X q8 15
def r8_16:=X q8 16
def l8_0:CC:=(.seq (rN r8_8) (.seq (.cond (.t 39) .skip (.exit 0)) (.seq (.block 1 (.seq (rN r8_9) (.seq (rN r8_10) (.seq (.seq (rN r8_11) (.cond (.t 48) (.exit 1) .skip)) (.seq (rN r8_12) (.seq (rN r8_13) (.cond (.t 56) (.seq (rN r8_14) (rN r8_15)) .skip))))))) (rN r8_16))))
def r8_17:=X q8 17
def c8:CC:=(.seq (rN r8_0) (.seq (.seq (rN r8_1) (.cond (.t 26) (.seq (rN r8_2) .ret) .skip)) (.seq (.seq (rN r8_3) (.cond (.t 32) (.seq (rN r8_4) .ret) .skip)) (.seq (rN r8_5) (.seq (rN r8_6) (.seq (.seq (rN r8_7) (.block 0 (.loop l8_0))) (.seq (rN r8_17) .ret)))))))
theorem o8:FnI 8 71 f8 c8 [.tmp 4,.tmp 5]:=oM func8
def q9:=V (RS f9=·)
def r9_0:=X q9 0
def r9_1:=X q9 1
def c9:CC:=(.seq (rN r9_0) (.seq (rN r9_1) .ret))
theorem o9:FnI 9 16 f9 c9 [.tmp 6,.tmp 7,.tmp 8]:=oM func9
def q12:=V (RS f12=·)
def r12_0:=X q12 0
def r12_1:=X q12 1
def r12_2:=X q12 2
def c12:CC:=(.seq (rN r12_0) (.seq (rN r12_1) (.seq (rN r12_2) .ret)))
theorem o12:FnI 12 24 f12 c12 [.tmp 2]:=oM func12
def q15:=V (RS f15=·)
def r15_0:=X q15 0
def r15_1:=X q15 1
def r15_2:=X q15 2
def r15_3:=X q15 3
def r15_4:=X q15 4
def r15_5:=X q15 5
def r15_6:=X q15 6
def r15_7:=X q15 7
def r15_8:=X q15 8
def r15_9:=X q15 9
def r15_10:=X q15 10
def r15_11:=X q15 11
def r15_12:=X q15 12
def l15_0:CC:=(.block 1 (.seq (rN r15_8) (.seq (.seq (rN r15_9) (.cond (.t 35) (.seq (rN r15_10) (.seq (rN r15_11) .ret)) .skip)) (rN r15_12))))
def c15:CC:=(.seq (rN r15_0) (.seq (.seq (rN r15_1) (.seq (rN r15_2) (.cond (.t 16) (.seq (rN r15_3) .ret) .skip))) (.seq (.seq (rN r15_4) (.cond (.t 20) (.seq (rN r15_5) .ret) .skip)) (.seq (rN r15_6) (.seq (rN r15_7) (.block 0 (.loop l15_0)))))))
theorem o15:FnI 15 49 f15 c15 [.tmp 2,.tmp 3,.tmp 4]:=oM func15
def r16_0:RL:=[oP 2 (.mov (.k (.vec [] 0 (some 0))))]
def r16_1:RL:=[mV 6 0,cL 7 28 [.t 6],mV 5 7,eX 8 5 0,eX 9 5 1,mV 3 8,mV 4 9]
def r16_2:RL:=[mV 10 3,mV 2 10]
def c16:CC:=(.seq (rN r16_0) (.seq (rN r16_1) (.seq (rN r16_2) .ret)))
theorem o16:FnI 16 11 f16 c16 [.tmp 2]:=oM func16
def q17:=V (RF f17=·)
def r17_0:=X q17 0
def r17_1:=X q17 1
def r17_2:=X q17 2
def r17_3:=X q17 3
def r17_4:=X q17 4
def r17_5:=X q17 5
def r17_6:=X q17 6
def r17_7:=X q17 7
def r17_8:=X q17 8
def r17_9:=X q17 9
def r17_10:=X q17 10
def r17_11:=X q17 11
def r17_12:=X q17 12
def r17_13:=X q17 13
def r17_14:=X q17 14
def r17_15:=X q17 15
def r17_16:=X q17 16
def r17_17:=X q17 17
def r17_18:=X q17 18
def r17_19:=X q17 19
def r17_20:=X q17 20
def r17_21:=X q17 21
def c17:CC:=(.seq (rN r17_0) (.seq (rN r17_1) (.seq (rN r17_2) (.seq (rN r17_3) (.seq (.seq (rN r17_4) (.block 0 (.seq (.seq (rN r17_5) (.cond (.t 24) .skip (.seq (rN r17_6) (.cond (.t 24) .skip (.seq (rN r17_7) (.cond (.t 24) .skip (rN r17_8))))))) (.cond (.t 24) (rN r17_9) (.seq (rN r17_10) (.cond (.t 32) (.seq (rN r17_11) (.reg r17_12 (some [(2,6),(4,6)]))) (.seq (rN r17_13) (.cond (.t 45) (.seq (rN r17_14) (.reg r17_15 (some [(4,10),(8,10)]))) (.seq (rN r17_16) (.cond (.t 62) (rN r17_17) (rN r17_18))))))))))) (.seq (.seq (rN r17_19) (.cond (.t 69) (.seq (rN r17_20) .ret) .skip)) (.seq (rN r17_21) .ret)))))))
theorem o17:FnI 17 74 f17 c17 [.tmp 4]:=oM func17
def q18:=V (RS f18=·)
def r18_0:=X q18 0
def r18_1:=X q18 1
def r18_2:=X q18 2
def r18_3:=X q18 3
def r18_4:=X q18 4
def r18_5:=X q18 5
def r18_6:=X q18 6
def r18_7:=X q18 7
def r18_8:=X q18 8
def r18_9:=X q18 9
def c18:CC:=(.seq (rN r18_0) (.seq (rN r18_1) (.seq (rN r18_2) (.seq (.block 0 (.seq (rN r18_3) (.cond (.t 11) (.seq (rN r18_4) .ret) (.seq (rN r18_5) (.cond (.t 15) (.seq (rN r18_6) .ret) (.seq (rN r18_7) (.cond (.t 25) (.seq (rN r18_8) .ret) .skip))))))) (.seq (rN r18_9) .ret)))))
theorem o18:FnI 18 35 f18 c18 [.tmp 2,.tmp 3]:=oM func18
def q19:=V (RF f19=·)
def r19_0:=X q19 0
def r19_1:=X q19 1
def r19_2:=X q19 2
def r19_3:=X q19 3
def r19_4:=X q19 4
def r19_5:=X q19 5
def r19_6:=X q19 6
def r19_7:=X q19 7
def r19_8:=X q19 8
def l19_1:CC:=(.seq (.seq (rN r19_7) (.cond (.t 35) .skip (.exit 2))) (.block 3 (rN r19_8)))
def r19_9:=X q19 9
def r19_10:=X q19 10
def r19_11:=X q19 11
def r19_12:=X q19 12
def r19_13:=X q19 13
def r19_14:=X q19 14
def r19_15:=X q19 15
def r19_16:=X q19 16
def r19_17:=X q19 17
def r19_18:=X q19 18
def r19_19:=X q19 19
def l19_3:CC:=(.seq (.seq (rN r19_17) (.cond (.t 72) .skip (.exit 6))) (.seq (.block 7 (.reg r19_18 (some [(3,8),(3,11),(3,15),(8,15),(11,15),(3,18),(8,18),(11,18),(3,19),(3,23),(8,23),(11,23),(15,23),(18,23),(19,23),(3,26),(8,26),(11,26),(15,26),(18,26),(19,26),(3,30),(8,30),(11,30),(15,30),(18,30),(19,30),(23,30),(26,30),(3,33),(8,33),(11,33),(15,33),(18,33),(19,33),(23,33),(26,33),(3,34),(3,35),(3,36),(8,36),(11,36),(15,36),(18,36),(19,36),(23,36),(26,36),(30,36),(33,36),(34,36),(35,36),(3,37)]))) (rN r19_19)))
def r19_20:=X q19 20
def l19_2:CC:=(.seq (.seq (rN r19_15) (.cond (.t 65) .skip (.exit 4))) (.seq (.block 5 (.seq (rN r19_16) (.block 6 (.loop l19_3)))) (rN r19_20)))
def r19_21:=X q19 21
def r19_22:=X q19 22
def l19_0:CC:=(.seq (.seq (rN r19_5) (.cond (.t 18) .skip (.exit 0))) (.seq (.block 1 (.seq (rN r19_6) (.seq (.block 2 (.loop l19_1)) (.seq (.seq (rN r19_9) (.cond (.t 40) (.seq (rN r19_10) .ret) .skip)) (.seq (.seq (rN r19_11) (.cond (.t 44) (.seq (.reg r19_12 (some [(7,11)])) (rN r19_13)) .skip)) (.seq (.seq (rN r19_14) (.block 4 (.loop l19_2))) (rN r19_21))))))) (rN r19_22)))
def r19_23:=X q19 23
def r19_24:=X q19 24
def r19_25:=X q19 25
def c19:CC:=(.seq (rN r19_0) (.seq (rN r19_1) (.seq (rN r19_2) (.seq (rN r19_3) (.seq (.seq (rN r19_4) (.block 0 (.loop l19_0))) (.seq (.seq (rN r19_23) (.cond (.t 121) (.seq (rN r19_24) .ret) .skip)) (.seq (rN r19_25) .ret)))))))
theorem o19:FnI 19 125 f19 c19 [.cell 2 53]:=oM func19
def q28:=V (RF f28=·)
def r28_0:=X q28 0
def r28_1:=X q28 1
def r28_2:=X q28 2
def r28_3:=X q28 3
def r28_4:=X q28 4
def r28_5:=X q28 5
def r28_6:=X q28 6
def r28_7:=X q28 7
def r28_8:=X q28 8
def l28_0:CC:=(.seq (rN r28_4) (.seq (.cond (.t 20) .skip (.exit 0)) (.seq (.block 1 (.seq (rN r28_5) (.seq (rN r28_6) (.cond (.t 39) (.seq (rN r28_7) .ret) .skip)))) (rN r28_8))))
def r28_9:=X q28 9
def r28_10:=X q28 10
def r28_11:=X q28 11
def r28_12:=X q28 12
def r28_13:=X q28 13
def r28_14:=X q28 14
def r28_15:=X q28 15
def r28_16:=X q28 16
def r28_17:=X q28 17
def l28_2:CC:=(.seq (rN r28_14) (.seq (.cond (.t 59) .skip (.exit 4)) (.seq (.block 5 (.seq (rN r28_15) (.reg r28_16 (some [(3,8),(3,11),(3,12)])))) (rN r28_17))))
def r28_18:=X q28 18
def l28_1:CC:=(.seq (rN r28_11) (.seq (.cond (.t 51) .skip (.exit 2)) (.seq (.block 3 (.seq (rN r28_12) (.seq (rN r28_13) (.block 4 (.loop l28_2))))) (rN r28_18))))
def r28_19:=X q28 19
def c28:CC:=(.seq (rN r28_0) (.seq (.seq (rN r28_1) (.cond (.t 16) (.seq (rN r28_2) .ret) .skip)) (.seq (.seq (rN r28_3) (.block 0 (.loop l28_0))) (.seq (rN r28_9) (.seq (.seq (rN r28_10) (.block 2 (.loop l28_1))) (.seq (rN r28_19) .ret))))))
theorem o28:FnI 28 78 f28 c28 [.tmp 2,.tmp 3]:=oM func28
def q29:=V (RS f29=·)
def r29_0:=X q29 0
def r29_1:=X q29 1
def r29_2:=X q29 2
def r29_3:=X q29 3
def r29_4:=X q29 4
def r29_5:=X q29 5
def r29_6:=X q29 6
def r29_7:=X q29 7
def r29_8:=X q29 8
def c29:CC:=(.seq (rN r29_0) (.seq (rN r29_1) (.seq (.block 0 (.seq (rN r29_2) (.cond (.t 10) (.seq (rN r29_3) .ret) (.seq (rN r29_4) (.cond (.t 17) (.seq (rN r29_5) .ret) (.seq (rN r29_6) (.cond (.t 21) (.seq (rN r29_7) .ret) .skip))))))) (.seq (rN r29_8) .ret))))
theorem o29:FnI 29 25 f29 c29 [.tmp 2]:=oM func29
def r30_0:RL:=[oP 2 (.mov (.k (.bool false)))]
def r30_1:RL:=[mV 3 0,cL 4 19 [.t 3],cL 5 49 [(kI 10000)],cL 6 77 [.t 4,.t 5],bK 7 .leq 6 0,mV 2 7]
def c30:CC:=(.seq (rN r30_0) (.seq (rN r30_1) .ret))
theorem o30:FnI 30 8 f30 c30 [.tmp 2]:=oM func30
def q36:=V (RF f36=·)
def r36_0:=X q36 0
def r36_1:=X q36 1
def r36_2:=X q36 2
def r36_3:=X q36 3
def r36_4:=X q36 4
def r36_5:=X q36 5
def r36_6:=X q36 6
def r36_7:=X q36 7
def r36_8:=X q36 8
def r36_9:=X q36 9
def l36_1:CC:=(.seq (rN r36_6) (.seq (.cond (.t 21) .skip (.exit 2)) (.seq (.block 3 (.seq (rN r36_7) (.reg r36_8 (some [(5,6),(5,7),(5,8)])))) (rN r36_9))))
def r36_10:=X q36 10
def l36_0:CC:=(.seq (rN r36_3) (.seq (.cond (.t 13) .skip (.exit 0)) (.seq (.block 1 (.seq (rN r36_4) (.seq (rN r36_5) (.block 2 (.loop l36_1))))) (rN r36_10))))
def r36_11:=X q36 11
def c36:CC:=(.seq (rN r36_0) (.seq (rN r36_1) (.seq (.seq (rN r36_2) (.block 0 (.loop l36_0))) (.seq (rN r36_11) .ret))))
theorem o36:FnI 36 38 f36 c36 [.tmp 2]:=oM func36
def q37:=V (RF f37=·)
def r37_0:=X q37 0
def r37_1:=X q37 1
def r37_2:=X q37 2
def r37_3:=X q37 3
def r37_4:=X q37 4
def r37_5:=X q37 5
def r37_6:=X q37 6
def r37_7:=X q37 7
def r37_8:=X q37 8
def l37_0:CC:=(.seq (rN r37_5) (.seq (.cond (.t 18) .skip (.exit 0)) (.seq (.block 1 (.seq (rN r37_6) (.reg r37_7 (some [(3,5)])))) (rN r37_8))))
def r37_9:=X q37 9
def c37:CC:=(.seq (rN r37_0) (.seq (.seq (rN r37_1) (.cond (.t 11) (.seq (rN r37_2) .ret) .skip)) (.seq (rN r37_3) (.seq (.seq (rN r37_4) (.block 0 (.loop l37_0))) (.seq (rN r37_9) .ret)))))
theorem o37:FnI 37 29 f37 c37 [.tmp 2,.tmp 3]:=oM func37
def q38:=V (RF f38=·)
def r38_0:=X q38 0
def r38_1:=X q38 1
def r38_2:=X q38 2
def r38_3:=X q38 3
def r38_4:=X q38 4
def r38_5:=X q38 5
def r38_6:=X q38 6
def r38_7:=X q38 7
def r38_8:=X q38 8
def r38_9:=X q38 9
def r38_10:=X q38 10
def r38_11:=X q38 11
def l38_1:CC:=(.seq (.seq (rN r38_7) (.cond (.t 29) .skip (.exit 2))) (.seq (.block 3 (.seq (rN r38_8) (.cond (.t 37) (.seq (.reg r38_9 (some [(3,8),(3,12),(3,13),(3,14),(3,15)])) (.seq (rN r38_10) .ret)) .skip))) (rN r38_11)))
def r38_12:=X q38 12
def r38_13:=X q38 13
def r38_14:=X q38 14
def r38_15:=X q38 15
def l38_0:CC:=(.seq (rN r38_4) (.seq (.cond (.t 24) .skip (.exit 0)) (.seq (.block 1 (.seq (rN r38_5) (.seq (.seq (rN r38_6) (.block 2 (.loop l38_1))) (.seq (rN r38_12) (.cond (.t 64) (.seq (.reg r38_13 (some [(9,13)])) (.seq (rN r38_14) .ret)) .skip))))) (rN r38_15))))
def r38_16:=X q38 16
def c38:CC:=(.seq (rN r38_0) (.seq (rN r38_1) (.seq (rN r38_2) (.seq (.seq (rN r38_3) (.block 0 (.loop l38_0))) (.seq (rN r38_16) .ret)))))
theorem o38:FnI 38 83 f38 c38 [.tmp 2,.tmp 3]:=oM func38
def q39:=V (RS f39=·)
def r39_0:=X q39 0
def r39_1:=X q39 1
def r39_2:=X q39 2
def r39_3:=X q39 3
def r39_4:=X q39 4
def r39_5:=X q39 5
def r39_6:=X q39 6
def r39_7:=X q39 7
def r39_8:=X q39 8
def r39_9:=X q39 9
def r39_10:=X q39 10
def r39_11:=X q39 11
def r39_12:=X q39 12
def r39_13:=X q39 13
def r39_14:=X q39 14
def r39_15:=X q39 15
def r39_16:=X q39 16
def l39_1:CC:=(.seq (rN r39_10) (.seq (.cond (.t 38) .skip (.exit 2)) (.seq (.block 3 (.seq (rN r39_11) (.seq (rN r39_12) (.seq (.seq (rN r39_13) (.cond (.t 52) (.seq (rN r39_14) .ret) .skip)) (rN r39_15))))) (rN r39_16))))
def r39_17:=X q39 17
def l39_0:CC:=(.seq (rN r39_6) (.seq (.cond (.t 25) .skip (.exit 0)) (.seq (.block 1 (.seq (rN r39_7) (.seq (rN r39_8) (.seq (rN r39_9) (.block 2 (.loop l39_1)))))) (rN r39_17))))
def r39_18:=X q39 18
def c39:CC:=(.seq (rN r39_0) (.seq (rN r39_1) (.seq (.seq (rN r39_2) (.cond (.t 19) (.seq (rN r39_3) .ret) .skip)) (.seq (rN r39_4) (.seq (.seq (rN r39_5) (.block 0 (.loop l39_0))) (.seq (rN r39_18) .ret))))))
theorem o39:FnI 39 63 f39 c39 [.tmp 2,.tmp 3]:=oM func39
def r40_0:RL:=[oP 4 (.mov (.k (.vec [] 0 (some 0))))]
def r40_1:RL:=[mV 8 1,cL 9 93 [.t 8],mV 7 9,eX 10 7 0,eX 11 7 1,mV 5 10,mV 6 11]
def r40_2:RL:=[mV 12 5,mV 13 0,cL 14 41 [.t 12,.t 13],mV 15 1,cL 16 41 [.t 14,.t 15],mV 4 16]
def c40:CC:=(.seq (rN r40_0) (.seq (rN r40_1) (.seq (rN r40_2) .ret)))
theorem o40:FnI 40 17 f40 c40 [.tmp 4]:=oM func40
def r41_0:RL:=[oP 4 (.mov (.k (.vec [] 0 (some 0))))]
def r41_1:RL:=[mV 8 0,mV 9 1,cL 10 94 [.t 8,.t 9],mV 7 10,eX 11 7 0,eX 12 7 1,mV 5 11,mV 6 12]
def r41_2:RL:=[mV 13 5,mV 4 13]
def c41:CC:=(.seq (rN r41_0) (.seq (rN r41_1) (.seq (rN r41_2) .ret)))
theorem o41:FnI 41 14 f41 c41 [.tmp 4]:=oM func41
def q42:=V (RF f42=·)
def r42_0:=X q42 0
def r42_1:=X q42 1
def r42_2:=X q42 2
def r42_3:=X q42 3
def r42_4:=X q42 4
def r42_5:=X q42 5
def r42_6:=X q42 6
def r42_7:=X q42 7
def r42_8:=X q42 8
def r42_9:=X q42 9
def l42_1:CC:=(.seq (.seq (rN r42_6) (.cond (.t 18) .skip (.exit 2))) (.seq (.block 3 (.seq (.reg r42_7 (some [(3,6)])) (.reg r42_8 (some [(3,8),(3,11)])))) (rN r42_9)))
def r42_10:=X q42 10
def l42_0:CC:=(.seq (rN r42_3) (.seq (.cond (.t 14) .skip (.exit 0)) (.seq (.block 1 (.seq (rN r42_4) (.seq (rN r42_5) (.block 2 (.loop l42_1))))) (rN r42_10))))
def r42_11:=X q42 11
def c42:CC:=(.seq (rN r42_0) (.seq (rN r42_1) (.seq (.seq (rN r42_2) (.block 0 (.loop l42_0))) (.seq (rN r42_11) .ret))))
theorem o42:FnI 42 45 f42 c42 [.tmp 4]:=oM func42
def q43:=V (RF f43=·)
def r43_0:=X q43 0
def r43_1:=X q43 1
def r43_2:=X q43 2
def r43_3:=X q43 3
def r43_4:=X q43 4
def r43_5:=X q43 5
def r43_6:=X q43 6
def r43_7:=X q43 7
def r43_8:=X q43 8
def r43_9:=X q43 9
def r43_10:=X q43 10
def r43_11:=X q43 11
def r43_12:=X q43 12
def l43_0:CC:=(.seq (rN r43_3) (.seq (.cond (.t 13) .skip (.exit 0)) (.seq (.block 1 (.seq (rN r43_4) (.seq (rN r43_5) (.seq (rN r43_6) (.seq (rN r43_7) (.seq (.seq (rN r43_8) (.cond (.t 38) (rN r43_9) .skip)) (.seq (rN r43_10) (.cond (.t 42) (.reg r43_11 (some [(3,8)])) .skip)))))))) (rN r43_12))))
def r43_13:=X q43 13
def c43:CC:=(.seq (rN r43_0) (.seq (rN r43_1) (.seq (.seq (rN r43_2) (.block 0 (.loop l43_0))) (.seq (rN r43_13) .ret))))
theorem o43:FnI 43 57 f43 c43 [.tmp 4]:=oM func43
def r44_0:RL:=[oP 4 (.mov (kI 0))]
def r44_1:RL:=[mV 5 0,cL 6 95 [.t 5],oP 7 (.conv .u8 (.t 6)),oP 8 (.conv .i64 (.t 7)),mV 9 1,bT 10 .rem 8 9,mV 4 10]
def c44:CC:=(.seq (rN r44_0) (.seq (rN r44_1) .ret))
theorem o44:FnI 44 11 f44 c44 [.tmp 4]:=oM func44
def q45:=V (RF f45=·)
def r45_0:=X q45 0
def r45_1:=X q45 1
def r45_2:=X q45 2
def r45_3:=X q45 3
def r45_4:=X q45 4
def r45_5:=X q45 5
def r45_6:=X q45 6
def r45_7:=X q45 7
def l45_0:CC:=(.seq (rN r45_3) (.seq (.cond (.t 14) .skip (.exit 0)) (.seq (.block 1 (.seq (rN r45_4) (.seq (rN r45_5) (.reg r45_6 (some [(3,7)]))))) (rN r45_7))))
def r45_8:=X q45 8
def c45:CC:=(.seq (rN r45_0) (.seq (rN r45_1) (.seq (.seq (rN r45_2) (.block 0 (.loop l45_0))) (.seq (rN r45_8) .ret))))
theorem o45:FnI 45 33 f45 c45 [.tmp 6]:=oM func45
def q46:=V (RS f46=·)
def r46_0:=X q46 0
def r46_1:=X q46 1
def r46_2:=X q46 2
def c46:CC:=(.seq (rN r46_0) (.seq (rN r46_1) (.seq (rN r46_2) .ret)))
theorem o46:FnI 46 16 f46 c46 [.tmp 2]:=oM func46
def q47:=V (RS f47=·)
def r47_0:=X q47 0
def r47_1:=X q47 1
def r47_2:=X q47 2
def r47_3:=X q47 3
def l47_0:CC:=(.seq (.seq (rN r47_2) (.cond (.t 15) .skip (.exit 0))) (.block 1 (rN r47_3)))
def r47_4:=X q47 4
def c47:CC:=(.seq (rN r47_0) (.seq (rN r47_1) (.seq (.block 0 (.loop l47_0)) (.seq (rN r47_4) .ret))))
theorem o47:FnI 47 22 f47 c47 [.tmp 2]:=oM func47
def q48:=V (RS f48=·)
def r48_0:=X q48 0
def r48_1:=X q48 1
def r48_2:=X q48 2
def r48_3:=X q48 3
def r48_4:=X q48 4
def r48_5:=X q48 5
def l48_0:CC:=(.seq (.seq (rN r48_3) (.cond (.t 12) .skip (.exit 0))) (.seq (.block 1 (rN r48_4)) (rN r48_5)))
def r48_6:=X q48 6
def c48:CC:=(.seq (rN r48_0) (.seq (rN r48_1) (.seq (.seq (rN r48_2) (.block 0 (.loop l48_0))) (.seq (rN r48_6) .ret))))
theorem o48:FnI 48 26 f48 c48 [.tmp 2]:=oM func48
def q49:=V (RS f49=·)
def r49_0:=X q49 0
def r49_1:=X q49 1
def r49_2:=X q49 2
def r49_3:=X q49 3
def c49:CC:=(.seq (rN r49_0) (.seq (.seq (rN r49_1) (.cond (.t 4) (.seq (rN r49_2) .ret) .skip)) (.seq (rN r49_3) .ret)))
theorem o49:FnI 49 12 f49 c49 [.cell 2 53]:=oM func49
def q50:=V (RS f50=·)
def r50_0:=X q50 0
def r50_1:=X q50 1
def r50_2:=X q50 2
def r50_3:=X q50 3
def r50_4:=X q50 4
def r50_5:=X q50 5
def c50:CC:=(.seq (rN r50_0) (.seq (.block 0 (.seq (rN r50_1) (.cond (.t 3) (.seq (rN r50_2) .ret) (.seq (rN r50_3) (.cond (.t 9) (.seq (rN r50_4) .ret) .skip))))) (.seq (rN r50_5) .ret)))
theorem o50:FnI 50 12 f50 c50 [.tmp 2]:=oM func50
def q51:=V (RS f51=·)
def r51_0:=X q51 0
def r51_1:=X q51 1
def r51_2:=X q51 2
def c51:CC:=(.seq (rN r51_0) (.seq (rN r51_1) (.seq (rN r51_2) .ret)))
theorem o51:FnI 51 16 f51 c51 [.cell 4 53]:=oM func51
def r52_0:RL:=[oP 2 (.box (.t 0)),oP 3 (.box (.t 1)),oP 4 (.box (.k (.agg [(.bool false),(.vec [] 0 (some 0))])))]
def r52_1:RL:=[ldO 5 true 2 2,ldO 6 true 2 3,cL 7 54 [.t 6],cL 8 98 [.t 5,.t 7],sT (.store 2 (.t 4) (.t 8))]
def c52:CC:=(.seq (rN r52_0) (.seq (.reg r52_1 (some [(0,1),(0,2)])) .ret))
theorem o52:FnI 52 9 f52 c52 [.cell 4 53]:=oM func52
def q53:=V (RS f53=·)
def r53_0:=X q53 0
def r53_1:=X q53 1
def r53_2:=X q53 2
def r53_3:=X q53 3
def r53_4:=X q53 4
def r53_5:=X q53 5
def r53_6:=X q53 6
def r53_7:=X q53 7
def r53_8:=X q53 8
def r53_9:=X q53 9
def r53_10:=X q53 10
def r53_11:=X q53 11
def r53_12:=X q53 12
def l53_1:CC:=(.seq (rN r53_7) (.seq (.cond (.t 31) .skip (.exit 2)) (.seq (.block 3 (.seq (rN r53_8) (.seq (rN r53_9) (.seq (rN r53_10) (rN r53_11))))) (rN r53_12))))
def r53_13:=X q53 13
def r53_14:=X q53 14
def l53_0:CC:=(.seq (rN r53_3) (.seq (.cond (.t 23) .skip (.exit 0)) (.seq (.block 1 (.seq (rN r53_4) (.seq (rN r53_5) (.seq (.seq (rN r53_6) (.block 2 (.loop l53_1))) (rN r53_13))))) (rN r53_14))))
def r53_15:=X q53 15
def c53:CC:=(.seq (rN r53_0) (.seq (rN r53_1) (.seq (.seq (rN r53_2) (.block 0 (.loop l53_0))) (.seq (rN r53_15) .ret))))
theorem o53:FnI 53 77 f53 c53 [.cell 4 53]:=oM func53
def q54:=V (RS f54=·)
def r54_0:=X q54 0
def r54_1:=X q54 1
def c54:CC:=(.seq (rN r54_0) (.seq (rN r54_1) .ret))
theorem o54:FnI 54 9 f54 c54 [.cell 2 53]:=oM func54
def q73:=V (RS f73=·)
def r73_0:=X q73 0
def r73_1:=X q73 1
def r73_2:=X q73 2
def r73_3:=X q73 3
def r73_4:=X q73 4
def r73_5:=X q73 5
def r73_6:=X q73 6
def l73_0:CC:=(.seq (rN r73_3) (.seq (.cond (.t 12) .skip (.exit 0)) (.seq (.block 1 (.seq (rN r73_4) (rN r73_5))) (rN r73_6))))
def r73_7:=X q73 7
def c73:CC:=(.seq (rN r73_0) (.seq (rN r73_1) (.seq (.seq (rN r73_2) (.block 0 (.loop l73_0))) (.seq (rN r73_7) .ret))))
theorem o73:FnI 73 21 f73 c73 [.tmp 4]:=oM func73
def q74:=V (RS f74=·)
def r74_0:=X q74 0
def r74_1:=X q74 1
def r74_2:=X q74 2
def r74_3:=X q74 3
def r74_4:=X q74 4
def c74:CC:=(.seq (rN r74_0) (.seq (rN r74_1) (.seq (.seq (rN r74_2) (.cond (.t 19) (.seq (rN r74_3) .ret) .skip)) (.seq (rN r74_4) .ret))))
theorem o74:FnI 74 21 f74 c74 [.tmp 2,.tmp 3]:=oM func74
def q75:=V (RF f75=·)
def r75_0:=X q75 0
def r75_1:=X q75 1
def r75_2:=X q75 2
def r75_3:=X q75 3
def r75_4:=X q75 4
def r75_5:=X q75 5
def r75_6:=X q75 6
def r75_7:=X q75 7
def r75_8:=X q75 8
def l75_1:CC:=(.seq (.seq (rN r75_5) (.cond (.t 12) .skip (.exit 2))) (.seq (.block 3 (.seq (.reg r75_6 (some [(3,10),(6,10),(3,13),(6,13)])) (.cond (.t 30) (.seq (rN r75_7) .ret) .skip))) (rN r75_8)))
def r75_9:=X q75 9
def l75_0:CC:=(.seq (rN r75_2) (.seq (.cond (.t 8) .skip (.exit 0)) (.seq (.block 1 (.seq (rN r75_3) (.seq (rN r75_4) (.block 2 (.loop l75_1))))) (rN r75_9))))
def r75_10:=X q75 10
def c75:CC:=(.seq (rN r75_0) (.seq (.seq (rN r75_1) (.block 0 (.loop l75_0))) (.seq (rN r75_10) .ret)))
theorem o75:FnI 75 32 f75 c75 [.tmp 2]:=oM func75
def q76:=V (RS f76=·)
def r76_0:=X q76 0
def r76_1:=X q76 1
def r76_2:=X q76 2
def r76_3:=X q76 3
def r76_4:=X q76 4
def r76_5:=X q76 5
def r76_6:=X q76 6
def r76_7:=X q76 7
def r76_8:=X q76 8
def r76_9:=X q76 9
def l76_0:CC:=(.seq (rN r76_5) (.seq (.cond (.t 22) .skip (.exit 0)) (.seq (.block 1 (.seq (rN r76_6) (.seq (rN r76_7) (.cond (.t 27) (.seq (rN r76_8) .ret) .skip)))) (rN r76_9))))
def r76_10:=X q76 10
def c76:CC:=(.seq (rN r76_0) (.seq (rN r76_1) (.seq (.seq (rN r76_2) (.cond (.t 18) (.seq (rN r76_3) .ret) .skip)) (.seq (.seq (rN r76_4) (.block 0 (.loop l76_0))) (.seq (rN r76_10) .ret)))))
theorem o76:FnI 76 29 f76 c76 [.tmp 2]:=oM func76
def q77:=V (RF f77=·)
def r77_0:=X q77 0
def r77_1:=X q77 1
def r77_2:=X q77 2
def r77_3:=X q77 3
def r77_4:=X q77 4
def r77_5:=X q77 5
def r77_6:=X q77 6
def c77:CC:=(.seq (rN r77_0) (.seq (.reg r77_1 (some [(0,2),(1,2)])) (.seq (.seq (rN r77_2) (.cond (.t 13) (.seq (.seq (rN r77_3) (.cond (.t 16) (.seq (rN r77_4) .ret) .skip)) (.seq (rN r77_5) .ret)) .skip)) (.seq (.reg r77_6 (some [(2,5),(3,5)])) .ret))))
theorem o77:FnI 77 26 f77 c77 [.tmp 4]:=oM func77
def q78:=V (RS f78=·)
def r78_0:=X q78 0
def r78_1:=X q78 1
def r78_2:=X q78 2
def r78_3:=X q78 3
def r78_4:=X q78 4
def r78_5:=X q78 5
def r78_6:=X q78 6
def r78_7:=X q78 7
def r78_8:=X q78 8
def l78_0:CC:=(.seq (.seq (rN r78_6) (.cond (.t 17) .skip (.exit 0))) (.seq (.block 1 (rN r78_7)) (rN r78_8)))
def r78_9:=X q78 9
def c78:CC:=(.seq (rN r78_0) (.seq (rN r78_1) (.seq (.seq (rN r78_2) (.cond (.t 14) (.seq (rN r78_3) .ret) .skip)) (.seq (rN r78_4) (.seq (.seq (rN r78_5) (.block 0 (.loop l78_0))) (.seq (rN r78_9) .ret))))))
theorem o78:FnI 78 33 f78 c78 [.tmp 2,.tmp 3]:=oM func78
def q79:=V (RS f79=·)
def r79_0:=X q79 0
def r79_1:=X q79 1
def c79:CC:=(.seq (rN r79_0) (.seq (rN r79_1) .ret))
theorem o79:FnI 79 22 f79 c79 [.tmp 8]:=oM func79
def q80:=V (RF f80=·)
def r80_0:=X q80 0
def r80_1:=X q80 1
def r80_2:=X q80 2
def r80_3:=X q80 3
def c80:CC:=(.seq (rN r80_0) (.seq (rN r80_1) (.seq (.reg r80_2 (some [(0,10),(4,10),(8,10),(9,10),(0,11),(4,11),(8,11),(9,11),(10,11),(0,15),(4,15),(8,15),(9,15),(10,15),(11,15),(12,15),(13,15),(14,15)])) (.seq (.reg r80_3 (some [(0,1),(0,4),(0,7),(0,8),(0,9)])) .ret))))
theorem o80:FnI 80 41 f80 c80 [.tmp 6]:=oM func80
def r87_0:RL:=[oP 1 (.box (.t 0)),oP 2 (.box (.k (.agg [(.bool false),(.vec [] 0 (some 0))])))]
def r87_1:RL:=[oP 3 (.fld 0 (.t 1)),ldO 4 false 1 3,oP 5 (.fld 1 (.t 1)),ldO 6 false 1 5,cL 7 99 [.t 4,.t 6],sT (.store 2 (.t 2) (.t 7))]
def c87:CC:=(.seq (rN r87_0) (.seq (rN r87_1) .ret))
theorem o87:FnI 87 8 f87 c87 [.cell 2 53]:=oM func87
def r88_0:RL:=[oP 1 (.box (.t 0)),oP 2 (.box (.k (.agg [(.bool false),(.vec [] 0 (some 0))])))]
def r88_1:RL:=[ldO 3 true 4 1,cL 4 165 [],cL 5 164 [.t 3,.t 4],cL 6 163 [.t 5],sT (.store 2 (.t 2) (.t 6))]
def c88:CC:=(.seq (rN r88_0) (.seq (.reg r88_1 (some [(0,1)])) .ret))
theorem o88:FnI 88 7 f88 c88 [.cell 2 53]:=oM func88
def q89:=V (RS f89=·)
def r89_0:=X q89 0
def r89_1:=X q89 1
def c89:CC:=(.seq (rN r89_0) (.seq (rN r89_1) .ret))
theorem o89:FnI 89 9 f89 c89 [.cell 4 137]:=oM func89
def q90:=V (RS f90=·)
def r90_0:=X q90 0
def r90_1:=X q90 1
def r90_2:=X q90 2
def r90_3:=X q90 3
def r90_4:=X q90 4
def r90_5:=X q90 5
def r90_6:=X q90 6
def l90_0:CC:=(.seq (.seq (rN r90_3) (.cond (.t 12) .skip (.exit 0))) (.seq (.block 1 (.seq (rN r90_4) (rN r90_5))) (rN r90_6)))
def r90_7:=X q90 7
def c90:CC:=(.seq (rN r90_0) (.seq (rN r90_1) (.seq (.seq (rN r90_2) (.block 0 (.loop l90_0))) (.seq (rN r90_7) .ret))))
theorem o90:FnI 90 34 f90 c90 [.cell 6 53]:=oM func90
def q91:=V (RS f91=·)
def r91_0:=X q91 0
def r91_1:=X q91 1
def r91_2:=X q91 2
def r91_3:=X q91 3
def c91:CC:=(.seq (rN r91_0) (.seq (.seq (rN r91_1) (.cond (.t 6) (.seq (rN r91_2) .ret) .skip)) (.seq (rN r91_3) .ret)))
theorem o91:FnI 91 13 f91 c91 [.cell 4 53]:=oM func91
def q92:=V (RF f92=·)
def r92_0:=X q92 0
def r92_1:=X q92 1
def r92_2:=X q92 2
def r92_3:=X q92 3
def r92_4:=X q92 4
def r92_5:=X q92 5
def r92_6:=X q92 6
def r92_7:=X q92 7
def r92_8:=X q92 8
def l92_0:CC:=(.seq (rN r92_4) (.seq (.cond (.t 18) .skip (.exit 0)) (.seq (.block 1 (.seq (rN r92_5) (.seq (rN r92_6) (.cond (.t 37) (.seq (rN r92_7) .ret) .skip)))) (rN r92_8))))
def r92_9:=X q92 9
def c92:CC:=(.seq (rN r92_0) (.seq (.seq (rN r92_1) (.cond (.t 14) (.seq (rN r92_2) .ret) .skip)) (.seq (.seq (rN r92_3) (.block 0 (.loop l92_0))) (.seq (.reg r92_9 (some [])) .ret))))
theorem o92:FnI 92 45 f92 c92 [.tmp 2,.tmp 3,.tmp 4]:=oM func92
def q93:=V (RF f93=·)
def r93_0:=X q93 0
def r93_1:=X q93 1
def r93_2:=X q93 2
def r93_3:=X q93 3
def r93_4:=X q93 4
def r93_5:=X q93 5
def r93_6:=X q93 6
def r93_7:=X q93 7
def r93_8:=X q93 8
def r93_9:=X q93 9
def r93_10:=X q93 10
def r93_11:=X q93 11
def r93_12:=X q93 12
def l93_1:CC:=(.seq (rN r93_9) (.seq (.cond (.t 32) .skip (.exit 2)) (.seq (.block 3 (.seq (rN r93_10) (.reg r93_11 (some [(3,8),(3,11),(3,12)])))) (rN r93_12))))
def r93_13:=X q93 13
def l93_0:CC:=(.seq (rN r93_6) (.seq (.cond (.t 24) .skip (.exit 0)) (.seq (.block 1 (.seq (rN r93_7) (.seq (rN r93_8) (.block 2 (.loop l93_1))))) (rN r93_13))))
def r93_14:=X q93 14
def c93:CC:=(.seq (rN r93_0) (.seq (rN r93_1) (.seq (.seq (rN r93_2) (.cond (.t 17) (.seq (rN r93_3) .ret) .skip)) (.seq (rN r93_4) (.seq (.seq (rN r93_5) (.block 0 (.loop l93_0))) (.seq (rN r93_14) .ret))))))
theorem o93:FnI 93 51 f93 c93 [.tmp 2,.tmp 3]:=oM func93
def q94:=V (RF f94=·)
def r94_0:=X q94 0
def r94_1:=X q94 1
def r94_2:=X q94 2
def r94_3:=X q94 3
def r94_4:=X q94 4
def r94_5:=X q94 5
def r94_6:=X q94 6
def r94_7:=X q94 7
def r94_8:=X q94 8
def r94_9:=X q94 9
def r94_10:=X q94 10
def r94_11:=X q94 11
def r94_12:=X q94 12
def r94_13:=X q94 13
def l94_1:CC:=(.seq (rN r94_10) (.seq (.cond (.t 50) .skip (.exit 2)) (.seq (.block 3 (.seq (rN r94_11) (.reg r94_12 (some [(3,8),(3,12),(8,12),(3,13)])))) (rN r94_13))))
def r94_14:=X q94 14
def l94_0:CC:=(.seq (rN r94_7) (.seq (.cond (.t 45) .skip (.exit 0)) (.seq (.block 1 (.seq (rN r94_8) (.seq (rN r94_9) (.block 2 (.loop l94_1))))) (rN r94_14))))
def r94_15:=X q94 15
def c94:CC:=(.seq (rN r94_0) (.seq (rN r94_1) (.seq (rN r94_2) (.seq (.seq (rN r94_3) (.cond (.t 36) (.seq (rN r94_4) .ret) .skip)) (.seq (rN r94_5) (.seq (.seq (rN r94_6) (.block 0 (.loop l94_0))) (.seq (rN r94_15) .ret)))))))
theorem o94:FnI 94 70 f94 c94 [.tmp 4,.tmp 5]:=oM func94
def q95:=V (RF f95=·)
def r95_0:=X q95 0
def r95_1:=X q95 1
def r95_2:=X q95 2
def r95_3:=X q95 3
def r95_4:=X q95 4
def c95:CC:=(.seq (rN r95_0) (.seq (.seq (.reg r95_1 (some [(3,7)])) (.cond (.t 12) (.seq (rN r95_2) .ret) .skip)) (.seq (rN r95_3) (.seq (.reg r95_4 (some [(3,7)])) .ret))))
theorem o95:FnI 95 32 f95 c95 [.tmp 2]:=oM func95
def q96:=V (RS f96=·)
def r96_0:=X q96 0
def r96_1:=X q96 1
def c96:CC:=(.seq (rN r96_0) (.seq (rN r96_1) .ret))
theorem o96:FnI 96 13 f96 c96 [.cell 4 53]:=oM func96
def q97:=V (RF f97=·)
def r97_0:=X q97 0
def r97_1:=X q97 1
def r97_2:=X q97 2
def r97_3:=X q97 3
def r97_4:=X q97 4
def r97_5:=X q97 5
def r97_6:=X q97 6
def r97_7:=X q97 7
def r97_8:=X q97 8
def r97_9:=X q97 9
def r97_10:=X q97 10
def r97_11:=X q97 11
def c97:CC:=(.seq (rN r97_0) (.seq (.reg r97_1 (some [(1,4),(2,4)])) (.seq (.seq (rN r97_2) (.cond (.t 21) (.seq (rN r97_3) .ret) .skip)) (.seq (rN r97_4) (.seq (.reg r97_5 (some [(1,3),(1,8),(3,8),(6,8),(1,11),(3,11),(6,11),(8,11),(10,11),(1,12),(3,12),(6,12),(8,12),(10,12),(11,12)])) (.seq (.seq (rN r97_6) (.cond (.t 43) (.seq (.reg r97_7 (some [(0,2)])) (.seq (.seq (rN r97_8) (.cond (.t 50) (.seq (.reg r97_9 (some [(0,1),(0,3),(1,3),(2,3),(3,4)])) .ret) .skip)) (.seq (.reg r97_10 (some [(0,1),(0,3),(1,3),(2,3),(3,4)])) .ret))) .skip)) (.seq (.reg r97_11 (some [(0,1),(1,2)])) .ret)))))))
theorem o97:FnI 97 61 f97 c97 [.cell 4 53,.cell 5 53,.tmp 6]:=oM func97
def q98:=V (RF f98=·)
def r98_0:=X q98 0
def r98_1:=X q98 1
def r98_2:=X q98 2
def r98_3:=X q98 3
def r98_4:=X q98 4
def r98_5:=X q98 5
def r98_6:=X q98 6
def c98:CC:=(.seq (rN r98_0) (.seq (.reg r98_1 (some [(1,4),(2,4)])) (.seq (.seq (rN r98_2) (.cond (.t 17) (.seq (.reg r98_3 (some [(1,4)])) .ret) .skip)) (.seq (.seq (rN r98_4) (.cond (.t 27) (.seq (.reg r98_5 (some [(1,4)])) .ret) .skip)) (.seq (.reg r98_6 (some [(1,4)])) .ret)))))
theorem o98:FnI 98 40 f98 c98 [.cell 4 53]:=oM func98
def q99:=V (RS f99=·)
def r99_0:=X q99 0
def r99_1:=X q99 1
def r99_2:=X q99 2
def c99:CC:=(.seq (rN r99_0) (.seq (rN r99_1) (.seq (rN r99_2) .ret)))
theorem o99:FnI 99 16 f99 c99 [.cell 4 53]:=oM func99
def q144:=V (RF f144=·)
def r144_0:=X q144 0
def r144_1:=X q144 1
def r144_2:=X q144 2
def r144_3:=X q144 3
def r144_4:=X q144 4
def r144_5:=X q144 5
def r144_6:=X q144 6
def r144_7:=X q144 7
def r144_8:=X q144 8
def r144_9:=X q144 9
def r144_10:=X q144 10
def r144_11:=X q144 11
def l144_0:CC:=(.seq (.seq (rN r144_6) (.cond (.t 20) .skip (.exit 0))) (.seq (.block 1 (.seq (.reg r144_7 (some [(3,7)])) (.cond (.t 31) (.seq (.seq (.reg r144_8 (some [(3,7)])) (.cond (.t 40) (.seq (rN r144_9) .ret) .skip)) (.seq (rN r144_10) .ret)) .skip))) (rN r144_11)))
def r144_12:=X q144 12
def c144:CC:=(.seq (rN r144_0) (.seq (.seq (rN r144_1) (.cond (.t 10) (.seq (.seq (rN r144_2) (.cond (.t 15) (.seq (rN r144_3) .ret) .skip)) (.seq (rN r144_4) .ret)) .skip)) (.seq (.seq (rN r144_5) (.block 0 (.loop l144_0))) (.seq (rN r144_12) .ret))))
theorem o144:FnI 144 41 f144 c144 [.tmp 4]:=oM func144
def q145:=V (RS f145=·)
def r145_0:=X q145 0
def r145_1:=X q145 1
def r145_2:=X q145 2
def r145_3:=X q145 3
def r145_4:=X q145 4
def r145_5:=X q145 5
def r145_6:=X q145 6
def r145_7:=X q145 7
def r145_8:=X q145 8
def r145_9:=X q145 9
def r145_10:=X q145 10
def l145_1:CC:=(.seq (rN r145_7) (.seq (.cond (.t 22) .skip (.exit 2)) (.seq (.block 3 (.seq (rN r145_8) (rN r145_9))) (rN r145_10))))
def r145_11:=X q145 11
def r145_12:=X q145 12
def l145_0:CC:=(.seq (rN r145_3) (.seq (.cond (.t 16) .skip (.exit 0)) (.seq (.block 1 (.seq (rN r145_4) (.seq (rN r145_5) (.seq (.seq (rN r145_6) (.block 2 (.loop l145_1))) (rN r145_11))))) (rN r145_12))))
def r145_13:=X q145 13
def c145:CC:=(.seq (rN r145_0) (.seq (rN r145_1) (.seq (.seq (rN r145_2) (.block 0 (.loop l145_0))) (.seq (rN r145_13) .ret))))
theorem o145:FnI 145 42 f145 c145 [.tmp 6]:=oM func145
def q146:=V (RS f146=·)
def r146_0:=X q146 0
def r146_1:=X q146 1
def r146_2:=X q146 2
def r146_3:=X q146 3
def r146_4:=X q146 4
def r146_5:=X q146 5
def l146_0:CC:=(.seq (.seq (rN r146_3) (.cond (.t 9) .skip (.exit 0))) (.seq (.block 1 (rN r146_4)) (rN r146_5)))
def r146_6:=X q146 6
def c146:CC:=(.seq (rN r146_0) (.seq (rN r146_1) (.seq (.seq (rN r146_2) (.block 0 (.loop l146_0))) (.seq (rN r146_6) .ret))))
theorem o146:FnI 146 20 f146 c146 [.tmp 4]:=oM func146
def r147_0:RL:=[oP 1 (.box (.t 0)),oP 2 (.box (.k (.agg [(.bool false),(.vec [] 0 (some 0))])))]
def r147_1:RL:=[oP 3 (.fld 1 (.t 1)),ldO 4 false 1 3,cL 5 99 [(.k (.bool false)),.t 4],sT (.store 2 (.t 2) (.t 5))]
def c147:CC:=(.seq (rN r147_0) (.seq (rN r147_1) .ret))
theorem o147:FnI 147 6 f147 c147 [.cell 2 53]:=oM func147
def q163:=V (RS f163=·)
def r163_0:=X q163 0
def r163_1:=X q163 1
def r163_2:=X q163 2
def c163:CC:=(.seq (rN r163_0) (.seq (rN r163_1) (.seq (rN r163_2) .ret)))
theorem o163:FnI 163 11 f163 c163 [.cell 2 53]:=oM func163
def q164:=V (RF f164=·)
def r164_0:=X q164 0
def r164_1:=X q164 1
def r164_2:=X q164 2
def r164_3:=X q164 3
def c164:CC:=(.seq (rN r164_0) (.seq (.reg r164_1 (some [(0,2),(1,2),(0,4),(1,4),(2,4),(3,4),(0,5),(1,5),(2,5),(3,5),(4,5)])) (.seq (.reg r164_2 (some [(1,3),(1,6),(3,6),(4,6),(1,8),(3,8),(4,8),(6,8),(1,12),(3,12),(4,12),(6,12),(8,12),(9,12),(10,12),(1,14),(3,14),(4,14),(6,14),(8,14),(9,14),(10,14),(12,14),(1,20),(3,20),(4,20),(6,20),(8,20),(9,20),(10,20),(12,20),(14,20),(15,20),(16,20)])) (.seq (rN r164_3) .ret))))
theorem o164:FnI 164 34 f164 c164 [.cell 4 137]:=oM func164
def q165:=V (RS f165=·)
def r165_0:=X q165 0
def r165_1:=X q165 1
def c165:CC:=(.seq (rN r165_0) (.seq (rN r165_1) .ret))
theorem o165:FnI 165 4 f165 c165 [.cell 0 137]:=oM func165
def q166:=V (RS f166=·)
def r166_0:=X q166 0
def r166_1:=X q166 1
def r166_2:=X q166 2
def r166_3:=X q166 3
def r166_4:=X q166 4
def c166:CC:=(.seq (rN r166_0) (.seq (rN r166_1) (.seq (.seq (rN r166_2) (.cond (.t 14) (.seq (rN r166_3) .ret) .skip)) (.seq (rN r166_4) .ret))))
theorem o166:FnI 166 17 f166 c166 [.cell 2 137]:=oM func166
def q167:=V (RF f167=·)
def r167_0:=X q167 0
def r167_1:=X q167 1
def r167_2:=X q167 2
def r167_3:=X q167 3
def r167_4:=X q167 4
def r167_5:=X q167 5
def r167_6:=X q167 6
def l167_0:CC:=(.seq (rN r167_3) (.seq (.cond (.t 11) .skip (.exit 0)) (.seq (.block 1 (.seq (rN r167_4) (.reg r167_5 (some [(0,4),(0,8),(4,8),(0,9)])))) (rN r167_6))))
def r167_7:=X q167 7
def c167:CC:=(.seq (rN r167_0) (.seq (rN r167_1) (.seq (.seq (rN r167_2) (.block 0 (.loop l167_0))) (.seq (rN r167_7) .ret))))
theorem o167:FnI 167 26 f167 c167 [.cell 4 53]:=oM func167
def q168:=V (RF f168=·)
def r168_0:=X q168 0
def r168_1:=X q168 1
def r168_2:=X q168 2
def r168_3:=X q168 3
def r168_4:=X q168 4
def r168_5:=X q168 5
def r168_6:=X q168 6
def r168_7:=X q168 7
def r168_8:=X q168 8
def r168_9:=X q168 9
def r168_10:=X q168 10
def r168_11:=X q168 11
def l168_0:CC:=(.seq (.seq (rN r168_6) (.cond (.t 39) .skip (.exit 0))) (.seq (.block 1 (.seq (rN r168_7) (.seq (rN r168_8) (.cond (.t 57) (.seq (rN r168_9) (.reg r168_10 (some []))) .skip)))) (rN r168_11)))
def r168_12:=X q168 12
def c168:CC:=(.seq (rN r168_0) (.seq (.seq (rN r168_1) (.cond (.t 16) (.seq (rN r168_2) (.seq (.reg r168_3 (some [])) .ret)) .skip)) (.seq (rN r168_4) (.seq (.seq (rN r168_5) (.block 0 (.loop l168_0))) (.seq (rN r168_12) .ret)))))
theorem o168:FnI 168 75 f168 c168 [.tmp 4,.tmp 5]:=oM func168
def q169:=V (RS f169=·)
def r169_0:=X q169 0
def r169_1:=X q169 1
def r169_2:=X q169 2
def r169_3:=X q169 3
def r169_4:=X q169 4
def r169_5:=X q169 5
def r169_6:=X q169 6
def r169_7:=X q169 7
def r169_8:=X q169 8
def r169_9:=X q169 9
def r169_10:=X q169 10
def r169_11:=X q169 11
def l169_0:CC:=(.seq (.seq (rN r169_4) (.cond (.t 17) .skip (.exit 0))) (.seq (.block 1 (.seq (.seq (rN r169_5) (.cond (.t 23) (rN r169_6) .skip)) (.seq (.seq (rN r169_7) (.cond (.t 34) (rN r169_8) .skip)) (.seq (rN r169_9) (rN r169_10))))) (rN r169_11)))
def r169_12:=X q169 12
def c169:CC:=(.seq (rN r169_0) (.seq (rN r169_1) (.seq (rN r169_2) (.seq (.seq (rN r169_3) (.block 0 (.loop l169_0))) (.seq (rN r169_12) .ret)))))
theorem o169:FnI 169 54 f169 c169 [.tmp 4]:=oM func169
def q170:=V (RS f170=·)
def r170_0:=X q170 0
def r170_1:=X q170 1
def r170_2:=X q170 2
def r170_3:=X q170 3
def r170_4:=X q170 4
def r170_5:=X q170 5
def r170_6:=X q170 6
def r170_7:=X q170 7
def r170_8:=X q170 8
def r170_9:=X q170 9
def r170_10:=X q170 10
def r170_11:=X q170 11
def r170_12:=X q170 12
def l170_0:CC:=(.seq (.seq (rN r170_4) (.cond (.t 12) .skip (.exit 0))) (.seq (.block 1 (.seq (rN r170_5) (.seq (.seq (rN r170_6) (.cond (.t 19) (rN r170_7) .skip)) (.seq (rN r170_8) (.seq (rN r170_9) (.seq (rN r170_10) (.cond (.t 44) (rN r170_11) .skip))))))) (rN r170_12)))
def r170_13:=X q170 13
def c170:CC:=(.seq (rN r170_0) (.seq (rN r170_1) (.seq (rN r170_2) (.seq (.seq (rN r170_3) (.block 0 (.loop l170_0))) (.seq (rN r170_13) .ret)))))
theorem o170:FnI 170 46 f170 c170 [.tmp 4]:=oM func170
def q244:=V (RF f244=·)
def r244_0:=X q244 0
def r244_1:=X q244 1
def r244_2:=X q244 2
def r244_3:=X q244 3
def r244_4:=X q244 4
def r244_5:=X q244 5
def r244_6:=X q244 6
def c244:CC:=(.seq (rN r244_0) (.seq (.seq (rN r244_1) (.cond (.t 9) (.seq (rN r244_2) .ret) .skip)) (.seq (.seq (rN r244_3) (.cond (.t 13) (.reg r244_4 (some [(0,2),(1,2)])) .skip)) (.seq (rN r244_5) (.seq (.reg r244_6 (some [(0,1),(0,3),(1,3),(2,3),(0,4),(1,4),(2,4),(3,4)])) .ret)))))
theorem o244:FnI 244 28 f244 c244 [.cell 4 137,.tmp 5]:=oM func244
def q246:=V (RS f246=·)
def r246_0:=X q246 0
def r246_1:=X q246 1
def r246_2:=X q246 2
def r246_3:=X q246 3
def r246_4:=X q246 4
def r246_5:=X q246 5
def r246_6:=X q246 6
def r246_7:=X q246 7
def l246_0:CC:=(.seq (rN r246_3) (.seq (.cond (.t 11) .skip (.exit 0)) (.seq (.block 1 (.seq (rN r246_4) (.seq (rN r246_5) (rN r246_6)))) (rN r246_7))))
def r246_8:=X q246 8
def c246:CC:=(.seq (rN r246_0) (.seq (rN r246_1) (.seq (.seq (rN r246_2) (.block 0 (.loop l246_0))) (.seq (rN r246_8) .ret))))
theorem o246:FnI 246 28 f246 c246 [.tmp 4]:=oM func246
def q305:=V (RF f305=·)
def r305_0:=X q305 0
def r305_1:=X q305 1
def r305_2:=X q305 2
def r305_3:=X q305 3
def l305_0:CC:=(.seq (.seq (rN r305_2) (.cond (.t 13) .skip (.exit 0))) (.block 1 (.reg r305_3 (some [(0,1),(0,2),(1,2),(0,3)]))))
def r305_4:=X q305 4
def c305:CC:=(.seq (rN r305_0) (.seq (.reg r305_1 (some [(0,2),(1,2),(0,4),(1,4),(2,4),(3,4),(0,5),(1,5),(2,5),(3,5),(4,5)])) (.seq (.block 0 (.loop l305_0)) (.seq (rN r305_4) .ret))))
theorem o305:FnI 305 19 f305 c305 [.cell 4 53]:=oM func305
def q351:=V (RS f351=·)
def r351_0:=X q351 0
def r351_1:=X q351 1
def r351_2:=X q351 2
def c351:CC:=(.seq (rN r351_0) (.seq (rN r351_1) (.seq (rN r351_2) .ret)))
theorem o351:FnI 351 16 f351 c351 [.cell 4 53]:=oM func351
