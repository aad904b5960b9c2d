/- A part of the proof. -/
import Derived.Test.YtpflahgcdgdkjaaGreatDoorAL1
import Derived.Test.YtpflahgcdgdkjaaGreatDoorAL70
import Derived.Test.YtpflahgcdgdkjaaGreatDoorProg
import Derived.KernelRfl
import Derived.Test.YtpflahgcdgdkjaaGreatDoorSS
namespace Go.Limb
open List renaming getD_eq_getElem?_getD → qQ, take_of_length_le → qX, length_cons → qV, take_length → qY, length_take → qU, getElem?_eq_getElem → qD, getElem?_set_ne → qG, take_add_one → qM
open Nat renaming mul_assoc → qZ, mul_add → qJ, pow_succ → qK, pow_le_pow_right → qW, mul_zero → qA, lt_of_lt_of_le → qB, le_refl → qC, add_zero → qE, mul_le_mul_left → qH, mod_lt → qI, mul_comm → qL, lt_or_ge → qN
set_option linter.unusedSimpArgs false
set_option linter.unusedVariables false
def val:List Nat→Nat
 | []=>0
 | d::r=>d+4294967296*val r
def Dig (l:List Nat):Prop:= ∀d∈l,d<4294967296
def Top:List Nat→Prop
 | []=>True
 | [d]=>d≠0
 | _::d::r=>Top (d::r)
def zcg (l:List Nat):Prop:=Dig l∧Top l
theorem Dig.nil:Dig []:=by intro d h;simp at h
theorem Dig.cons {d:Nat} {r:List Nat} (h:d<4294967296) (hr:Dig r):Dig (d::r):=by
 intro x hx
 rcases List.mem_cons.1 hx with e | e
 ·rw [e];exact h
 ·exact hr x e
theorem Dig.head {d:Nat} {r:List Nat} (h:Dig (d::r)):d<4294967296:=h d (by simp)
theorem Dig.tail {d:Nat} {r:List Nat} (h:Dig (d::r)):Dig r:=fun x hx=>h x (by simp [hx])
theorem Dig.append {l r:List Nat} (h:Dig l) (hr:Dig r):Dig (l++r):=by
 intro x hx
 rcases List.mem_append.1 hx with e | e
 ·exact h x e
 ·exact hr x e
theorem Dig.take {l:List Nat} (h:Dig l) (n:Nat):Dig (l.take n):=fun x hx=>h x (List.mem_of_mem_take hx)
theorem Dig.getD {l:List Nat} (h:Dig l) (i:Nat):l.getD i 0<4294967296:=by
 rw [qQ]
 cases e:l[i]? with
 | none=>simp
 | some x=>exact h x (List.mem_of_getElem? e)
theorem zcg.nil:zcg []:=⟨Dig.nil,trivial⟩
theorem Top.tail {d:Nat} {r:List Nat} (h:Top (d::r)):Top r:=by
 cases r with
 | nil=>trivial
 | cons x r=>exact h
theorem zcg.tail {d:Nat} {r:List Nat} (h:zcg (d::r)):zcg r:=⟨h.1.tail,h.2.tail⟩
theorem zef (l r:List Nat):val (l++r)=val l+4294967296^l.length*val r:=by
 induction l with
 | nil=>simp [val]
 | cons d l ih=>
  simp only [List.cons_append,val,ih,qV,qK,qJ]
  have:4294967296*(4294967296^l.length*val r)=4294967296^l.length*4294967296*val r:=by
   rw [←qZ,qL 4294967296]
  omega
theorem zjh {l:List Nat} (h:Dig l):val l<4294967296^l.length:=by
 induction l with
 | nil=>simp [val]
 | cons d l ih=>
  have h1:=ih h.tail
  have h2:=h.head
  simp only [val,qV,qK]
  have:val l+1≤4294967296^l.length:=h1
  have:(val l+1)*4294967296≤4294967296^l.length*4294967296:=Nat.mul_le_mul_right _ this
  omega
theorem zkp {l:List Nat} (ht:Top l) (hl:l≠[]):4294967296^(l.length-1)≤val l:=by
 induction l with
 | nil=>exact absurd rfl hl
 | cons d l ih=>
  cases l with
  | nil=>
   have:d≠0:=ht
   simp [val];omega
  | cons x r=>
   have:=ih ht.tail (by simp)
   simp only [qV,Nat.add_sub_cancel] at this ⊢
   rw [val,qK]
   omega
theorem zji:∀{l r:List Nat},zcg l→zcg r→val l=val r→l=r:=by
 intro l
 induction l with
 | nil=>
  intro r _ hr h
  cases r with
  | nil=>rfl
  | cons x r=>
   have h1:=zkp hr.2 (by simp)
   have h2:0<4294967296^((x::r).length-1):=Nat.pow_pos (by decide)
   rw [←h] at h1
   simp only [val] at h1
   omega
 | cons d l ih=>
  intro r hl hr h
  cases r with
  | nil=>
   have h1:=zkp hl.2 (by simp)
   have h2:0<4294967296^((d::l).length-1):=Nat.pow_pos (by decide)
   rw [h] at h1
   simp only [val] at h1
   omega
  | cons x r=>
   simp only [val] at h
   have h1:=hl.1.head
   have h2:=hr.1.head
   have:d=x∧val l=val r:=by omega
   rw [this.1,ih hl.tail hr.tail this.2]
theorem zxh {l:List Nat} (h:zcg l):val l=0↔l=[]:=by
 constructor
 ·intro e;exact zji h zcg.nil e
 ·intro e;rw [e];rfl
def zgg (l:List Nat):Nat→Nat
 | 0=>0
 | n+1=>if l.getD n 0=0 then zgg l n else n+1
theorem zhy (l:List Nat) (n:Nat):zgg l n≤n:=by
 induction n with
 | zero=>simp [zgg]
 | succ n ih=>simp only [zgg];split<;>omega
def zbg (l:List Nat):List Nat:=l.take (zgg l l.length)
theorem qag {l:List Nat} {d:Nat} (h:d≠0):Top (l++[d]):=by
 induction l with
 | nil=>exact h
 | cons x l ih=>
  cases l with
  | nil=>exact h
  | cons y l=>exact ih
theorem zop (l:List Nat):∀n,n≤l.length→Top (l.take (zgg l n))∧val (l.take (zgg l n))=val (l.take n):=by
 intro n
 induction n with
 | zero=>intro _;simp [zgg,Top]
 | succ n ih=>
  intro hn
  have e:l.take (n+1)=l.take n++[l.getD n 0]:=by
   rw [qM,qQ,qD (by omega)];rfl
  simp only [zgg]
  split
  ·rename_i h0
   obtain ⟨h1,h2⟩:=ih (by omega)
   refine ⟨h1,?_⟩
   rw [h2,e,zef,h0]
   simp [val]
  ·rename_i h0
   refine ⟨?_,rfl⟩
   rw [e];exact qag h0
theorem zbk {l:List Nat} (h:Dig l):zcg (zbg l):=⟨h.take _,(zop l l.length (qC _)).1⟩
theorem zck (l:List Nat):val (zbg l)=val l:=by
 have:=(zop l l.length (qC _)).2
 rw [qY] at this
 exact this
theorem zhb (l:List Nat):(zbg l).length=zgg l l.length:=by
 unfold zbg
 rw [qU]
 have:=zhy l l.length
 omega
def cmpN (m n:List Nat):Nat→Int
 | 0=>0
 | i+1=>if m.getD i 0=n.getD i 0 then cmpN m n i else if m.getD i 0<n.getD i 0 then -1 else 1
def cmpL (m n:List Nat):Int:=if m.length=n.length then cmpN m n m.length else if m.length<n.length then -1 else 1
def sgn (a b:Nat):Int:=if a<b then -1 else if a=b then 0 else 1
theorem zkq {l:List Nat} {n:Nat} (h:n<l.length):l.take (n+1)=l.take n++[l.getD n 0]:=by
 rw [qM,qQ,qD h];rfl
theorem qeo {m n:List Nat} (hm:Dig m) (hn:Dig n):∀i,i≤m.length→i≤n.length→cmpN m n i=sgn (val (m.take i)) (val (n.take i)):=by
 intro i
 induction i with
 | zero=>intro _ _;simp [cmpN,sgn,val]
 | succ i ih=>
  intro h1 h2
  have e1:=zkq (l:=m) (n:=i) (by omega)
  have e2:=zkq (l:=n) (n:=i) (by omega)
  have l1:=zjh (hm.take i)
  have l2:=zjh (hn.take i)
  have n1:(m.take i).length=i:=by rw [qU];omega
  have n2:(n.take i).length=i:=by rw [qU];omega
  rw [n1] at l1
  rw [n2] at l2
  rw [cmpN,ih (by omega) (by omega),e1,e2,zef,zef,n1,n2]
  simp only [val,qA,qE]
  generalize val (m.take i)=a at*
  generalize val (n.take i)=b at*
  generalize m.getD i 0=x at*
  generalize n.getD i 0=y at*
  generalize 4294967296^i=p at*
  unfold sgn
  split
  ·rename_i h;subst h
   have:(a+p*x<b+p*x)↔a<b:=by omega
   have h3:(a+p*x=b+p*x)↔a=b:=by omega
   simp only [this,h3]
  ·rename_i h
   split
   ·rename_i h3
    have:p*(x+1)≤p*y:=qH _ h3
    rw [qJ] at this
    rw [if_pos (by omega)]
   ·rename_i h3
    have:p*(y+1)≤p*x:=qH _ (by omega)
    rw [qJ] at this
    rw [if_neg (by omega),if_neg (by omega)]
theorem zhc {m n:List Nat} (hm:zcg m) (hn:zcg n):cmpL m n=sgn (val m) (val n):=by
 have key:∀{m n:List Nat},zcg m→zcg n→m.length<n.length→val m<val n:=by
  intro m n hm hn h
  have h1:=zjh hm.1
  have h2:=zkp hn.2 (by intro e;rw [e] at h;simp at h)
  have h3:4294967296^m.length≤4294967296^(n.length-1):=qW (by decide) (by omega)
  omega
 unfold cmpL
 split
 ·rename_i h
  rw [qeo hm.1 hn.1 m.length (qC _) (by omega),qY,h,qY]
 ·rename_i h
  split
  ·rename_i h2
   have:=key hm hn h2
   unfold sgn
   rw [if_pos this]
  ·rename_i h2
   have:=key hn hm (by omega)
   unfold sgn
   rw [if_neg (by omega),if_neg (by omega)]
def sumL (m n:List Nat):Nat→Nat→Nat→List Nat→List Nat
 | 0,_,c,out=>out++[c%4294967296]
 | k+1,i,c,out=>sumL m n k (i+1) ((c+m.getD i 0+n.getD i 0)/4294967296) (out++[(c+m.getD i 0+n.getD i 0)%4294967296])
theorem zdj (l:List Nat) (i:Nat):val (l.take (i+1))=val (l.take i)+4294967296^i*l.getD i 0:=by
 rcases qN i l.length with h | h
 ·rw [zkq h,zef,qU,Nat.min_eq_left (by omega)]
  simp [val]
 ·rw [qX h,qX (by omega),qQ,List.getElem?_eq_none h]
  simp
theorem qep (m n:List Nat) (hm:Dig m) (hn:Dig n):∀(k i c:Nat) (out:List Nat),c≤1→out.length=i→Dig out→m.length≤i+k→n.length≤i+k→
  val out+4294967296^i*c=val (m.take i)+val (n.take i)→
  val (sumL m n k i c out)=val m+val n∧Dig (sumL m n k i c out)∧(sumL m n k i c out).length=i+k+1:=by
 intro k
 induction k with
 | zero=>
  intro i c out hc ho hd h1 h2 h
  rw [qX (by omega),qX (by omega)] at h
  simp only [sumL]
  refine ⟨?_,hd.append (Dig.cons (qI _ (by decide)) Dig.nil),by simp [ho]⟩
  rw [zef,ho]
  simp only [val,qA,qE]
  rw [Nat.mod_eq_of_lt (by omega)]
  exact h
 | succ k ih=>
  intro i c out hc ho hd h1 h2 h
  have b1:=hm.getD i
  have b2:=hn.getD i
  have:=ih (i+1) ((c+m.getD i 0+n.getD i 0)/4294967296) (out++[(c+m.getD i 0+n.getD i 0)%4294967296]) (by omega) (by simp [ho])
   (hd.append (Dig.cons (qI _ (by decide)) Dig.nil)) (by omega) (by omega) (by
    rw [zdj,zdj,zef,ho]
    simp only [val,qA,qE,qK]
    generalize 4294967296^i=p at*
    have e:c+m.getD i 0+n.getD i 0=(c+m.getD i 0+n.getD i 0)%4294967296+4294967296*((c+m.getD i 0+n.getD i 0)/4294967296):=by omega
    generalize (c+m.getD i 0+n.getD i 0)%4294967296=u at*
    generalize (c+m.getD i 0+n.getD i 0)/4294967296=v at*
    have e2:p*(c+m.getD i 0+n.getD i 0)=p*(u+4294967296*v):=by rw [e]
    simp only [qJ] at e2
    have e3:p*4294967296*v=p*(4294967296*v):=qZ _ _ _
    omega)
  simp only [sumL]
  refine ⟨this.1,this.2.1,by omega⟩
theorem qkx {a b c u v p A B C:Nat} (hv:a+4294967296*v=u+(b+c)) (h:A+p*b=C+B):A+p*a+p*4294967296*v=C+p*u+(B+p*c):=by
 have e2:p*(a+4294967296*v)=p*(u+(b+c)):=by rw [hv]
 simp only [qJ] at e2
 have e3:p*4294967296*v=p*(4294967296*v):=qZ _ _ _
 omega
theorem qqy {a b c u v p A B C V1 V2 V3 D:Nat} (h1:V1=A+p*a) (h2:V2=B+p*c) (h3:V3=C+p*u) (hD:D=p*4294967296) (hv:a+4294967296*v=u+(b+c)) (h:A+p*b=C+B):V1+D*v=V3+V2:=by
 subst h1 h2 h3 hD
 exact qkx hv h
theorem pw (i:Nat):4294967296^(i+1)=4294967296^i*4294967296:=by rw [qK]
theorem qah {l:List Nat} {i d:Nat} (h:l.length=i):val (l++[d])=val l+4294967296^i*d:=by
 rw [zef,h]
 simp [val]
def brw (a b:Nat):Nat:=if a<b then 1 else 0
theorem qky {a b:Nat} (ha:a<4294967296) (hb:b≤4294967296):a+4294967296*brw a b=(a+8589934592-b)%4294967296+b:=by
 unfold brw
 split<;>omega
theorem qva (a b:Nat):brw a b≤1:=by unfold brw;split<;>omega
def difL (m n:List Nat):Nat→Nat→Nat→List Nat→List Nat
 | 0,_,_,out=>out
 | k+1,i,b,out=>difL m n k (i+1) (brw (m.getD i 0) (b+n.getD i 0)) (out++[(m.getD i 0+8589934592-(b+n.getD i 0))%4294967296])
theorem qkz {a b c d p:Nat} (h:a+p*b=c+d) (hlt:c<p) (hv:d≤a) (hb:b≤1):b=0:=by
 rcases qN b 1 with h2 | h2
 ·omega
 ·have e:b=1:=by omega
  rw [e,Nat.mul_one] at h
  omega
theorem zmv (m n:List Nat) (hm:Dig m) (hn:Dig n) (hnm:n.length≤m.length) (hv:val n≤val m):∀(k i b:Nat) (out:List Nat),b≤1→out.length=i→Dig out→m.length=i+k→
  val (m.take i)+4294967296^i*b=val out+val (n.take i)→
  val (difL m n k i b out)+val n=val m∧Dig (difL m n k i b out)∧(difL m n k i b out).length=m.length:=by
 intro k
 induction k with
 | zero=>
  intro i b out hb ho hd h1 h
  have h1:m.length=i:=h1
  have hlt:=zjh hd
  rw [ho] at hlt
  rw [qX (by omega),qX (by omega)] at h
  simp only [difL]
  have hb0:=qkz h hlt hv hb
  rw [hb0,qA] at h
  clear hlt
  exact ⟨by omega,hd,by omega⟩
 | succ k ih=>
  intro i b out hb ho hd h1 h
  have b1:=hm.getD i
  have b2:=hn.getD i
  simp only [difL]
  refine ih (i+1) _ _ (qva _ _) (by simp [ho]) (hd.append (Dig.cons (qI _ (by decide)) Dig.nil)) (by omega) ?_
  exact qqy (zdj m i) (zdj n i) (qah ho) (pw i) (qky b1 (by omega)) h
def mulR (n:List Nat) (x i:Nat):Nat→Nat→Nat→List Nat→Nat×List Nat
 | 0,_,c,out=>(c,out)
 | k+1,j,c,out=>mulR n x i k (j+1) ((c+(x*n.getD j 0+out.getD (i+j) 0))/4294967296) (out.set (i+j) ((c+(x*n.getD j 0+out.getD (i+j) 0))%4294967296))
def mulL (n:List Nat):List Nat→Nat→List Nat→List Nat
 | [],_,out=>out
 | x::m,i,out=>mulL n m (i+1) ((mulR n x i n.length 0 0 out).2.set (i+n.length) ((mulR n x i n.length 0 0 out).1))
theorem zvj {l:List Nat} {i v:Nat} (h:i<l.length):val (l.set i v)+4294967296^i*l.getD i 0=val l+4294967296^i*v:=by
 induction l generalizing i with
 | nil=>simp at h
 | cons d l ih=>
  cases i with
  | zero=>simp [val];omega
  | succ i=>
   have:=ih (i:=i) (by simpa using h)
   simp only [List.set_cons_succ,val,List.getD_cons_succ,qK]
   have e1:4294967296^i*4294967296*l.getD i 0=4294967296*(4294967296^i*l.getD i 0):=by rw [qL (4294967296^i),qZ]
   have e2:4294967296^i*4294967296*v=4294967296*(4294967296^i*v):=by rw [qL (4294967296^i),qZ]
   omega
theorem Dig.set {l:List Nat} {i v:Nat} (h:Dig l) (hv:v<4294967296):Dig (l.set i v):=by
 intro a ha
 rcases List.mem_or_eq_of_mem_set ha with e | e
 ·exact h a e
 ·rw [e];exact hv
theorem zsr (n:List Nat) (hn:Dig n) (x i:Nat) (hx:x<4294967296):∀(k j c:Nat) (out:List Nat),c<4294967296→j+k=n.length→i+n.length<out.length→Dig out→
  (mulR n x i k j c out).1<4294967296∧(mulR n x i k j c out).2.length=out.length∧Dig (mulR n x i k j c out).2∧
  (∀t,i+n.length≤t→(mulR n x i k j c out).2.getD t 0=out.getD t 0)∧
  val (mulR n x i k j c out).2+4294967296^(i+n.length)*(mulR n x i k j c out).1+4294967296^i*(x*val (n.take j))=val out+4294967296^(i+j)*c+4294967296^i*(x*val n):=by
 intro k
 induction k with
 | zero=>
  intro j c out hc hj hl hd
  have hj:j=n.length:=by omega
  subst hj
  refine ⟨hc,rfl,hd,fun _ _=>rfl,?_⟩
  simp only [mulR,qY]
 | succ k ih=>
  intro j c out hc hj hl hd
  have b1:=hn.getD j
  have b2:=hd.getD (i+j)
  have hxy:x*n.getD j 0≤4294967295*4294967295:=Nat.mul_le_mul (by omega) (by omega)
  have hS:c+(x*n.getD j 0+out.getD (i+j) 0)<4294967296*4294967296:=by omega
  obtain ⟨h1,h2,h3,h4,h5⟩:=ih (j+1) ((c+(x*n.getD j 0+out.getD (i+j) 0))/4294967296) (out.set (i+j) ((c+(x*n.getD j 0+out.getD (i+j) 0))%4294967296)) (by omega) (by omega) (by simpa using hl)
   (hd.set (qI _ (by decide)))
  simp only [mulR]
  refine ⟨h1,by simpa using h2,h3,fun t ht=>?_,?_⟩
  ·rw [h4 t ht,qQ,qG (by omega),qQ]
  ·have hs:=zvj (l:=out) (i:=i+j) (v:=(c+(x*n.getD j 0+out.getD (i+j) 0))%4294967296) (by omega)
   rw [zdj] at h5
   generalize mulR n x i k (j+1) ((c+(x*n.getD j 0+out.getD (i+j) 0))/4294967296) (out.set (i+j) ((c+(x*n.getD j 0+out.getD (i+j) 0))%4294967296))=R at*
   generalize val (out.set (i+j) ((c+(x*n.getD j 0+out.getD (i+j) 0))%4294967296))=V at*
   have e:c+(x*n.getD j 0+out.getD (i+j) 0)=(c+(x*n.getD j 0+out.getD (i+j) 0))%4294967296+4294967296*((c+(x*n.getD j 0+out.getD (i+j) 0))/4294967296):=by omega
   generalize (c+(x*n.getD j 0+out.getD (i+j) 0))%4294967296=u at*
   generalize (c+(x*n.getD j 0+out.getD (i+j) 0))/4294967296=v at*
   have e2:4294967296^(i+j)*(c+(x*n.getD j 0+out.getD (i+j) 0))=4294967296^(i+j)*(u+4294967296*v):=by rw [e]
   have e3:4294967296^(i+(j+1))*v=4294967296^(i+j)*(4294967296*v):=by rw [←Nat.add_assoc,qK,qZ]
   have e4:4294967296^i*(x*(val (n.take j)+4294967296^j*n.getD j 0))=4294967296^i*(x*val (n.take j))+4294967296^(i+j)*(x*n.getD j 0):=by
    rw [qJ,qJ,Nat.pow_add,Nat.mul_left_comm x,qZ]
   rw [e3,e4] at h5
   simp only [qJ] at e2
   omega
theorem qeq (n:List Nat) (hn:Dig n):∀(m:List Nat) (i:Nat) (out:List Nat),Dig m→Dig out→out.length=i+m.length+n.length→(∀t,i+n.length≤t→out.getD t 0=0)→
  (mulL n m i out).length=out.length∧Dig (mulL n m i out)∧val (mulL n m i out)=val out+4294967296^i*(val m*val n):=by
 intro m
 induction m with
 | nil=>intro i out _ hd _ _;simp [mulL,val,hd]
 | cons x m ih=>
  intro i out hm hd hl hz
  simp only [qV] at hl
  obtain ⟨h1,h2,h3,h4,h5⟩:=zsr n hn x i hm.head n.length 0 0 out (by decide) (by omega) (by omega) hd
  simp only [mulL]
  generalize mulR n x i n.length 0 0 out=R at*
  have hz0:R.2.getD (i+n.length) 0=0:=(h4 _ (qC _)).trans (hz _ (qC _))
  have hs:=zvj (l:=R.2) (i:=i+n.length) (v:=R.1) (by omega)
  obtain ⟨g1,g2,g3⟩:=ih (i+1) (R.2.set (i+n.length) R.1) hm.tail (h3.set h1) (by simp;omega) (by
   intro t ht
   rw [qQ,qG (by omega),←qQ,h4 t (by omega)]
   exact hz t (by omega))
  refine ⟨by rw [g1];simpa using h2,g2,?_⟩
  rw [g3,val,Nat.add_mul,qJ]
  rw [hz0] at hs
  simp only [List.take_zero,val,qA,qE] at h5 hs
  have e:4294967296^(i+1)*(val m*val n)=4294967296^i*(4294967296*val m*val n):=by rw [qK,qZ,qZ]
  omega
def POW (k:Nat):Nat:=4294967296^k
def BIG:Nat:=POW 1100
theorem qai {l:List Nat} {k:Nat} (h:zcg l) (hv:val l<POW k):l.length≤k:=by
 rcases qN k l.length with h1 | h1
 ·exfalso
  have h2:=zkp h.2 (by intro e;rw [e] at h1;simp at h1)
  have h3:4294967296^k≤4294967296^(l.length-1):=qW (by decide) (by omega)
  unfold POW at hv
  exact absurd (qB hv (Nat.le_trans h3 h2)) (Nat.lt_irrefl _)
 ·exact h1
theorem canon_len {l:List Nat} (h:zcg l) (hv:val l<BIG):l.length≤1100:=qai (k:=1100) h hv
theorem qer {l:List Nat} {k:Nat} (h:Dig l) (hl:l.length≤k):val l<POW k:=
 qB (zjh h) (qW (by decide) hl)
theorem zeu {l:List Nat} (h:Dig l) (hl:l.length≤1100):val l<BIG:=qer (k:=1100) h hl
theorem zvk {n k:Nat} (hk:4≤k) (h:n<340282366920938463463374607431768211456):n<POW k:=
 qB h (show 4294967296^4≤4294967296^k from qW (by decide) hk)
theorem zhz {n:Nat} (h:n<340282366920938463463374607431768211456):n<BIG:=zvk (k:=1100) (by decide) h
end Go.Limb
namespace Go.Proofs.YtpflahgcdgdkjaaGreatDoor
set_option linter.unusedSimpArgs false
set_option linter.unusedVariables false
open Go Go.AL Go.Proofs
set_option maxRecDepth 100000
def G:Glob:=⟨[(0,[.int .i64 7,.int .i64 11,.int .i64 13,.int .i64 17,.int .i64 19,.int .i64 23,.int .i64 29,.int .i64 31])],fun _ _ _ _ _=>False,fun _=>[]⟩
theorem zah:Tryz.prog.follows .mixedOrders=true:=by kernel_rfl
def okS:List Nat:=[49,78,155]
def okB (f:Nat):Bool:=hasN okS f
theorem qri:(okS.all fun f=>okFn Tryz.prog f)=true:=by kernel_rfl
theorem qve:∀f,okB f=true→okFn Tryz.prog f=true:=fun f h=>List.all_eq_true.1 qri f (zqi _ _ h)
def r8_0:List COp:=[oP 2 (.box (.t 0)),oP 4 (.mov (.k (.vec [] 0 (some 0))))]
def r8_1:List COp:=[oP 9 (.load true 4 (.t 2)),mV 10 1,oP 11 (.call 25 [.t 9,.t 10]),oP 12 (.call 24 [.t 11]),oP 13 (.call 23 [.t 12]),mV 8 13,oP 14 (.ext (.t 8) 0),oP 15 (.ext (.t 8) 1),oP 16 (.ext (.t 8) 2),mV 5 14,mV 6 15,mV 7 16]
def r8_2:List COp:=[mV 17 5,mV 4 17]
def c8:CC:=(.seq (.reg r8_0 none) (.seq (.reg r8_1 none) (.seq (.reg r8_2 none) .ret)))
theorem comp8:CmpC Tryz.prog G Tryz.f8=some c8:=by kernel_rfl
theorem res8:Tryz.f8.results.toList=[(.tmp 4)]:=by kernel_rfl
def r11_0:List COp:=[oP 6 (.mov (.k (.vec [] 0 (some 0)))),oP 7 (.mov (kI 0))]
def r11_1:List COp:=[mV 13 0,mV 14 1,oP 15 (.call 26 [.t 13,.t 14]),mV 8 15]
def r11_2:List COp:=[mV 16 8,oP 17 (.bin .neq (.t 16) (kI 0))]
def r11_3:List COp:=[mV 18 8,oP 6 (.mov (.k (.vec [] 0 (some 0)))),mV 7 18]
def r11_4:List COp:=[mV 19 2,oP 20 (.bin .lss (.t 19) (kI 1))]
def r11_5:List COp:=[oP 6 (.mov (.k (.vec [] 0 (some 0)))),oP 7 (.mov (kI 1))]
def r11_6:List COp:=[mV 22 1,mV 23 2,oP 24 (.call 27 [.t 22,.t 23]),mV 21 24,oP 25 (.ext (.t 21) 0),oP 26 (.ext (.t 21) 1),mV 9 25,mV 10 26]
def r11_7:List COp:=[mV 27 10,oP 28 (.un .not (.t 27))]
def r11_8:List COp:=[oP 6 (.mov (.k (.vec [] 0 (some 0)))),oP 7 (.mov (kI 7))]
def r11_9:List COp:=[mV 30 9,mV 31 0,oP 32 (.len false (.t 31)),oP 33 (.call 27 [.t 30,.t 32]),mV 29 33,oP 34 (.ext (.t 29) 0),oP 35 (.ext (.t 29) 1),mV 11 34,mV 12 35]
def r11_10:List COp:=[mV 36 12,oP 37 (.un .not (.t 36))]
def r11_11:List COp:=[oP 6 (.mov (.k (.vec [] 0 (some 0)))),oP 7 (.mov (kI 7))]
def r11_12:List COp:=[mV 38 0,mV 39 9,oP 40 (.call 28 [.t 38,.t 39]),mV 6 40,oP 7 (.mov (kI 0))]
def c11:CC:=(.seq (.reg r11_0 none) (.seq (.seq (.reg r11_1 none) (.seq (.reg r11_2 none) (.cond (.t 17) (.seq (.reg r11_3 none) .ret) .skip))) (.seq (.seq (.reg r11_4 none) (.cond (.t 20) (.seq (.reg r11_5 none) .ret) .skip)) (.seq (.reg r11_6 none) (.seq (.seq (.reg r11_7 none) (.cond (.t 28) (.seq (.reg r11_8 none) .ret) .skip)) (.seq (.seq (.reg r11_9 none) (.seq (.reg r11_10 none) (.cond (.t 37) (.seq (.reg r11_11 none) .ret) .skip))) (.seq (.reg r11_12 none) .ret)))))))
theorem comp11:CmpC Tryz.prog G Tryz.f11=some c11:=by kernel_rfl
theorem res11:Tryz.f11.results.toList=[(.tmp 6),(.tmp 7)]:=by kernel_rfl
def r23_0:List COp:=[oP 2 (.mov (.k (.vec [] 0 (some 0)))),oP 3 (.mov (.k (.vec [] 0 (some 0)))),oP 4 (.mov (kI 0))]
def r23_1:List COp:=[mV 13 0,oP 14 (.call 56 [.t 13]),mV 5 14]
def r23_2:List COp:=[mV 15 5,oP 16 (.bin .neq (.t 15) (kI 0))]
def r23_3:List COp:=[mV 17 5,oP 2 (.mov (.k (.vec [] 0 (some 0)))),oP 3 (.mov (.k (.vec [] 0 (some 0)))),mV 4 17]
def r23_4:List COp:=[mV 18 0,oP 19 (.call 57 [.t 18]),oP 20 (.un .not (.t 19))]
def r23_5:List COp:=[oP 2 (.mov (.k (.vec [] 0 (some 0)))),oP 3 (.mov (.k (.vec [] 0 (some 0)))),oP 4 (.mov (kI 7))]
def r23_6:List COp:=[mV 21 0,oP 22 (.call 58 [.t 21]),mV 6 22]
def r23_7:List COp:=[mV 24 0,oP 25 (.len false (.t 24)),oP 26 (.call 59 [.t 25]),mV 23 26,oP 27 (.ext (.t 23) 0),oP 28 (.ext (.t 23) 1),mV 7 27,mV 8 28]
def r23_8:List COp:=[mV 30 6,oP 31 (.call 60 [.t 30]),mV 29 31,oP 32 (.ext (.t 29) 0),oP 33 (.ext (.t 29) 1),mV 9 32,mV 10 33]
def r23_9:List COp:=[mV 34 10,oP 35 (.un .not (.t 34))]
def r23_10:List COp:=[mV 37 6,oP 38 (.call 61 [.t 37]),mV 36 38,oP 39 (.ext (.t 36) 0),oP 40 (.ext (.t 36) 1),mV 11 39,mV 12 40]
def r23_11:List COp:=[mV 41 11,mV 42 7,mV 2 41,mV 3 42,oP 4 (.mov (kI 0))]
def r23_12:List COp:=[mV 43 6,mV 44 9,oP 45 (.call 62 [.t 43,.t 44]),mV 46 7,mV 47 9,oP 48 (.call 63 [.t 46,.t 47]),mV 6 45,mV 7 48]
def l23_0:CC:=(.block 1 (.seq (.reg r23_8 none) (.seq (.seq (.reg r23_9 none) (.cond (.t 35) (.seq (.reg r23_10 none) (.seq (.reg r23_11 none) .ret)) .skip)) (.reg r23_12 none))))
def c23:CC:=(.seq (.reg r23_0 none) (.seq (.seq (.reg r23_1 none) (.seq (.reg r23_2 none) (.cond (.t 16) (.seq (.reg r23_3 none) .ret) .skip))) (.seq (.seq (.reg r23_4 none) (.cond (.t 20) (.seq (.reg r23_5 none) .ret) .skip)) (.seq (.reg r23_6 none) (.seq (.reg r23_7 none) (.block 0 (.loop l23_0)))))))
theorem comp23:CmpC Tryz.prog G Tryz.f23=some c23:=by kernel_rfl
theorem res23:Tryz.f23.results.toList=[(.tmp 2),(.tmp 3),(.tmp 4)]:=by kernel_rfl
def r24_0:List COp:=[oP 2 (.mov (.k (.vec [] 0 (some 0))))]
def r24_1:List COp:=[mV 6 0,oP 7 (.call 64 [.t 6]),mV 5 7,oP 8 (.ext (.t 5) 0),oP 9 (.ext (.t 5) 1),mV 3 8,mV 4 9]
def r24_2:List COp:=[mV 10 3,mV 2 10]
def c24:CC:=(.seq (.reg r24_0 none) (.seq (.reg r24_1 none) (.seq (.reg r24_2 none) .ret)))
theorem comp24:CmpC Tryz.prog G Tryz.f24=some c24:=by kernel_rfl
theorem res24:Tryz.f24.results.toList=[(.tmp 2)]:=by kernel_rfl
def r25_0:List COp:=[oP 2 (.box (.t 0)),oP 4 (.mov (.k (.vec [] 0 (some 0))))]
def r25_1:List COp:=[oP 8 (.fld 2 (.t 2)),oP 9 (.load false 1 (.t 8)),oP 10 (.build [(.vec [] 0 (some 0)),(.int .i64 0)] [(0,(1,(.t 9)))]),oP 11 (.box (.t 10)),mV 5 11]
def r25_2:List COp:=[oP 12 (.fld 0 (.t 2)),oP 13 (.load false 1 (.t 12)),oP 14 (.conv .i64 (.t 13)),mV 15 1,oP 16 (.bin .rem (.t 14) (.t 15)),oP 17 (.bin .add (kI 1) (.t 16)),mV 6 17]
def r25_3:List COp:=[oP 7 (.mov (.k (.vec [] 0 (some 0))))]
def r25_4:List COp:=[oP 18 (.fld 1 (.t 2)),oP 19 (.load false 1 (.t 18)),oP 20 (.bin .rem (.t 19) (.k (.int .u8 8)))]
def r25_5:List COp:=[oP 25 (.bin .eql (.t 20) (.k (.int .u8 0))),mV 24 25]
def r25_6:List COp:=[oP 26 (.bin .eql (.t 20) (.k (.int .u8 1))),mV 24 26]
def r25_7:List COp:=[oP 27 (.bin .eql (.t 20) (.k (.int .u8 2))),mV 24 27]
def r25_8:List COp:=[oP 28 (.bin .eql (.t 20) (.k (.int .u8 3))),mV 24 28]
def r25_9:List COp:=[mV 29 5,mV 30 6,oP 31 (.call 65 [.t 29,.t 30]),mV 7 31]
def r25_10:List COp:=[oP 33 (.bin .eql (.t 20) (.k (.int .u8 4))),mV 32 33]
def r25_11:List COp:=[mV 34 6,oP 35 (.call 66 [.t 34,(.k (.bool false))]),mV 7 35]
def r25_12:List COp:=[mV 36 7,oP 37 (.idx 1 (.t 36) (kI 0)),oP 38 (.load false 1 (.t 37)),oP 39 (.idx 1 (.t 38) (kI 0)),oP 40 (.load false 1 (.t 39)),mV 41 5,oP 42 (.call 67 [.t 41,(kI 3)]),oP 43 (.bin .add (.t 40) (.t 42)),oP 44 (.idx 1 (.t 38) (kI 0)),sT (.store 1 (.t 44) (.t 43))]
def r25_13:List COp:=[oP 46 (.bin .eql (.t 20) (.k (.int .u8 5))),mV 45 46]
def r25_14:List COp:=[mV 47 6,oP 48 (.call 66 [.t 47,(.k (.bool true))]),mV 7 48]
def r25_15:List COp:=[mV 49 7,mV 50 6,oP 51 (.bin .sub (.t 50) (kI 1)),oP 52 (.idx 1 (.t 49) (.t 51)),oP 53 (.load false 1 (.t 52)),mV 54 6,oP 55 (.bin .sub (.t 54) (kI 1)),oP 56 (.idx 1 (.t 53) (.t 55)),oP 57 (.load false 1 (.t 56)),mV 58 5,oP 59 (.call 67 [.t 58,(kI 2)]),oP 60 (.bin .add (.t 57) (.t 59)),oP 61 (.idx 1 (.t 53) (.t 55)),sT (.store 1 (.t 61) (.t 60))]
def r25_16:List COp:=[oP 63 (.bin .eql (.t 20) (.k (.int .u8 6))),mV 62 63]
def r25_17:List COp:=[mV 64 5,mV 65 6,oP 66 (.call 68 [.t 64,.t 65,(kI 9)]),mV 7 66]
def r25_18:List COp:=[mV 21 5,mV 22 6,oP 23 (.call 68 [.t 21,.t 22,(kI 1)]),mV 7 23]
def r25_19:List COp:=[mV 67 7,oP 68 (.call 69 [.t 67]),oP 69 (.un .not (.t 68))]
def r25_20:List COp:=[mV 70 5,mV 71 6,oP 72 (.call 68 [.t 70,.t 71,(kI 2)]),mV 4 72]
def r25_21:List COp:=[mV 73 7,mV 4 73]
def c25:CC:=(.seq (.reg r25_0 none) (.seq (.reg r25_1 none) (.seq (.reg r25_2 none) (.seq (.reg r25_3 none) (.seq (.seq (.reg r25_4 none) (.block 0 (.seq (.seq (.reg r25_5 none) (.cond (.t 24) .skip (.seq (.reg r25_6 none) (.cond (.t 24) .skip (.seq (.reg r25_7 none) (.cond (.t 24) .skip (.reg r25_8 none))))))) (.cond (.t 24) (.reg r25_9 none) (.seq (.reg r25_10 none) (.cond (.t 32) (.seq (.reg r25_11 none) (.reg r25_12 (some [(2,6),(4,6)]))) (.seq (.reg r25_13 none) (.cond (.t 45) (.seq (.reg r25_14 none) (.reg r25_15 (some [(4,10),(8,10)]))) (.seq (.reg r25_16 none) (.cond (.t 62) (.reg r25_17 none) (.reg r25_18 none))))))))))) (.seq (.seq (.reg r25_19 none) (.cond (.t 69) (.seq (.reg r25_20 none) .ret) .skip)) (.seq (.reg r25_21 none) .ret)))))))
theorem comp25:CmpC Tryz.prog G Tryz.f25=some c25:=by kernel_rfl
theorem res25:Tryz.f25.results.toList=[(.tmp 4)]:=by kernel_rfl
def r26_0:List COp:=[oP 4 (.mov (kI 0))]
def r26_1:List COp:=[mV 5 0,oP 6 (.call 70 [.t 5]),oP 7 (.un .not (.t 6))]
def r26_2:List COp:=[oP 4 (.mov (kI 6))]
def r26_3:List COp:=[mV 8 1,oP 9 (.bin .gtr (.t 8) (kI 9973)),mV 10 9,gU 11 10 false (.mov (.t 1)),gU 12 10 false (.call 71 [.t 11]),gU 13 10 false (.un .not (.t 12)),oP 14 (.pick (.t 10) (.k (.bool true)) (.t 13))]
def r26_4:List COp:=[oP 4 (.mov (kI 20))]
def r26_5:List COp:=[oP 4 (.mov (kI 0))]
def c26:CC:=(.seq (.reg r26_0 none) (.seq (.seq (.reg r26_1 none) (.cond (.t 7) (.seq (.reg r26_2 none) .ret) .skip)) (.seq (.seq (.reg r26_3 none) (.cond (.t 14) (.seq (.reg r26_4 none) .ret) .skip)) (.seq (.reg r26_5 none) .ret))))
theorem comp26:CmpC Tryz.prog G Tryz.f26=some c26:=by kernel_rfl
theorem res26:Tryz.f26.results.toList=[(.tmp 4)]:=by kernel_rfl
def r27_0:List COp:=[oP 4 (.mov (kI 0)),oP 5 (.mov (.k (.bool false)))]
def r27_1:List COp:=[oP 6 (.mov (kI 1))]
def r27_2:List COp:=[mV 7 1,oP 8 (.mov (kI 0))]
def r27_3:List COp:=[oP 9 (.bin .lss (.t 8) (.t 7))]
def r27_4:List COp:=[mV 10 6,mV 11 0,oP 12 (.bin .mul (.t 10) (.t 11)),mV 6 12]
def r27_5:List COp:=[mV 13 6,oP 14 (.bin .gtr (.t 13) (kI 2097152))]
def r27_6:List COp:=[oP 4 (.mov (kI 0)),oP 5 (.mov (.k (.bool false)))]
def r27_7:List COp:=[oP 15 (.bin .add (.t 8) (kI 1)),mV 8 15]
def l27_0:CC:=(.seq (.reg r27_3 none) (.seq (.cond (.t 9) .skip (.exit 0)) (.seq (.block 1 (.seq (.reg r27_4 none) (.seq (.reg r27_5 none) (.cond (.t 14) (.seq (.reg r27_6 none) .ret) .skip)))) (.reg r27_7 none))))
def r27_8:List COp:=[mV 16 6,mV 4 16,oP 5 (.mov (.k (.bool true)))]
def c27:CC:=(.seq (.reg r27_0 none) (.seq (.reg r27_1 none) (.seq (.seq (.reg r27_2 none) (.block 0 (.loop l27_0))) (.seq (.reg r27_8 none) .ret))))
theorem comp27:CmpC Tryz.prog G Tryz.f27=some c27:=by kernel_rfl
theorem res27:Tryz.f27.results.toList=[(.tmp 4),(.tmp 5)]:=by kernel_rfl
def r28_0:List COp:=[oP 4 (.mov (.k (.vec [] 0 (some 0))))]
def r28_1:List COp:=[mV 16 0,mV 17 1,oP 18 (.call 72 [.t 16,.t 17]),mV 15 18,oP 19 (.ext (.t 15) 0),oP 20 (.ext (.t 15) 1),mV 5 19,mV 6 20]
def r28_2:List COp:=[mV 21 1,oP 22 (.mksl 1 8 [(.int .i64 0)] (.t 21) (.t 21)),mV 7 22]
def r28_3:List COp:=[mV 23 0,oP 24 (.len false (.t 23)),oP 25 (.mksl 1 8 [(.int .i64 0)] (.t 24) (.t 24)),mV 8 25]
def r28_4:List COp:=[mV 26 0,oP 27 (.len false (.t 26)),oP 28 (.mksl 1 8 [(.int .i64 0)] (.t 27) (.t 27)),mV 9 28]
def r28_5:List COp:=[oP 10 (.mov (kI 0))]
def r28_6:List COp:=[mV 29 7,mV 30 10,oP 31 (.idx 1 (.t 29) (.t 30)),oP 32 (.load false 1 (.t 31)),oP 33 (.bin .add (.t 32) (kI 1)),oP 34 (.idx 1 (.t 29) (.t 30)),sT (.store 1 (.t 34) (.t 33))]
def r28_7:List COp:=[mV 35 5,oP 36 (.len false (.t 35)),oP 37 (.mov (kI 0))]
def r28_8:List COp:=[oP 38 (.bin .lss (.t 37) (.t 36))]
def r28_9:List COp:=[mV 39 37,oP 40 (.idx 1 (.t 35) (.t 37)),oP 41 (.load false 1 (.t 40)),mV 11 39,mV 12 41]
def r28_10:List COp:=[mV 42 10,mV 43 9,mV 44 11,oP 45 (.idx 1 (.t 43) (.t 44)),oP 46 (.load false 1 (.t 45)),oP 47 (.bin .mul (kI 2) (.t 46)),oP 48 (.bin .add (.t 42) (.t 47)),mV 49 12,mV 50 11,oP 51 (.idx 1 (.t 49) (.t 50)),oP 52 (.load false 1 (.t 51)),oP 53 (.bin .add (.t 48) (.t 52)),mV 54 1,oP 55 (.bin .rem (.t 53) (.t 54)),mV 10 55]
def r28_11:List COp:=[mV 56 12,oP 57 (.len false (.t 56)),oP 58 (.mov (kI 0))]
def r28_12:List COp:=[oP 59 (.bin .lss (.t 58) (.t 57))]
def r28_13:List COp:=[mV 60 58,oP 61 (.idx 1 (.t 56) (.t 58)),oP 62 (.load false 1 (.t 61)),mV 13 60,mV 14 62]
def r28_14:List COp:=[mV 63 9,mV 64 13,mV 65 9,mV 66 13,oP 67 (.idx 1 (.t 65) (.t 66)),oP 68 (.load false 1 (.t 67)),mV 69 14,oP 70 (.bin .add (.t 68) (.t 69)),mV 71 1,oP 72 (.bin .rem (.t 70) (.t 71)),oP 73 (.idx 1 (.t 63) (.t 64)),sT (.store 1 (.t 73) (.t 72))]
def r28_15:List COp:=[oP 74 (.bin .add (.t 58) (kI 1)),mV 58 74]
def l28_1:CC:=(.seq (.reg r28_12 none) (.seq (.cond (.t 59) .skip (.exit 2)) (.seq (.block 3 (.seq (.reg r28_13 none) (.reg r28_14 none))) (.reg r28_15 none))))
def r28_16:List COp:=[mV 75 8,mV 76 11,oP 77 (.idx 1 (.t 75) (.t 76)),oP 78 (.load false 1 (.t 77)),oP 79 (.bin .add (.t 78) (kI 1)),oP 80 (.idx 1 (.t 75) (.t 76)),sT (.store 1 (.t 80) (.t 79))]
def r28_17:List COp:=[mV 81 8,mV 82 11,oP 83 (.idx 1 (.t 81) (.t 82)),oP 84 (.load false 1 (.t 83)),mV 85 1,oP 86 (.bin .lss (.t 84) (.t 85))]
def r28_18:List COp:=[mV 87 8,mV 88 11,oP 89 (.idx 1 (.t 87) (.t 88)),sT (.store 1 (.t 89) (kI 0))]
def r28_19:List COp:=[oP 90 (.bin .add (.t 37) (kI 1)),mV 37 90]
def l28_0:CC:=(.seq (.reg r28_8 none) (.seq (.cond (.t 38) .skip (.exit 0)) (.seq (.block 1 (.seq (.reg r28_9 none) (.seq (.reg r28_10 (some [(4,10)])) (.seq (.seq (.reg r28_11 none) (.block 2 (.loop l28_1))) (.seq (.seq (.reg r28_16 none) (.seq (.reg r28_17 none) (.cond (.t 86) (.goto 0) .skip))) (.reg r28_18 none)))))) (.reg r28_19 none))))
def r28_20:List COp:=[mV 91 7,mV 4 91]
def c28:CC:=(.seq (.reg r28_0 none) (.scope (.seq (.reg r28_1 none) (.seq (.reg r28_2 none) (.seq (.reg r28_3 none) (.seq (.reg r28_4 none) (.seq (.reg r28_5 none) (.seq (.label 0) (.seq (.reg r28_6 none) (.seq (.seq (.reg r28_7 none) (.block 0 (.loop l28_0))) (.seq (.reg r28_20 none) .ret)))))))))))
theorem comp28:CmpC Tryz.prog G Tryz.f28=some c28:=by kernel_rfl
theorem res28:Tryz.f28.results.toList=[(.tmp 4)]:=by kernel_rfl
def r29_0:List COp:=[oP 2 (.mov (.k (.bool false)))]
def r29_1:List COp:=[mV 6 0,oP 7 (.call 64 [.t 6]),mV 5 7,oP 8 (.ext (.t 5) 0),oP 9 (.ext (.t 5) 1),mV 3 8,mV 4 9]
def r29_2:List COp:=[mV 10 4,mV 11 10,gU 12 11 true (.mov (.t 3)),gU 13 11 true (.call 56 [.t 12]),gU 14 11 true (.bin .eql (.t 13) (kI 0)),oP 15 (.pick (.t 11) (.t 14) (.k (.bool false))),mV 16 15,gU 17 16 true (.mov (.t 3)),gU 18 16 true (.call 57 [.t 17]),oP 19 (.pick (.t 16) (.t 18) (.k (.bool false))),mV 20 19,gU 21 20 true (.mov (.t 3)),gU 22 20 true (.call 73 [.t 21]),oP 23 (.pick (.t 20) (.t 22) (.k (.bool false))),mV 2 23]
def c29:CC:=(.seq (.reg r29_0 none) (.seq (.reg r29_1 none) (.seq (.reg r29_2 none) .ret)))
theorem comp29:CmpC Tryz.prog G Tryz.f29=some c29:=by kernel_rfl
theorem res29:Tryz.f29.results.toList=[(.tmp 2)]:=by kernel_rfl
def r56_0:List COp:=[oP 2 (.mov (kI 0))]
def r56_1:List COp:=[mV 6 0,oP 7 (.call 118 [.t 6]),mV 5 7,oP 8 (.ext (.t 5) 0),oP 9 (.ext (.t 5) 1),mV 3 8,mV 4 9]
def r56_2:List COp:=[mV 11 4,oP 12 (.un .not (.t 11)),mV 13 12,gU 14 13 false (.mov (.t 3)),gU 15 13 false (.bin .gtr (.t 14) (kI 8)),oP 16 (.pick (.t 13) (.k (.bool true)) (.t 15)),mV 10 16]
def r56_3:List COp:=[oP 2 (.mov (kI 3))]
def r56_4:List COp:=[mV 18 0,oP 19 (.call 119 [.t 18]),oP 20 (.un .not (.t 19)),mV 17 20]
def r56_5:List COp:=[oP 2 (.mov (kI 4))]
def r56_6:List COp:=[mV 22 0,oP 23 (.call 120 [.t 22]),oP 24 (.un .not (.t 23)),mV 21 24]
def r56_7:List COp:=[oP 2 (.mov (kI 5))]
def r56_8:List COp:=[oP 2 (.mov (kI 0))]
def c56:CC:=(.seq (.reg r56_0 none) (.seq (.reg r56_1 none) (.seq (.block 0 (.seq (.reg r56_2 none) (.cond (.t 10) (.seq (.reg r56_3 none) .ret) (.seq (.reg r56_4 none) (.cond (.t 17) (.seq (.reg r56_5 none) .ret) (.seq (.reg r56_6 none) (.cond (.t 21) (.seq (.reg r56_7 none) .ret) .skip))))))) (.seq (.reg r56_8 none) .ret))))
theorem comp56:CmpC Tryz.prog G Tryz.f56=some c56:=by kernel_rfl
theorem res56:Tryz.f56.results.toList=[(.tmp 2)]:=by kernel_rfl
def r57_0:List COp:=[oP 2 (.mov (.k (.bool false)))]
def r57_1:List COp:=[mV 3 0,oP 4 (.call 98 [.t 3]),oP 5 (.call 87 [(kI 10000)]),oP 6 (.call 121 [.t 4,.t 5]),oP 7 (.bin .leq (.t 6) (kI 0)),mV 2 7]
def c57:CC:=(.seq (.reg r57_0 none) (.seq (.reg r57_1 none) .ret))
theorem comp57:CmpC Tryz.prog G Tryz.f57=some c57:=by kernel_rfl
theorem res57:Tryz.f57.results.toList=[(.tmp 2)]:=by kernel_rfl
def r58_0:List COp:=[oP 2 (.mov (.k (.vec [] 0 (some 0))))]
def r58_1:List COp:=[mV 7 0,oP 8 (.len false (.t 7)),oP 9 (.mksl 1 24 [(.vec [] 0 (some 0))] (.t 8) (.t 8)),mV 3 9]
def r58_2:List COp:=[mV 10 0,oP 11 (.len false (.t 10)),oP 12 (.mov (kI 0))]
def r58_3:List COp:=[oP 13 (.bin .lss (.t 12) (.t 11))]
def r58_4:List COp:=[mV 14 12,mV 4 14]
def r58_5:List COp:=[mV 15 0,mV 16 4,oP 17 (.idx 1 (.t 15) (.t 16)),oP 18 (.load false 1 (.t 17)),oP 19 (.len false (.t 18)),oP 20 (.mov (kI 0))]
def r58_6:List COp:=[oP 21 (.bin .lss (.t 20) (.t 19))]
def r58_7:List COp:=[oP 22 (.idx 2 (.t 18) (.t 20)),oP 23 (.load true 2 (.t 22)),oP 6 (.box (.k (.agg [(.bool false),(.vec [] 0 (some 0))]))),sT (.store 2 (.t 6) (.t 23))]
def r58_8:List COp:=[mV 24 3,mV 25 4,mV 26 3,mV 27 4,oP 28 (.idx 1 (.t 26) (.t 27)),oP 29 (.load false 1 (.t 28)),oP 30 (.load true 2 (.t 6)),oP 31 (.call 122 [.t 30]),oP 32 (.bsl 1 2 [(.bool false),(.vec [] 0 (some 0))] [(0,(2,(.t 31)))]),oP 33 (.append 2 32 (.t 29) (.t 32)),oP 34 (.idx 1 (.t 24) (.t 25)),sT (.store 1 (.t 34) (.t 33))]
def r58_9:List COp:=[oP 35 (.bin .add (.t 20) (kI 1)),mV 20 35]
def l58_1:CC:=(.seq (.reg r58_6 none) (.seq (.cond (.t 21) .skip (.exit 2)) (.seq (.block 3 (.seq (.reg r58_7 none) (.reg r58_8 (some [(5,6),(5,7),(5,8)])))) (.reg r58_9 none))))
def r58_10:List COp:=[oP 36 (.bin .add (.t 12) (kI 1)),mV 12 36]
def l58_0:CC:=(.seq (.reg r58_3 none) (.seq (.cond (.t 13) .skip (.exit 0)) (.seq (.block 1 (.seq (.reg r58_4 none) (.seq (.reg r58_5 none) (.block 2 (.loop l58_1))))) (.reg r58_10 none))))
def r58_11:List COp:=[mV 37 3,mV 2 37]
def c58:CC:=(.seq (.reg r58_0 none) (.seq (.reg r58_1 none) (.seq (.seq (.reg r58_2 none) (.block 0 (.loop l58_0))) (.seq (.reg r58_11 none) .ret))))
theorem comp58:CmpC Tryz.prog G Tryz.f58=some c58:=by kernel_rfl
theorem res58:Tryz.f58.results.toList=[(.tmp 2)]:=by kernel_rfl
def r59_0:List COp:=[oP 2 (.mov (.k (.vec [] 0 (some 0)))),oP 3 (.mov (.k (.bool false)))]
def r59_1:List COp:=[mV 6 0,oP 7 (.bin .lss (.t 6) (kI 1)),mV 8 7,gU 9 8 false (.mov (.t 0)),gU 10 8 false (.bin .gtr (.t 9) (kI 16)),oP 11 (.pick (.t 8) (.k (.bool true)) (.t 10))]
def r59_2:List COp:=[oP 2 (.mov (.k (.vec [] 0 (some 0)))),oP 3 (.mov (.k (.bool false)))]
def r59_3:List COp:=[mV 12 0,mV 13 0,oP 14 (.call 123 [.t 12,.t 13]),mV 4 14]
def r59_4:List COp:=[mV 15 4,oP 16 (.len false (.t 15)),oP 17 (.mov (kI 0))]
def r59_5:List COp:=[oP 18 (.bin .lss (.t 17) (.t 16))]
def r59_6:List COp:=[mV 19 17,mV 5 19]
def r59_7:List COp:=[mV 20 4,mV 21 5,oP 22 (.idx 1 (.t 20) (.t 21)),oP 23 (.load false 1 (.t 22)),mV 24 5,oP 25 (.call 87 [(kI 1)]),oP 26 (.idx 2 (.t 23) (.t 24)),sT (.store 2 (.t 26) (.t 25))]
def r59_8:List COp:=[oP 27 (.bin .add (.t 17) (kI 1)),mV 17 27]
def l59_0:CC:=(.seq (.reg r59_5 none) (.seq (.cond (.t 18) .skip (.exit 0)) (.seq (.block 1 (.seq (.reg r59_6 none) (.reg r59_7 (some [(3,5)])))) (.reg r59_8 none))))
def r59_9:List COp:=[mV 28 4,mV 2 28,oP 3 (.mov (.k (.bool true)))]
def c59:CC:=(.seq (.reg r59_0 none) (.seq (.seq (.reg r59_1 none) (.cond (.t 11) (.seq (.reg r59_2 none) .ret) .skip)) (.seq (.reg r59_3 none) (.seq (.seq (.reg r59_4 none) (.block 0 (.loop l59_0))) (.seq (.reg r59_9 none) .ret)))))
theorem comp59:CmpC Tryz.prog G Tryz.f59=some c59:=by kernel_rfl
theorem res59:Tryz.f59.results.toList=[(.tmp 2),(.tmp 3)]:=by kernel_rfl
def r60_0:List COp:=[oP 2 (.mov (.k (.vec [] 0 (some 0)))),oP 3 (.mov (.k (.bool false)))]
def r60_1:List COp:=[mV 11 0,oP 12 (.call 124 [.t 11]),mV 10 12,oP 13 (.ext (.t 10) 0),oP 14 (.ext (.t 10) 1),mV 4 13,mV 5 14]
def r60_2:List COp:=[mV 16 0,oP 17 (.len false (.t 16)),oP 18 (.call 59 [.t 17]),mV 15 18,oP 19 (.ext (.t 15) 0),oP 20 (.ext (.t 15) 1),mV 6 19,mV 7 20]
def r60_3:List COp:=[mV 21 0,oP 22 (.len false (.t 21)),oP 23 (.mov (kI 0))]
def r60_4:List COp:=[oP 24 (.bin .lss (.t 23) (.t 22))]
def r60_5:List COp:=[mV 25 23,mV 8 25]
def r60_6:List COp:=[mV 26 8,oP 27 (.bin .sub (.t 26) (kI 1)),mV 9 27]
def r60_7:List COp:=[mV 28 9,oP 29 (.bin .geq (.t 28) (kI 0))]
def r60_8:List COp:=[mV 32 0,mV 33 4,mV 34 8,mV 35 9,oP 36 (.call 125 [.t 32,.t 33,.t 34,.t 35]),oP 37 (.un .not (.t 36))]
def r60_9:List COp:=[mV 38 6,mV 39 9,oP 40 (.idx 1 (.t 38) (.t 39)),oP 41 (.load false 1 (.t 40)),mV 42 8,mV 43 0,mV 44 8,mV 45 9,oP 46 (.call 129 [.t 43,.t 44,.t 45]),mV 47 4,mV 48 9,oP 49 (.bin .add (.t 48) (kI 1)),oP 50 (.call 130 [.t 47,.t 49]),oP 51 (.call 128 [.t 46,.t 50]),oP 52 (.call 127 [.t 51]),oP 53 (.call 126 [.t 52]),oP 54 (.idx 2 (.t 41) (.t 42)),sT (.store 2 (.t 54) (.t 53))]
def r60_10:List COp:=[mV 55 6,mV 2 55,oP 3 (.mov (.k (.bool true)))]
def r60_11:List COp:=[mV 30 9,oP 31 (.bin .sub (.t 30) (kI 1)),mV 9 31]
def l60_1:CC:=(.seq (.seq (.reg r60_7 none) (.cond (.t 29) .skip (.exit 2))) (.seq (.block 3 (.seq (.reg r60_8 none) (.cond (.t 37) (.seq (.reg r60_9 (some [(3,8),(3,12),(3,13),(3,14),(3,15)])) (.seq (.reg r60_10 none) .ret)) .skip))) (.reg r60_11 none)))
def r60_12:List COp:=[mV 56 8,oP 57 (.bin .gtr (.t 56) (kI 0)),mV 58 57,gU 59 58 true (.mov (.t 0)),gU 60 58 true (.mov (.t 4)),gU 61 58 true (.mov (.t 8)),gU 62 58 true (.call 131 [.t 59,.t 60,.t 61]),gU 63 58 true (.un .not (.t 62)),oP 64 (.pick (.t 58) (.t 63) (.k (.bool false)))]
def r60_13:List COp:=[mV 65 6,mV 66 8,mV 67 6,mV 68 8,oP 69 (.bin .sub (.t 68) (kI 1)),mV 70 6,mV 71 8,oP 72 (.bin .sub (.t 71) (kI 1)),oP 73 (.idx 1 (.t 70) (.t 72)),oP 74 (.load false 1 (.t 73)),mV 75 6,mV 76 8,oP 77 (.idx 1 (.t 75) (.t 76)),oP 78 (.load false 1 (.t 77)),oP 79 (.idx 1 (.t 65) (.t 66)),sT (.store 1 (.t 79) (.t 74)),oP 80 (.idx 1 (.t 67) (.t 69)),sT (.store 1 (.t 80) (.t 78))]
def r60_14:List COp:=[mV 81 6,mV 2 81,oP 3 (.mov (.k (.bool true)))]
def r60_15:List COp:=[oP 82 (.bin .add (.t 23) (kI 1)),mV 23 82]
def l60_0:CC:=(.seq (.reg r60_4 none) (.seq (.cond (.t 24) .skip (.exit 0)) (.seq (.block 1 (.seq (.reg r60_5 none) (.seq (.seq (.reg r60_6 none) (.block 2 (.loop l60_1))) (.seq (.reg r60_12 none) (.cond (.t 64) (.seq (.reg r60_13 (some [(9,13)])) (.seq (.reg r60_14 none) .ret)) .skip))))) (.reg r60_15 none))))
def r60_16:List COp:=[oP 2 (.mov (.k (.vec [] 0 (some 0)))),oP 3 (.mov (.k (.bool false)))]
def c60:CC:=(.seq (.reg r60_0 none) (.seq (.reg r60_1 none) (.seq (.reg r60_2 none) (.seq (.seq (.reg r60_3 none) (.block 0 (.loop l60_0))) (.seq (.reg r60_16 none) .ret)))))
theorem comp60:CmpC Tryz.prog G Tryz.f60=some c60:=by kernel_rfl
theorem res60:Tryz.f60.results.toList=[(.tmp 2),(.tmp 3)]:=by kernel_rfl
def r61_0:List COp:=[oP 2 (.mov (.k (.vec [] 0 (some 0)))),oP 3 (.mov (.k (.bool false)))]
def r61_1:List COp:=[mV 13 0,oP 14 (.call 132 [.t 13]),mV 12 14,oP 15 (.ext (.t 12) 0),oP 16 (.ext (.t 12) 1),oP 17 (.ext (.t 12) 2),mV 4 15,mV 5 16,mV 6 17]
def r61_2:List COp:=[mV 18 6,oP 19 (.un .not (.t 18))]
def r61_3:List COp:=[oP 2 (.mov (.k (.vec [] 0 (some 0)))),oP 3 (.mov (.k (.bool false)))]
def r61_4:List COp:=[mV 20 4,oP 21 (.mksl 1 24 [(.vec [] 0 (some 0))] (.t 20) (.t 20)),mV 7 21]
def r61_5:List COp:=[mV 22 7,oP 23 (.len false (.t 22)),oP 24 (.mov (kI 0))]
def r61_6:List COp:=[oP 25 (.bin .lss (.t 24) (.t 23))]
def r61_7:List COp:=[mV 26 24,mV 8 26]
def r61_8:List COp:=[mV 27 7,mV 28 8,mV 29 5,oP 30 (.mksl 1 8 [(.int .i64 0)] (.t 29) (.t 29)),oP 31 (.idx 1 (.t 27) (.t 28)),sT (.store 1 (.t 31) (.t 30))]
def r61_9:List COp:=[mV 32 7,mV 33 8,oP 34 (.idx 1 (.t 32) (.t 33)),oP 35 (.load false 1 (.t 34)),oP 36 (.len false (.t 35)),oP 37 (.mov (kI 0))]
def r61_10:List COp:=[oP 38 (.bin .lss (.t 37) (.t 36))]
def r61_11:List COp:=[mV 39 37,mV 9 39]
def r61_12:List COp:=[mV 41 0,mV 42 8,oP 43 (.idx 1 (.t 41) (.t 42)),oP 44 (.load false 1 (.t 43)),mV 45 9,oP 46 (.idx 2 (.t 44) (.t 45)),oP 47 (.load true 2 (.t 46)),oP 48 (.call 97 [.t 47]),mV 40 48,oP 49 (.ext (.t 40) 0),oP 50 (.ext (.t 40) 1),mV 10 49,mV 11 50]
def r61_13:List COp:=[mV 51 11,oP 52 (.un .not (.t 51))]
def r61_14:List COp:=[oP 2 (.mov (.k (.vec [] 0 (some 0)))),oP 3 (.mov (.k (.bool false)))]
def r61_15:List COp:=[mV 53 7,mV 54 8,oP 55 (.idx 1 (.t 53) (.t 54)),oP 56 (.load false 1 (.t 55)),mV 57 9,mV 58 10,oP 59 (.idx 1 (.t 56) (.t 57)),sT (.store 1 (.t 59) (.t 58))]
def r61_16:List COp:=[oP 60 (.bin .add (.t 37) (kI 1)),mV 37 60]
def l61_1:CC:=(.seq (.reg r61_10 none) (.seq (.cond (.t 38) .skip (.exit 2)) (.seq (.block 3 (.seq (.reg r61_11 none) (.seq (.reg r61_12 none) (.seq (.seq (.reg r61_13 none) (.cond (.t 52) (.seq (.reg r61_14 none) .ret) .skip)) (.reg r61_15 none))))) (.reg r61_16 none))))
def r61_17:List COp:=[oP 61 (.bin .add (.t 24) (kI 1)),mV 24 61]
def l61_0:CC:=(.seq (.reg r61_6 none) (.seq (.cond (.t 25) .skip (.exit 0)) (.seq (.block 1 (.seq (.reg r61_7 none) (.seq (.reg r61_8 none) (.seq (.reg r61_9 none) (.block 2 (.loop l61_1)))))) (.reg r61_17 none))))
def r61_18:List COp:=[mV 62 7,mV 2 62,oP 3 (.mov (.k (.bool true)))]
def c61:CC:=(.seq (.reg r61_0 none) (.seq (.reg r61_1 none) (.seq (.seq (.reg r61_2 none) (.cond (.t 19) (.seq (.reg r61_3 none) .ret) .skip)) (.seq (.reg r61_4 none) (.seq (.seq (.reg r61_5 none) (.block 0 (.loop l61_0))) (.seq (.reg r61_18 none) .ret))))))
theorem comp61:CmpC Tryz.prog G Tryz.f61=some c61:=by kernel_rfl
theorem res61:Tryz.f61.results.toList=[(.tmp 2),(.tmp 3)]:=by kernel_rfl
def r62_0:List COp:=[oP 4 (.mov (.k (.vec [] 0 (some 0))))]
def r62_1:List COp:=[mV 8 1,oP 9 (.call 133 [.t 8]),mV 7 9,oP 10 (.ext (.t 7) 0),oP 11 (.ext (.t 7) 1),mV 5 10,mV 6 11]
def r62_2:List COp:=[mV 12 5,mV 13 0,oP 14 (.call 63 [.t 12,.t 13]),mV 15 1,oP 16 (.call 63 [.t 14,.t 15]),mV 4 16]
def c62:CC:=(.seq (.reg r62_0 none) (.seq (.reg r62_1 none) (.seq (.reg r62_2 none) .ret)))
theorem comp62:CmpC Tryz.prog G Tryz.f62=some c62:=by kernel_rfl
theorem res62:Tryz.f62.results.toList=[(.tmp 4)]:=by kernel_rfl
def r63_0:List COp:=[oP 4 (.mov (.k (.vec [] 0 (some 0))))]
def r63_1:List COp:=[mV 8 0,mV 9 1,oP 10 (.call 134 [.t 8,.t 9]),mV 7 10,oP 11 (.ext (.t 7) 0),oP 12 (.ext (.t 7) 1),mV 5 11,mV 6 12]
def r63_2:List COp:=[mV 13 5,mV 4 13]
def c63:CC:=(.seq (.reg r63_0 none) (.seq (.reg r63_1 none) (.seq (.reg r63_2 none) .ret)))
theorem comp63:CmpC Tryz.prog G Tryz.f63=some c63:=by kernel_rfl
theorem res63:Tryz.f63.results.toList=[(.tmp 4)]:=by kernel_rfl
def r64_0:List COp:=[oP 2 (.mov (.k (.vec [] 0 (some 0)))),oP 3 (.mov (.k (.bool false)))]
def r64_1:List COp:=[mV 9 0,oP 10 (.len false (.t 9)),oP 11 (.bin .lss (.t 10) (kI 1)),mV 12 11,gU 13 12 false (.mov (.t 0)),gU 14 12 false (.len false (.t 13)),gU 15 12 false (.bin .gtr (.t 14) (kI 16)),oP 16 (.pick (.t 12) (.k (.bool true)) (.t 15))]
def r64_2:List COp:=[oP 2 (.mov (.k (.vec [] 0 (some 0)))),oP 3 (.mov (.k (.bool false)))]
def r64_3:List COp:=[mV 17 0,oP 18 (.len false (.t 17)),oP 19 (.mov (kI 0))]
def r64_4:List COp:=[oP 20 (.bin .lss (.t 19) (.t 18))]
def r64_5:List COp:=[oP 21 (.idx 1 (.t 17) (.t 19)),oP 22 (.load false 1 (.t 21)),mV 5 22]
def r64_6:List COp:=[mV 23 5,oP 24 (.len false (.t 23)),oP 25 (.bin .lss (.t 24) (kI 1)),mV 26 25,gU 27 26 false (.mov (.t 5)),gU 28 26 false (.len false (.t 27)),gU 29 26 false (.bin .gtr (.t 28) (kI 16)),oP 30 (.pick (.t 26) (.k (.bool true)) (.t 29)),mV 31 30,gU 32 31 false (.mov (.t 5)),gU 33 31 false (.len false (.t 32)),gU 34 31 false (.mov (.t 0)),gU 35 31 false (.idx 1 (.t 34) (kI 0)),gU 36 31 false (.load false 1 (.t 35)),gU 37 31 false (.len false (.t 36)),gU 38 31 false (.bin .neq (.t 33) (.t 37)),oP 39 (.pick (.t 31) (.k (.bool true)) (.t 38))]
def r64_7:List COp:=[oP 2 (.mov (.k (.vec [] 0 (some 0)))),oP 3 (.mov (.k (.bool false)))]
def r64_8:List COp:=[oP 40 (.bin .add (.t 19) (kI 1)),mV 19 40]
def l64_0:CC:=(.seq (.reg r64_4 none) (.seq (.cond (.t 20) .skip (.exit 0)) (.seq (.block 1 (.seq (.reg r64_5 none) (.seq (.reg r64_6 none) (.cond (.t 39) (.seq (.reg r64_7 none) .ret) .skip)))) (.reg r64_8 none))))
def r64_9:List COp:=[mV 41 0,oP 42 (.len false (.t 41)),mV 43 0,oP 44 (.idx 1 (.t 43) (kI 0)),oP 45 (.load false 1 (.t 44)),oP 46 (.len false (.t 45)),oP 47 (.call 123 [.t 42,.t 46]),mV 6 47]
def r64_10:List COp:=[mV 48 0,oP 49 (.len false (.t 48)),oP 50 (.mov (kI 0))]
def r64_11:List COp:=[oP 51 (.bin .lss (.t 50) (.t 49))]
def r64_12:List COp:=[mV 52 50,mV 7 52]
def r64_13:List COp:=[mV 53 0,mV 54 7,oP 55 (.idx 1 (.t 53) (.t 54)),oP 56 (.load false 1 (.t 55)),oP 57 (.len false (.t 56)),oP 58 (.mov (kI 0))]
def r64_14:List COp:=[oP 59 (.bin .lss (.t 58) (.t 57))]
def r64_15:List COp:=[mV 60 58,mV 8 60]
def r64_16:List COp:=[mV 61 6,mV 62 7,oP 63 (.idx 1 (.t 61) (.t 62)),oP 64 (.load false 1 (.t 63)),mV 65 8,mV 66 0,mV 67 7,oP 68 (.idx 1 (.t 66) (.t 67)),oP 69 (.load false 1 (.t 68)),mV 70 8,oP 71 (.idx 1 (.t 69) (.t 70)),oP 72 (.load false 1 (.t 71)),oP 73 (.call 87 [.t 72]),oP 74 (.idx 2 (.t 64) (.t 65)),sT (.store 2 (.t 74) (.t 73))]
def r64_17:List COp:=[oP 75 (.bin .add (.t 58) (kI 1)),mV 58 75]
def l64_2:CC:=(.seq (.reg r64_14 none) (.seq (.cond (.t 59) .skip (.exit 4)) (.seq (.block 5 (.seq (.reg r64_15 none) (.reg r64_16 (some [(3,8),(3,11),(3,12)])))) (.reg r64_17 none))))
def r64_18:List COp:=[oP 76 (.bin .add (.t 50) (kI 1)),mV 50 76]
def l64_1:CC:=(.seq (.reg r64_11 none) (.seq (.cond (.t 51) .skip (.exit 2)) (.seq (.block 3 (.seq (.reg r64_12 none) (.seq (.reg r64_13 none) (.block 4 (.loop l64_2))))) (.reg r64_18 none))))
def r64_19:List COp:=[mV 77 6,mV 2 77,oP 3 (.mov (.k (.bool true)))]
def c64:CC:=(.seq (.reg r64_0 none) (.seq (.seq (.reg r64_1 none) (.cond (.t 16) (.seq (.reg r64_2 none) .ret) .skip)) (.seq (.seq (.reg r64_3 none) (.block 0 (.loop l64_0))) (.seq (.reg r64_9 none) (.seq (.seq (.reg r64_10 none) (.block 2 (.loop l64_1))) (.seq (.reg r64_19 none) .ret))))))
theorem comp64:CmpC Tryz.prog G Tryz.f64=some c64:=by kernel_rfl
theorem res64:Tryz.f64.results.toList=[(.tmp 2),(.tmp 3)]:=by kernel_rfl
def r65_0:List COp:=[oP 4 (.mov (.k (.vec [] 0 (some 0))))]
def r65_1:List COp:=[mV 8 0,mV 9 1,oP 10 (.call 68 [.t 8,.t 9,(kI 6)]),mV 5 10]
def r65_2:List COp:=[mV 11 5,oP 12 (.len false (.t 11)),oP 13 (.mov (kI 0))]
def r65_3:List COp:=[oP 14 (.bin .lss (.t 13) (.t 12))]
def r65_4:List COp:=[mV 15 13,mV 6 15]
def r65_5:List COp:=[oP 7 (.mov (kI 0))]
def r65_6:List COp:=[mV 16 7,mV 17 6,oP 18 (.bin .lss (.t 16) (.t 17))]
def r65_7:List COp:=[mV 21 5,mV 22 6,oP 23 (.idx 1 (.t 21) (.t 22)),oP 24 (.load false 1 (.t 23)),mV 25 7,mV 26 0,oP 27 (.call 135 [.t 26]),oP 28 (.bin .rem (.t 27) (kI 3)),oP 29 (.idx 1 (.t 24) (.t 25)),sT (.store 1 (.t 29) (.t 28))]
def r65_8:List COp:=[mV 30 5,mV 31 7,oP 32 (.idx 1 (.t 30) (.t 31)),oP 33 (.load false 1 (.t 32)),mV 34 6,mV 35 5,mV 36 6,oP 37 (.idx 1 (.t 35) (.t 36)),oP 38 (.load false 1 (.t 37)),mV 39 7,oP 40 (.idx 1 (.t 38) (.t 39)),oP 41 (.load false 1 (.t 40)),oP 42 (.idx 1 (.t 33) (.t 34)),sT (.store 1 (.t 42) (.t 41))]
def r65_9:List COp:=[mV 19 7,oP 20 (.bin .add (.t 19) (kI 1)),mV 7 20]
def l65_1:CC:=(.seq (.seq (.reg r65_6 none) (.cond (.t 18) .skip (.exit 2))) (.seq (.block 3 (.seq (.reg r65_7 (some [(3,6)])) (.reg r65_8 (some [(3,8),(3,11)])))) (.reg r65_9 none)))
def r65_10:List COp:=[oP 43 (.bin .add (.t 13) (kI 1)),mV 13 43]
def l65_0:CC:=(.seq (.reg r65_3 none) (.seq (.cond (.t 14) .skip (.exit 0)) (.seq (.block 1 (.seq (.reg r65_4 none) (.seq (.reg r65_5 none) (.block 2 (.loop l65_1))))) (.reg r65_10 none))))
def r65_11:List COp:=[mV 44 5,mV 4 44]
def c65:CC:=(.seq (.reg r65_0 none) (.seq (.reg r65_1 none) (.seq (.seq (.reg r65_2 none) (.block 0 (.loop l65_0))) (.seq (.reg r65_11 none) .ret))))
theorem comp65:CmpC Tryz.prog G Tryz.f65=some c65:=by kernel_rfl
theorem res65:Tryz.f65.results.toList=[(.tmp 4)]:=by kernel_rfl
def r66_0:List COp:=[oP 4 (.mov (.k (.vec [] 0 (some 0))))]
def r66_1:List COp:=[mV 8 0,oP 9 (.mksl 1 24 [(.vec [] 0 (some 0))] (.t 8) (.t 8)),mV 5 9]
def r66_2:List COp:=[mV 10 5,oP 11 (.len false (.t 10)),oP 12 (.mov (kI 0))]
def r66_3:List COp:=[oP 13 (.bin .lss (.t 12) (.t 11))]
def r66_4:List COp:=[mV 14 12,mV 6 14]
def r66_5:List COp:=[mV 15 5,mV 16 6,mV 17 0,oP 18 (.mksl 1 8 [(.int .i64 0)] (.t 17) (.t 17)),oP 19 (.idx 1 (.t 15) (.t 16)),sT (.store 1 (.t 19) (.t 18))]
def r66_6:List COp:=[mV 20 5,mV 21 6,oP 22 (.idx 1 (.t 20) (.t 21)),oP 23 (.load false 1 (.t 22)),mV 24 6,oP 25 (.idx 1 (.t 23) (.t 24)),sT (.store 1 (.t 25) (kI 2))]
def r66_7:List COp:=[mV 26 6,oP 27 (.bin .sub (.t 26) (kI 1)),mV 7 27]
def r66_8:List COp:=[mV 28 1,mV 29 28,gU 30 29 true (.mov (.t 6)),gU 31 29 true (.mov (.t 0)),gU 32 29 true (.bin .sub (.t 31) (kI 1)),gU 33 29 true (.bin .eql (.t 30) (.t 32)),oP 34 (.pick (.t 29) (.t 33) (.k (.bool false))),mV 35 34,gU 36 35 true (.mov (.t 0)),gU 37 35 true (.bin .gtr (.t 36) (kI 3)),oP 38 (.pick (.t 35) (.t 37) (.k (.bool false)))]
def r66_9:List COp:=[mV 39 6,oP 40 (.bin .sub (.t 39) (kI 2)),mV 7 40]
def r66_10:List COp:=[mV 41 7,oP 42 (.bin .geq (.t 41) (kI 0))]
def r66_11:List COp:=[mV 43 5,mV 44 6,oP 45 (.idx 1 (.t 43) (.t 44)),oP 46 (.load false 1 (.t 45)),mV 47 7,mV 48 5,mV 49 7,oP 50 (.idx 1 (.t 48) (.t 49)),oP 51 (.load false 1 (.t 50)),mV 52 6,oP 53 (.idx 1 (.t 46) (.t 47)),sT (.store 1 (.t 53) (.k (.int .i64 (-1)))),oP 54 (.idx 1 (.t 51) (.t 52)),sT (.store 1 (.t 54) (.k (.int .i64 (-1))))]
def r66_12:List COp:=[oP 55 (.bin .add (.t 12) (kI 1)),mV 12 55]
def l66_0:CC:=(.seq (.reg r66_3 none) (.seq (.cond (.t 13) .skip (.exit 0)) (.seq (.block 1 (.seq (.reg r66_4 none) (.seq (.reg r66_5 none) (.seq (.reg r66_6 none) (.seq (.reg r66_7 none) (.seq (.seq (.reg r66_8 none) (.cond (.t 38) (.reg r66_9 none) .skip)) (.seq (.reg r66_10 none) (.cond (.t 42) (.reg r66_11 (some [(3,8)])) .skip)))))))) (.reg r66_12 none))))
def r66_13:List COp:=[mV 56 5,mV 4 56]
def c66:CC:=(.seq (.reg r66_0 none) (.seq (.reg r66_1 none) (.seq (.seq (.reg r66_2 none) (.block 0 (.loop l66_0))) (.seq (.reg r66_13 none) .ret))))
theorem comp66:CmpC Tryz.prog G Tryz.f66=some c66:=by kernel_rfl
theorem res66:Tryz.f66.results.toList=[(.tmp 4)]:=by kernel_rfl
def r67_0:List COp:=[oP 4 (.mov (kI 0))]
def r67_1:List COp:=[mV 5 0,oP 6 (.call 135 [.t 5]),oP 7 (.conv .u8 (.t 6)),oP 8 (.conv .i64 (.t 7)),mV 9 1,oP 10 (.bin .rem (.t 8) (.t 9)),mV 4 10]
def c67:CC:=(.seq (.reg r67_0 none) (.seq (.reg r67_1 none) .ret))
theorem comp67:CmpC Tryz.prog G Tryz.f67=some c67:=by kernel_rfl
theorem res67:Tryz.f67.results.toList=[(.tmp 4)]:=by kernel_rfl
def r68_0:List COp:=[oP 6 (.mov (.k (.vec [] 0 (some 0))))]
def r68_1:List COp:=[mV 9 1,oP 10 (.mksl 1 24 [(.vec [] 0 (some 0))] (.t 9) (.t 9)),mV 7 10]
def r68_2:List COp:=[mV 11 7,oP 12 (.len false (.t 11)),oP 13 (.mov (kI 0))]
def r68_3:List COp:=[oP 14 (.bin .lss (.t 13) (.t 12))]
def r68_4:List COp:=[mV 15 13,mV 8 15]
def r68_5:List COp:=[mV 16 7,mV 17 8,mV 18 1,oP 19 (.mksl 1 8 [(.int .i64 0)] (.t 18) (.t 18)),oP 20 (.idx 1 (.t 16) (.t 17)),sT (.store 1 (.t 20) (.t 19))]
def r68_6:List COp:=[mV 21 7,mV 22 8,oP 23 (.idx 1 (.t 21) (.t 22)),oP 24 (.load false 1 (.t 23)),mV 25 8,mV 26 0,mV 27 2,oP 28 (.call 67 [.t 26,.t 27]),oP 29 (.bin .add (kI 1) (.t 28)),oP 30 (.idx 1 (.t 24) (.t 25)),sT (.store 1 (.t 30) (.t 29))]
def r68_7:List COp:=[oP 31 (.bin .add (.t 13) (kI 1)),mV 13 31]
def l68_0:CC:=(.seq (.reg r68_3 none) (.seq (.cond (.t 14) .skip (.exit 0)) (.seq (.block 1 (.seq (.reg r68_4 none) (.seq (.reg r68_5 none) (.reg r68_6 (some [(3,7)]))))) (.reg r68_7 none))))
def r68_8:List COp:=[mV 32 7,mV 6 32]
def c68:CC:=(.seq (.reg r68_0 none) (.seq (.reg r68_1 none) (.seq (.seq (.reg r68_2 none) (.block 0 (.loop l68_0))) (.seq (.reg r68_8 none) .ret))))
theorem comp68:CmpC Tryz.prog G Tryz.f68=some c68:=by kernel_rfl
theorem res68:Tryz.f68.results.toList=[(.tmp 6)]:=by kernel_rfl
def r69_0:List COp:=[oP 2 (.mov (.k (.bool false)))]
def r69_1:List COp:=[mV 4 0,oP 5 (.call 24 [.t 4]),mV 3 5]
def r69_2:List COp:=[mV 6 3,oP 7 (.call 56 [.t 6]),oP 8 (.bin .eql (.t 7) (kI 0)),mV 9 8,gU 10 9 true (.mov (.t 3)),gU 11 9 true (.call 98 [.t 10]),gU 12 9 true (.call 87 [(kI 10000)]),gU 13 9 true (.call 121 [.t 11,.t 12]),gU 14 9 true (.bin .leq (.t 13) (kI 0)),oP 15 (.pick (.t 9) (.t 14) (.k (.bool false))),mV 2 15]
def c69:CC:=(.seq (.reg r69_0 none) (.seq (.reg r69_1 none) (.seq (.reg r69_2 none) .ret)))
theorem comp69:CmpC Tryz.prog G Tryz.f69=some c69:=by kernel_rfl
theorem res69:Tryz.f69.results.toList=[(.tmp 2)]:=by kernel_rfl
def r70_0:List COp:=[oP 2 (.mov (.k (.bool false)))]
def r70_1:List COp:=[mV 11 0,oP 12 (.call 136 [.t 11]),oP 13 (.un .not (.t 12))]
def r70_2:List COp:=[oP 2 (.mov (.k (.bool false)))]
def r70_3:List COp:=[mV 14 0,mV 3 14]
def r70_4:List COp:=[oP 4 (.mov (kI 1))]
def r70_5:List COp:=[mV 15 3,oP 16 (.len false (.t 15)),oP 17 (.bin .gtr (.t 16) (kI 1))]
def r70_6:List COp:=[mV 18 3,oP 19 (.idx 1 (.t 18) (kI 0)),oP 20 (.load false 1 (.t 19)),oP 21 (.idx 1 (.t 20) (kI 0)),oP 22 (.load false 1 (.t 21)),mV 5 22]
def r70_7:List COp:=[mV 23 3,oP 24 (.call 137 [.t 23]),oP 25 (.un .not (.t 24))]
def r70_8:List COp:=[oP 2 (.mov (.k (.bool false)))]
def r70_9:List COp:=[mV 26 3,oP 27 (.len false (.t 26)),oP 28 (.bin .sub (.t 27) (kI 1)),oP 29 (.mksl 1 24 [(.vec [] 0 (some 0))] (.t 28) (.t 28)),mV 6 29]
def r70_10:List COp:=[mV 30 6,oP 31 (.len false (.t 30)),oP 32 (.mov (kI 0))]
def r70_11:List COp:=[oP 33 (.bin .lss (.t 32) (.t 31))]
def r70_12:List COp:=[mV 34 32,mV 7 34]
def r70_13:List COp:=[mV 35 3,mV 36 7,oP 37 (.bin .add (.t 36) (kI 1)),oP 38 (.idx 1 (.t 35) (.t 37)),oP 39 (.load false 1 (.t 38)),mV 8 39]
def r70_14:List COp:=[mV 40 6,mV 41 7,mV 42 6,oP 43 (.len false (.t 42)),oP 44 (.mksl 1 8 [(.int .i64 0)] (.t 43) (.t 43)),oP 45 (.idx 1 (.t 40) (.t 41)),sT (.store 1 (.t 45) (.t 44))]
def r70_15:List COp:=[mV 46 6,oP 47 (.len false (.t 46)),oP 48 (.mov (kI 0))]
def r70_16:List COp:=[oP 49 (.bin .lss (.t 48) (.t 47))]
def r70_17:List COp:=[mV 50 48,mV 9 50]
def r70_18:List COp:=[mV 51 6,mV 52 7,oP 53 (.idx 1 (.t 51) (.t 52)),oP 54 (.load false 1 (.t 53)),mV 55 9,mV 56 5,mV 57 8,mV 58 9,oP 59 (.bin .add (.t 58) (kI 1)),oP 60 (.idx 1 (.t 57) (.t 59)),oP 61 (.load false 1 (.t 60)),oP 62 (.bin .mul (.t 56) (.t 61)),mV 63 8,oP 64 (.idx 1 (.t 63) (kI 0)),oP 65 (.load false 1 (.t 64)),mV 66 3,oP 67 (.idx 1 (.t 66) (kI 0)),oP 68 (.load false 1 (.t 67)),mV 69 9,oP 70 (.bin .add (.t 69) (kI 1)),oP 71 (.idx 1 (.t 68) (.t 70)),oP 72 (.load false 1 (.t 71)),oP 73 (.bin .mul (.t 65) (.t 72)),oP 74 (.bin .sub (.t 62) (.t 73)),mV 75 4,oP 76 (.bin .quo (.t 74) (.t 75)),oP 77 (.idx 1 (.t 54) (.t 55)),sT (.store 1 (.t 77) (.t 76))]
def r70_19:List COp:=[oP 78 (.bin .add (.t 48) (kI 1)),mV 48 78]
def l70_2:CC:=(.seq (.reg r70_16 none) (.seq (.cond (.t 49) .skip (.exit 4)) (.seq (.block 5 (.seq (.reg r70_17 none) (.reg r70_18 (some [(3,10),(3,14),(10,14),(3,17),(10,17),(14,17),(3,21),(10,21),(14,21)])))) (.reg r70_19 none))))
def r70_20:List COp:=[oP 79 (.bin .add (.t 32) (kI 1)),mV 32 79]
def l70_1:CC:=(.seq (.reg r70_11 none) (.seq (.cond (.t 33) .skip (.exit 2)) (.seq (.block 3 (.seq (.reg r70_12 none) (.seq (.reg r70_13 none) (.seq (.reg r70_14 none) (.seq (.reg r70_15 none) (.block 4 (.loop l70_2))))))) (.reg r70_20 none))))
def r70_21:List COp:=[mV 80 3,oP 81 (.idx 1 (.t 80) (kI 1)),oP 82 (.load false 1 (.t 81)),oP 83 (.idx 1 (.t 82) (kI 0)),oP 84 (.load false 1 (.t 83)),mV 10 84]
def r70_22:List COp:=[mV 85 4,mV 86 6,oP 87 (.idx 1 (.t 86) (kI 0)),oP 88 (.load false 1 (.t 87)),oP 89 (.idx 1 (.t 88) (kI 0)),oP 90 (.load false 1 (.t 89)),oP 91 (.bin .mul (.t 85) (.t 90)),mV 92 10,mV 93 10,oP 94 (.bin .mul (.t 92) (.t 93)),oP 95 (.bin .add (.t 91) (.t 94)),oP 96 (.bin .mul (kI 4) (.t 95)),mV 97 5,oP 98 (.bin .mul (kI 3) (.t 97)),mV 99 5,oP 100 (.bin .mul (.t 98) (.t 99)),oP 101 (.bin .lss (.t 96) (.t 100))]
def r70_23:List COp:=[oP 2 (.mov (.k (.bool false)))]
def r70_24:List COp:=[mV 102 6,mV 103 5,mV 3 102,mV 4 103]
def l70_0:CC:=(.seq (.seq (.reg r70_5 none) (.cond (.t 17) .skip (.exit 0))) (.block 1 (.seq (.reg r70_6 none) (.seq (.seq (.reg r70_7 none) (.cond (.t 25) (.seq (.reg r70_8 none) .ret) .skip)) (.seq (.reg r70_9 none) (.seq (.seq (.reg r70_10 none) (.block 2 (.loop l70_1))) (.seq (.reg r70_21 none) (.seq (.seq (.reg r70_22 none) (.cond (.t 101) (.seq (.reg r70_23 none) .ret) .skip)) (.reg r70_24 none)))))))))
def r70_25:List COp:=[mV 104 3,oP 105 (.idx 1 (.t 104) (kI 0)),oP 106 (.load false 1 (.t 105)),oP 107 (.idx 1 (.t 106) (kI 0)),oP 108 (.load false 1 (.t 107)),oP 109 (.bin .gtr (.t 108) (kI 0)),mV 110 109,gU 111 110 true (.mov (.t 3)),gU 112 110 true (.idx 1 (.t 111) (kI 0)),gU 113 110 true (.load false 1 (.t 112)),gU 114 110 true (.idx 1 (.t 113) (kI 0)),gU 115 110 true (.load false 1 (.t 114)),gU 116 110 true (.bin .leq (.t 115) (kI 10000)),oP 117 (.pick (.t 110) (.t 116) (.k (.bool false))),mV 2 117]
def c70:CC:=(.seq (.reg r70_0 none) (.seq (.seq (.reg r70_1 none) (.cond (.t 13) (.seq (.reg r70_2 none) .ret) .skip)) (.seq (.reg r70_3 none) (.seq (.reg r70_4 none) (.seq (.block 0 (.loop l70_0)) (.seq (.reg r70_25 none) .ret))))))
theorem comp70:CmpC Tryz.prog G Tryz.f70=some c70:=by kernel_rfl
theorem res70:Tryz.f70.results.toList=[(.tmp 2)]:=by kernel_rfl
def r71_0:List COp:=[oP 2 (.mov (.k (.bool false)))]
def r71_1:List COp:=[mV 3 0,oP 4 (.bin .geq (.t 3) (kI 2)),mV 5 4,gU 6 5 true (.mov (.t 0)),gU 7 5 true (.bin .leq (.t 6) (kI 2147483647)),oP 8 (.pick (.t 5) (.t 7) (.k (.bool false))),mV 9 8,gU 10 9 true (.mov (.t 0)),gU 11 9 true (.call 138 [.t 10]),gU 12 9 true (.mov (.t 0)),gU 13 9 true (.bin .eql (.t 11) (.t 12)),oP 14 (.pick (.t 9) (.t 13) (.k (.bool false))),mV 2 14]
def c71:CC:=(.seq (.reg r71_0 none) (.seq (.reg r71_1 none) .ret))
theorem comp71:CmpC Tryz.prog G Tryz.f71=some c71:=by kernel_rfl
theorem res71:Tryz.f71.results.toList=[(.tmp 2)]:=by kernel_rfl
def r72_0:List COp:=[oP 4 (.mov (.k (.vec [] 0 (some 0)))),oP 5 (.mov (kI 0))]
def r72_1:List COp:=[mV 7 0,oP 8 (.call 139 [.t 7]),oP 9 (.un .not (.t 8))]
def r72_2:List COp:=[oP 4 (.mov (.k (.vec [] 0 (some 0)))),oP 5 (.mov (kI 3))]
def r72_3:List COp:=[mV 10 1,oP 11 (.call 140 [.t 10]),mV 6 11]
def r72_4:List COp:=[mV 12 6,oP 13 (.bin .neq (.t 12) (kI 0))]
def r72_5:List COp:=[mV 14 6,oP 4 (.mov (.k (.vec [] 0 (some 0)))),mV 5 14]
def r72_6:List COp:=[mV 15 0,mV 16 1,oP 17 (.call 141 [.t 15,.t 16]),mV 4 17,oP 5 (.mov (kI 0))]
def c72:CC:=(.seq (.reg r72_0 none) (.seq (.seq (.reg r72_1 none) (.cond (.t 9) (.seq (.reg r72_2 none) .ret) .skip)) (.seq (.seq (.reg r72_3 none) (.seq (.reg r72_4 none) (.cond (.t 13) (.seq (.reg r72_5 none) .ret) .skip))) (.seq (.reg r72_6 none) .ret))))
theorem comp72:CmpC Tryz.prog G Tryz.f72=some c72:=by kernel_rfl
theorem res72:Tryz.f72.results.toList=[(.tmp 4),(.tmp 5)]:=by kernel_rfl
def r73_0:List COp:=[oP 2 (.mov (.k (.bool false)))]
def r73_1:List COp:=[mV 8 0,oP 9 (.call 124 [.t 8]),mV 7 9,oP 10 (.ext (.t 7) 0),oP 11 (.ext (.t 7) 1),mV 3 10,mV 4 11]
def r73_2:List COp:=[mV 12 0,oP 13 (.len false (.t 12)),oP 14 (.mov (kI 0))]
def r73_3:List COp:=[oP 15 (.bin .lss (.t 14) (.t 13))]
def r73_4:List COp:=[mV 16 14,mV 5 16]
def r73_5:List COp:=[oP 6 (.mov (kI 0))]
def r73_6:List COp:=[mV 17 6,mV 18 5,oP 19 (.bin .lss (.t 17) (.t 18))]
def r73_7:List COp:=[mV 22 0,mV 23 3,mV 24 5,mV 25 6,oP 26 (.call 125 [.t 22,.t 23,.t 24,.t 25]),oP 27 (.un .not (.t 26))]
def r73_8:List COp:=[oP 2 (.mov (.k (.bool false)))]
def r73_9:List COp:=[mV 20 6,oP 21 (.bin .add (.t 20) (kI 1)),mV 6 21]
def l73_1:CC:=(.seq (.seq (.reg r73_6 none) (.cond (.t 19) .skip (.exit 2))) (.seq (.block 3 (.seq (.reg r73_7 none) (.cond (.t 27) (.seq (.reg r73_8 none) .ret) .skip))) (.reg r73_9 none)))
def r73_10:List COp:=[mV 28 5,oP 29 (.bin .gtr (.t 28) (kI 0)),mV 30 29,gU 31 30 true (.mov (.t 0)),gU 32 30 true (.mov (.t 3)),gU 33 30 true (.mov (.t 5)),gU 34 30 true (.call 131 [.t 31,.t 32,.t 33]),gU 35 30 true (.un .not (.t 34)),oP 36 (.pick (.t 30) (.t 35) (.k (.bool false)))]
def r73_11:List COp:=[oP 2 (.mov (.k (.bool false)))]
def r73_12:List COp:=[oP 37 (.bin .add (.t 14) (kI 1)),mV 14 37]
def l73_0:CC:=(.seq (.reg r73_3 none) (.seq (.cond (.t 15) .skip (.exit 0)) (.seq (.block 1 (.seq (.reg r73_4 none) (.seq (.seq (.reg r73_5 none) (.block 2 (.loop l73_1))) (.seq (.reg r73_10 none) (.cond (.t 36) (.seq (.reg r73_11 none) .ret) .skip))))) (.reg r73_12 none))))
def r73_13:List COp:=[oP 2 (.mov (.k (.bool true)))]
def c73:CC:=(.seq (.reg r73_0 none) (.seq (.reg r73_1 none) (.seq (.seq (.reg r73_2 none) (.block 0 (.loop l73_0))) (.seq (.reg r73_13 none) .ret))))
theorem comp73:CmpC Tryz.prog G Tryz.f73=some c73:=by kernel_rfl
theorem res73:Tryz.f73.results.toList=[(.tmp 2)]:=by kernel_rfl
def r86_0:List COp:=[oP 2 (.box (.t 0)),oP 3 (.box (.t 1)),oP 4 (.box (.k (.agg [(.bool false),(.vec [] 0 (some 0)),(.bool false),(.vec [] 0 (some 0))]))),oP 5 (.mov (.k (.bool false)))]
def r86_1:List COp:=[oP 7 (.load true 2 (.t 3)),oP 8 (.call 149 [.t 7]),oP 9 (.bin .eql (.t 8) (kI 0))]
def r86_2:List COp:=[oP 10 (.build [(.bool false),(.vec [] 0 (some 0)),(.bool false),(.vec [] 0 (some 0))] []),sT (.store 4 (.t 4) (.t 10)),oP 5 (.mov (.k (.bool false)))]
def r86_3:List COp:=[oP 11 (.load true 2 (.t 3)),oP 12 (.call 149 [.t 11]),oP 13 (.bin .lss (.t 12) (kI 0))]
def r86_4:List COp:=[oP 14 (.load true 2 (.t 2)),oP 15 (.call 126 [.t 14]),oP 16 (.load true 2 (.t 3)),oP 17 (.call 126 [.t 16]),sT (.store 2 (.t 2) (.t 15)),sT (.store 2 (.t 3) (.t 17))]
def r86_5:List COp:=[oP 18 (.load true 2 (.t 2)),oP 19 (.load true 2 (.t 3)),oP 20 (.call 150 [.t 18,.t 19]),oP 6 (.box (.k (.agg [(.bool false),(.vec [] 0 (some 0))]))),sT (.store 2 (.t 6) (.t 20))]
def r86_6:List COp:=[oP 21 (.load true 2 (.t 2)),oP 22 (.load true 2 (.t 6)),oP 23 (.call 151 [.t 21,.t 22]),oP 24 (.load true 2 (.t 3)),oP 25 (.load true 2 (.t 6)),oP 26 (.call 151 [.t 24,.t 25]),oP 27 (.build [(.bool false),(.vec [] 0 (some 0)),(.bool false),(.vec [] 0 (some 0))] [(0,(2,(.t 23))),(2,(2,(.t 26)))]),sT (.store 4 (.t 4) (.t 27)),oP 5 (.mov (.k (.bool true)))]
def c86:CC:=(.seq (.reg r86_0 none) (.seq (.seq (.reg r86_1 none) (.cond (.t 9) (.seq (.reg r86_2 none) .ret) .skip)) (.seq (.seq (.reg r86_3 none) (.cond (.t 13) (.reg r86_4 (some [(0,2),(1,2)])) .skip)) (.seq (.reg r86_5 none) (.seq (.reg r86_6 (some [(0,1),(0,3),(1,3),(2,3),(0,4),(1,4),(2,4),(3,4)])) .ret)))))
theorem comp86:CmpC Tryz.prog G Tryz.f86=some c86:=by kernel_rfl
theorem res86:Tryz.f86.results.toList=[(.cell 4 42),(.tmp 5)]:=by kernel_rfl
def r87_0:List COp:=[oP 2 (.box (.k (.agg [(.bool false),(.vec [] 0 (some 0))])))]
def r87_1:List COp:=[mV 3 0,oP 4 (.bin .lss (.t 3) (kI 0))]
def r87_2:List COp:=[mV 5 0,oP 6 (.conv .u64 (.t 5)),oP 7 (.un .neg (.t 6)),oP 8 (.call 152 [(.k (.bool true)),.t 7]),sT (.store 2 (.t 2) (.t 8))]
def r87_3:List COp:=[mV 9 0,oP 10 (.conv .u64 (.t 9)),oP 11 (.call 152 [(.k (.bool false)),.t 10]),sT (.store 2 (.t 2) (.t 11))]
def c87:CC:=(.seq (.reg r87_0 none) (.seq (.seq (.reg r87_1 none) (.cond (.t 4) (.seq (.reg r87_2 none) .ret) .skip)) (.seq (.reg r87_3 none) .ret)))
theorem comp87:CmpC Tryz.prog G Tryz.f87=some c87:=by kernel_rfl
theorem res87:Tryz.f87.results.toList=[(.cell 2 40)]:=by kernel_rfl
def r88_0:List COp:=[oP 4 (.mov (kI 0))]
def r88_1:List COp:=[mV 6 0,oP 7 (.len false (.t 6)),mV 8 1,oP 9 (.len false (.t 8)),oP 10 (.bin .neq (.t 7) (.t 9))]
def r88_2:List COp:=[mV 11 0,oP 12 (.len false (.t 11)),mV 13 1,oP 14 (.len false (.t 13)),oP 15 (.bin .lss (.t 12) (.t 14))]
def r88_3:List COp:=[oP 4 (.mov (.k (.int .i64 (-1))))]
def r88_4:List COp:=[oP 4 (.mov (kI 1))]
def r88_5:List COp:=[mV 16 0,oP 17 (.len false (.t 16)),oP 18 (.bin .sub (.t 17) (kI 1)),mV 5 18]
def r88_6:List COp:=[mV 19 5,oP 20 (.bin .geq (.t 19) (kI 0))]
def r88_7:List COp:=[mV 23 0,mV 24 5,oP 25 (.idx 1 (.t 23) (.t 24)),oP 26 (.load false 1 (.t 25)),mV 27 1,mV 28 5,oP 29 (.idx 1 (.t 27) (.t 28)),oP 30 (.load false 1 (.t 29)),oP 31 (.bin .neq (.t 26) (.t 30))]
def r88_8:List COp:=[mV 32 0,mV 33 5,oP 34 (.idx 1 (.t 32) (.t 33)),oP 35 (.load false 1 (.t 34)),mV 36 1,mV 37 5,oP 38 (.idx 1 (.t 36) (.t 37)),oP 39 (.load false 1 (.t 38)),oP 40 (.bin .lss (.t 35) (.t 39))]
def r88_9:List COp:=[oP 4 (.mov (.k (.int .i64 (-1))))]
def r88_10:List COp:=[oP 4 (.mov (kI 1))]
def r88_11:List COp:=[mV 21 5,oP 22 (.bin .sub (.t 21) (kI 1)),mV 5 22]
def l88_0:CC:=(.seq (.seq (.reg r88_6 none) (.cond (.t 20) .skip (.exit 0))) (.seq (.block 1 (.seq (.reg r88_7 (some [(3,7)])) (.cond (.t 31) (.seq (.seq (.reg r88_8 (some [(3,7)])) (.cond (.t 40) (.seq (.reg r88_9 none) .ret) .skip)) (.seq (.reg r88_10 none) .ret)) .skip))) (.reg r88_11 none)))
def r88_12:List COp:=[oP 4 (.mov (kI 0))]
def c88:CC:=(.seq (.reg r88_0 none) (.seq (.seq (.reg r88_1 none) (.cond (.t 10) (.seq (.seq (.reg r88_2 none) (.cond (.t 15) (.seq (.reg r88_3 none) .ret) .skip)) (.seq (.reg r88_4 none) .ret)) .skip)) (.seq (.seq (.reg r88_5 none) (.block 0 (.loop l88_0))) (.seq (.reg r88_12 none) .ret))))
theorem comp88:CmpC Tryz.prog G Tryz.f88=some c88:=by kernel_rfl
theorem res88:Tryz.f88.results.toList=[(.tmp 4)]:=by kernel_rfl
def r97_0:List COp:=[oP 1 (.box (.t 0)),oP 2 (.mov (kI 0)),oP 3 (.mov (.k (.bool false)))]
def r97_1:List COp:=[oP 6 (.fld 1 (.t 1)),oP 7 (.load false 1 (.t 6)),oP 8 (.call 161 [.t 7]),mV 4 8]
def r97_2:List COp:=[mV 9 4,oP 10 (.call 162 [.t 9]),mV 5 10]
def r97_3:List COp:=[mV 12 4,oP 13 (.len false (.t 12)),oP 14 (.bin .gtr (.t 13) (kI 2)),mV 11 14]
def r97_4:List COp:=[oP 2 (.mov (kI 0)),oP 3 (.mov (.k (.bool false)))]
def r97_5:List COp:=[oP 16 (.fld 0 (.t 1)),oP 17 (.load false 1 (.t 16)),mV 18 17,gU 19 18 true (.mov (.t 5)),gU 20 18 true (.bin .leq (.t 19) (.k (.int .u64 9223372036854775808))),oP 21 (.pick (.t 18) (.t 20) (.k (.bool false))),mV 15 21]
def r97_6:List COp:=[mV 22 5,oP 23 (.un .neg (.t 22)),oP 24 (.conv .i64 (.t 23)),mV 2 24,oP 3 (.mov (.k (.bool true)))]
def r97_7:List COp:=[oP 26 (.fld 0 (.t 1)),oP 27 (.load false 1 (.t 26)),oP 28 (.un .not (.t 27)),mV 29 28,gU 30 29 true (.mov (.t 5)),gU 31 29 true (.bin .lss (.t 30) (.k (.int .u64 9223372036854775808))),oP 32 (.pick (.t 29) (.t 31) (.k (.bool false))),mV 25 32]
def r97_8:List COp:=[mV 33 5,oP 34 (.conv .i64 (.t 33)),mV 2 34,oP 3 (.mov (.k (.bool true)))]
def r97_9:List COp:=[oP 2 (.mov (kI 0)),oP 3 (.mov (.k (.bool false)))]
def c97:CC:=(.seq (.reg r97_0 none) (.seq (.reg r97_1 none) (.seq (.reg r97_2 none) (.seq (.block 0 (.seq (.reg r97_3 none) (.cond (.t 11) (.seq (.reg r97_4 none) .ret) (.seq (.reg r97_5 none) (.cond (.t 15) (.seq (.reg r97_6 none) .ret) (.seq (.reg r97_7 none) (.cond (.t 25) (.seq (.reg r97_8 none) .ret) .skip))))))) (.seq (.reg r97_9 none) .ret)))))
theorem comp97:CmpC Tryz.prog G Tryz.f97=some c97:=by kernel_rfl
theorem res97:Tryz.f97.results.toList=[(.tmp 2),(.tmp 3)]:=by kernel_rfl
def r98_0:List COp:=[oP 2 (.box (.k (.agg [(.bool false),(.vec [] 0 (some 0))])))]
def r98_1:List COp:=[mV 11 0,oP 12 (.call 58 [.t 11]),mV 3 12]
def r98_2:List COp:=[mV 13 3,oP 14 (.len false (.t 13)),mV 4 14]
def r98_3:List COp:=[oP 15 (.call 87 [(kI 1)]),oP 5 (.box (.k (.agg [(.bool false),(.vec [] 0 (some 0))]))),sT (.store 2 (.t 5) (.t 15)),oP 6 (.mov (.k (.bool false)))]
def r98_4:List COp:=[oP 7 (.mov (kI 0))]
def r98_5:List COp:=[mV 16 7,mV 17 4,oP 18 (.bin .lss (.t 16) (.t 17))]
def r98_6:List COp:=[mV 21 7,mV 8 21]
def r98_7:List COp:=[mV 22 8,mV 23 4,oP 24 (.bin .lss (.t 22) (.t 23)),mV 25 24,gU 26 25 true (.mov (.t 3)),gU 27 25 true (.mov (.t 8)),gU 28 25 true (.idx 1 (.t 26) (.t 27)),gU 29 25 true (.load false 1 (.t 28)),gU 30 25 true (.mov (.t 7)),gU 31 25 true (.idx 2 (.t 29) (.t 30)),gU 32 25 true (.load true 2 (.t 31)),gU 33 25 true (.call 149 [.t 32]),gU 34 25 true (.bin .eql (.t 33) (kI 0)),oP 35 (.pick (.t 25) (.t 34) (.k (.bool false)))]
def r98_8:List COp:=[mV 36 8,oP 37 (.bin .add (.t 36) (kI 1)),mV 8 37]
def l98_1:CC:=(.seq (.seq (.reg r98_7 none) (.cond (.t 35) .skip (.exit 2))) (.block 3 (.reg r98_8 none)))
def r98_9:List COp:=[mV 38 8,mV 39 4,oP 40 (.bin .eql (.t 38) (.t 39))]
def r98_10:List COp:=[oP 41 (.build [(.bool false),(.vec [] 0 (some 0))] []),sT (.store 2 (.t 2) (.t 41))]
def r98_11:List COp:=[mV 42 8,mV 43 7,oP 44 (.bin .gtr (.t 42) (.t 43))]
def r98_12:List COp:=[mV 45 3,mV 46 8,mV 47 3,mV 48 7,mV 49 3,mV 50 7,oP 51 (.idx 1 (.t 49) (.t 50)),oP 52 (.load false 1 (.t 51)),mV 53 3,mV 54 8,oP 55 (.idx 1 (.t 53) (.t 54)),oP 56 (.load false 1 (.t 55)),oP 57 (.idx 1 (.t 45) (.t 46)),sT (.store 1 (.t 57) (.t 52)),oP 58 (.idx 1 (.t 47) (.t 48)),sT (.store 1 (.t 58) (.t 56))]
def r98_13:List COp:=[mV 59 6,oP 60 (.un .not (.t 59)),mV 6 60]
def r98_14:List COp:=[mV 61 7,oP 62 (.bin .add (.t 61) (kI 1)),mV 9 62]
def r98_15:List COp:=[mV 63 9,mV 64 4,oP 65 (.bin .lss (.t 63) (.t 64))]
def r98_16:List COp:=[mV 68 7,oP 69 (.bin .add (.t 68) (kI 1)),mV 10 69]
def r98_17:List COp:=[mV 70 10,mV 71 4,oP 72 (.bin .lss (.t 70) (.t 71))]
def r98_18:List COp:=[mV 75 3,mV 76 9,oP 77 (.idx 1 (.t 75) (.t 76)),oP 78 (.load false 1 (.t 77)),mV 79 10,mV 80 3,mV 81 7,oP 82 (.idx 1 (.t 80) (.t 81)),oP 83 (.load false 1 (.t 82)),mV 84 7,oP 85 (.idx 2 (.t 83) (.t 84)),oP 86 (.load true 2 (.t 85)),mV 87 3,mV 88 9,oP 89 (.idx 1 (.t 87) (.t 88)),oP 90 (.load false 1 (.t 89)),mV 91 10,oP 92 (.idx 2 (.t 90) (.t 91)),oP 93 (.load true 2 (.t 92)),oP 94 (.call 164 [.t 86,.t 93]),mV 95 3,mV 96 9,oP 97 (.idx 1 (.t 95) (.t 96)),oP 98 (.load false 1 (.t 97)),mV 99 7,oP 100 (.idx 2 (.t 98) (.t 99)),oP 101 (.load true 2 (.t 100)),mV 102 3,mV 103 7,oP 104 (.idx 1 (.t 102) (.t 103)),oP 105 (.load false 1 (.t 104)),mV 106 10,oP 107 (.idx 2 (.t 105) (.t 106)),oP 108 (.load true 2 (.t 107)),oP 109 (.call 164 [.t 101,.t 108]),oP 110 (.call 163 [.t 94,.t 109]),oP 111 (.load true 2 (.t 5)),oP 112 (.call 151 [.t 110,.t 111]),oP 113 (.idx 2 (.t 78) (.t 79)),sT (.store 2 (.t 113) (.t 112))]
def r98_19:List COp:=[mV 73 10,oP 74 (.bin .add (.t 73) (kI 1)),mV 10 74]
def l98_3:CC:=(.seq (.seq (.reg r98_17 none) (.cond (.t 72) .skip (.exit 6))) (.seq (.block 7 (.reg r98_18 (some [(3,8),(3,11),(3,15),(8,15),(11,15),(3,18),(8,18),(11,18),(3,19),(3,23),(8,23),(11,23),(15,23),(18,23),(19,23),(3,26),(8,26),(11,26),(15,26),(18,26),(19,26),(3,30),(8,30),(11,30),(15,30),(18,30),(19,30),(23,30),(26,30),(3,33),(8,33),(11,33),(15,33),(18,33),(19,33),(23,33),(26,33),(3,34),(3,35),(3,36),(8,36),(11,36),(15,36),(18,36),(19,36),(23,36),(26,36),(30,36),(33,36),(34,36),(35,36),(3,37)]))) (.reg r98_19 none)))
def r98_20:List COp:=[mV 66 9,oP 67 (.bin .add (.t 66) (kI 1)),mV 9 67]
def l98_2:CC:=(.seq (.seq (.reg r98_15 none) (.cond (.t 65) .skip (.exit 4))) (.seq (.block 5 (.seq (.reg r98_16 none) (.block 6 (.loop l98_3)))) (.reg r98_20 none)))
def r98_21:List COp:=[mV 114 3,mV 115 7,oP 116 (.idx 1 (.t 114) (.t 115)),oP 117 (.load false 1 (.t 116)),mV 118 7,oP 119 (.idx 2 (.t 117) (.t 118)),oP 120 (.load true 2 (.t 119)),sT (.store 2 (.t 5) (.t 120))]
def r98_22:List COp:=[mV 19 7,oP 20 (.bin .add (.t 19) (kI 1)),mV 7 20]
def l98_0:CC:=(.seq (.seq (.reg r98_5 none) (.cond (.t 18) .skip (.exit 0))) (.seq (.block 1 (.seq (.reg r98_6 none) (.seq (.block 2 (.loop l98_1)) (.seq (.seq (.reg r98_9 none) (.cond (.t 40) (.seq (.reg r98_10 none) .ret) .skip)) (.seq (.seq (.reg r98_11 none) (.cond (.t 44) (.seq (.reg r98_12 (some [(7,11)])) (.reg r98_13 none)) .skip)) (.seq (.seq (.reg r98_14 none) (.block 4 (.loop l98_2))) (.reg r98_21 none))))))) (.reg r98_22 none)))
def r98_23:List COp:=[mV 121 6]
def r98_24:List COp:=[oP 122 (.load true 2 (.t 5)),oP 123 (.call 126 [.t 122]),sT (.store 2 (.t 2) (.t 123))]
def r98_25:List COp:=[oP 124 (.load true 2 (.t 5)),sT (.store 2 (.t 2) (.t 124))]
def c98:CC:=(.seq (.reg r98_0 none) (.seq (.reg r98_1 none) (.seq (.reg r98_2 none) (.seq (.reg r98_3 none) (.seq (.seq (.reg r98_4 none) (.block 0 (.loop l98_0))) (.seq (.seq (.reg r98_23 none) (.cond (.t 121) (.seq (.reg r98_24 none) .ret) .skip)) (.seq (.reg r98_25 none) .ret)))))))
theorem comp98:CmpC Tryz.prog G Tryz.f98=some c98:=by kernel_rfl
theorem res98:Tryz.f98.results.toList=[(.cell 2 40)]:=by kernel_rfl
def r118_0:List COp:=[oP 2 (.mov (kI 0)),oP 3 (.mov (.k (.bool false)))]
def r118_1:List COp:=[mV 8 0,oP 9 (.call 132 [.t 8]),mV 7 9,oP 10 (.ext (.t 7) 0),oP 11 (.ext (.t 7) 1),oP 12 (.ext (.t 7) 2),mV 4 10,mV 5 11,mV 6 12]
def r118_2:List COp:=[mV 13 6,oP 14 (.un .not (.t 13)),mV 15 14,gU 16 15 false (.mov (.t 4)),gU 17 15 false (.mov (.t 5)),gU 18 15 false (.bin .neq (.t 16) (.t 17)),oP 19 (.pick (.t 15) (.k (.bool true)) (.t 18))]
def r118_3:List COp:=[oP 2 (.mov (kI 0)),oP 3 (.mov (.k (.bool false)))]
def r118_4:List COp:=[mV 20 4,mV 2 20,oP 3 (.mov (.k (.bool true)))]
def c118:CC:=(.seq (.reg r118_0 none) (.seq (.reg r118_1 none) (.seq (.seq (.reg r118_2 none) (.cond (.t 19) (.seq (.reg r118_3 none) .ret) .skip)) (.seq (.reg r118_4 none) .ret))))
theorem comp118:CmpC Tryz.prog G Tryz.f118=some c118:=by kernel_rfl
theorem res118:Tryz.f118.results.toList=[(.tmp 2),(.tmp 3)]:=by kernel_rfl
def r119_0:List COp:=[oP 2 (.mov (.k (.bool false)))]
def r119_1:List COp:=[mV 5 0,oP 6 (.len false (.t 5)),oP 7 (.mov (kI 0))]
def r119_2:List COp:=[oP 8 (.bin .lss (.t 7) (.t 6))]
def r119_3:List COp:=[mV 9 7,mV 3 9]
def r119_4:List COp:=[oP 4 (.mov (kI 0))]
def r119_5:List COp:=[mV 10 4,mV 11 3,oP 12 (.bin .lss (.t 10) (.t 11))]
def r119_6:List COp:=[mV 15 0,mV 16 3,oP 17 (.idx 1 (.t 15) (.t 16)),oP 18 (.load false 1 (.t 17)),mV 19 4,oP 20 (.idx 2 (.t 18) (.t 19)),oP 21 (.load true 2 (.t 20)),mV 22 0,mV 23 4,oP 24 (.idx 1 (.t 22) (.t 23)),oP 25 (.load false 1 (.t 24)),mV 26 3,oP 27 (.idx 2 (.t 25) (.t 26)),oP 28 (.load true 2 (.t 27)),oP 29 (.call 121 [.t 21,.t 28]),oP 30 (.bin .neq (.t 29) (kI 0))]
def r119_7:List COp:=[oP 2 (.mov (.k (.bool false)))]
def r119_8:List COp:=[mV 13 4,oP 14 (.bin .add (.t 13) (kI 1)),mV 4 14]
def l119_1:CC:=(.seq (.seq (.reg r119_5 none) (.cond (.t 12) .skip (.exit 2))) (.seq (.block 3 (.seq (.reg r119_6 (some [(3,10),(6,10),(3,13),(6,13)])) (.cond (.t 30) (.seq (.reg r119_7 none) .ret) .skip))) (.reg r119_8 none)))
def r119_9:List COp:=[oP 31 (.bin .add (.t 7) (kI 1)),mV 7 31]
def l119_0:CC:=(.seq (.reg r119_2 none) (.seq (.cond (.t 8) .skip (.exit 0)) (.seq (.block 1 (.seq (.reg r119_3 none) (.seq (.reg r119_4 none) (.block 2 (.loop l119_1))))) (.reg r119_9 none))))
def r119_10:List COp:=[oP 2 (.mov (.k (.bool true)))]
def c119:CC:=(.seq (.reg r119_0 none) (.seq (.seq (.reg r119_1 none) (.block 0 (.loop l119_0))) (.seq (.reg r119_10 none) .ret)))
theorem comp119:CmpC Tryz.prog G Tryz.f119=some c119:=by kernel_rfl
theorem res119:Tryz.f119.results.toList=[(.tmp 2)]:=by kernel_rfl
def r120_0:List COp:=[oP 2 (.mov (.k (.bool false)))]
def r120_1:List COp:=[mV 8 0,oP 9 (.call 124 [.t 8]),mV 7 9,oP 10 (.ext (.t 7) 0),oP 11 (.ext (.t 7) 1),mV 3 10,mV 4 11]
def r120_2:List COp:=[mV 12 4,oP 13 (.un .not (.t 12)),mV 14 13,gU 15 14 false (.mov (.t 0)),gU 16 14 false (.call 119 [.t 15]),gU 17 14 false (.un .not (.t 16)),oP 18 (.pick (.t 14) (.k (.bool true)) (.t 17))]
def r120_3:List COp:=[oP 2 (.mov (.k (.bool false)))]
def r120_4:List COp:=[mV 19 3,oP 20 (.len false (.t 19)),oP 21 (.mov (kI 0))]
def r120_5:List COp:=[oP 22 (.bin .lss (.t 21) (.t 20))]
def r120_6:List COp:=[oP 23 (.idx 2 (.t 19) (.t 21)),oP 24 (.load true 2 (.t 23)),oP 6 (.box (.k (.agg [(.bool false),(.vec [] 0 (some 0))]))),sT (.store 2 (.t 6) (.t 24))]
def r120_7:List COp:=[oP 25 (.load true 2 (.t 6)),oP 26 (.call 149 [.t 25]),oP 27 (.bin .leq (.t 26) (kI 0))]
def r120_8:List COp:=[oP 2 (.mov (.k (.bool false)))]
def r120_9:List COp:=[oP 28 (.bin .add (.t 21) (kI 1)),mV 21 28]
def l120_0:CC:=(.seq (.reg r120_5 none) (.seq (.cond (.t 22) .skip (.exit 0)) (.seq (.block 1 (.seq (.reg r120_6 none) (.seq (.reg r120_7 none) (.cond (.t 27) (.seq (.reg r120_8 none) .ret) .skip)))) (.reg r120_9 none))))
def r120_10:List COp:=[oP 2 (.mov (.k (.bool true)))]
def c120:CC:=(.seq (.reg r120_0 none) (.seq (.reg r120_1 none) (.seq (.seq (.reg r120_2 none) (.cond (.t 18) (.seq (.reg r120_3 none) .ret) .skip)) (.seq (.seq (.reg r120_4 none) (.block 0 (.loop l120_0))) (.seq (.reg r120_10 none) .ret)))))
theorem comp120:CmpC Tryz.prog G Tryz.f120=some c120:=by kernel_rfl
theorem res120:Tryz.f120.results.toList=[(.tmp 2)]:=by kernel_rfl
def r121_0:List COp:=[oP 2 (.box (.t 0)),oP 3 (.box (.t 1)),oP 4 (.mov (kI 0))]
def r121_1:List COp:=[oP 7 (.load true 2 (.t 2)),oP 8 (.call 149 [.t 7]),oP 9 (.load true 2 (.t 3)),oP 10 (.call 149 [.t 9]),mV 5 8,mV 6 10]
def r121_2:List COp:=[mV 11 5,mV 12 6,oP 13 (.bin .neq (.t 11) (.t 12))]
def r121_3:List COp:=[mV 14 5,mV 15 6,oP 16 (.bin .lss (.t 14) (.t 15))]
def r121_4:List COp:=[oP 4 (.mov (.k (.int .i64 (-1))))]
def r121_5:List COp:=[oP 4 (.mov (kI 1))]
def r121_6:List COp:=[mV 17 5,oP 18 (.fld 1 (.t 2)),oP 19 (.load false 1 (.t 18)),oP 20 (.call 161 [.t 19]),oP 21 (.fld 1 (.t 3)),oP 22 (.load false 1 (.t 21)),oP 23 (.call 161 [.t 22]),oP 24 (.call 88 [.t 20,.t 23]),oP 25 (.bin .mul (.t 17) (.t 24)),mV 4 25]
def c121:CC:=(.seq (.reg r121_0 none) (.seq (.reg r121_1 (some [(0,2),(1,2)])) (.seq (.seq (.reg r121_2 none) (.cond (.t 13) (.seq (.seq (.reg r121_3 none) (.cond (.t 16) (.seq (.reg r121_4 none) .ret) .skip)) (.seq (.reg r121_5 none) .ret)) .skip)) (.seq (.reg r121_6 (some [(2,5),(3,5)])) .ret))))
theorem comp121:CmpC Tryz.prog G Tryz.f121=some c121:=by kernel_rfl
theorem res121:Tryz.f121.results.toList=[(.tmp 4)]:=by kernel_rfl
def r122_0:List COp:=[oP 1 (.box (.t 0)),oP 2 (.box (.k (.agg [(.bool false),(.vec [] 0 (some 0))])))]
def r122_1:List COp:=[oP 3 (.fld 0 (.t 1)),oP 4 (.load false 1 (.t 3)),oP 5 (.fld 1 (.t 1)),oP 6 (.load false 1 (.t 5)),oP 7 (.call 184 [.t 4,.t 6]),sT (.store 2 (.t 2) (.t 7))]
def c122:CC:=(.seq (.reg r122_0 none) (.seq (.reg r122_1 none) .ret))
theorem comp122:CmpC Tryz.prog G Tryz.f122=some c122:=by kernel_rfl
theorem res122:Tryz.f122.results.toList=[(.cell 2 40)]:=by kernel_rfl
def r123_0:List COp:=[oP 4 (.mov (.k (.vec [] 0 (some 0))))]
def r123_1:List COp:=[mV 7 0,oP 8 (.mksl 1 24 [(.vec [] 0 (some 0))] (.t 7) (.t 7)),mV 5 8]
def r123_2:List COp:=[mV 9 5,oP 10 (.len false (.t 9)),oP 11 (.mov (kI 0))]
def r123_3:List COp:=[oP 12 (.bin .lss (.t 11) (.t 10))]
def r123_4:List COp:=[mV 13 11,mV 6 13]
def r123_5:List COp:=[mV 14 5,mV 15 6,mV 16 1,oP 17 (.mksl 2 32 [(.bool false),(.vec [] 0 (some 0))] (.t 16) (.t 16)),oP 18 (.idx 1 (.t 14) (.t 15)),sT (.store 1 (.t 18) (.t 17))]
def r123_6:List COp:=[oP 19 (.bin .add (.t 11) (kI 1)),mV 11 19]
def l123_0:CC:=(.seq (.reg r123_3 none) (.seq (.cond (.t 12) .skip (.exit 0)) (.seq (.block 1 (.seq (.reg r123_4 none) (.reg r123_5 none))) (.reg r123_6 none))))
def r123_7:List COp:=[mV 20 5,mV 4 20]
def c123:CC:=(.seq (.reg r123_0 none) (.seq (.reg r123_1 none) (.seq (.seq (.reg r123_2 none) (.block 0 (.loop l123_0))) (.seq (.reg r123_7 none) .ret))))
theorem comp123:CmpC Tryz.prog G Tryz.f123=some c123:=by kernel_rfl
theorem res123:Tryz.f123.results.toList=[(.tmp 4)]:=by kernel_rfl
def r124_0:List COp:=[oP 2 (.mov (.k (.vec [] 0 (some 0)))),oP 3 (.mov (.k (.bool false)))]
def r124_1:List COp:=[mV 9 0,oP 10 (.call 118 [.t 9]),mV 8 10,oP 11 (.ext (.t 8) 0),oP 12 (.ext (.t 8) 1),mV 4 11,mV 5 12]
def r124_2:List COp:=[mV 13 5,oP 14 (.un .not (.t 13))]
def r124_3:List COp:=[oP 2 (.mov (.k (.vec [] 0 (some 0)))),oP 3 (.mov (.k (.bool false)))]
def r124_4:List COp:=[oP 6 (.mov (.k (.vec [] 0 (some 0))))]
def r124_5:List COp:=[oP 7 (.mov (kI 0))]
def r124_6:List COp:=[mV 15 7,mV 16 4,oP 17 (.bin .lss (.t 15) (.t 16))]
def r124_7:List COp:=[mV 20 6,mV 21 0,mV 22 7,mV 23 7,oP 24 (.call 186 [.t 22,.t 23]),mV 25 7,mV 26 7,oP 27 (.call 186 [.t 25,.t 26]),oP 28 (.call 185 [.t 21,.t 24,.t 27]),oP 29 (.call 98 [.t 28]),oP 30 (.bsl 1 2 [(.bool false),(.vec [] 0 (some 0))] [(0,(2,(.t 29)))]),oP 31 (.append 2 32 (.t 20) (.t 30)),mV 6 31]
def r124_8:List COp:=[mV 18 7,oP 19 (.bin .add (.t 18) (kI 1)),mV 7 19]
def l124_0:CC:=(.seq (.seq (.reg r124_6 none) (.cond (.t 17) .skip (.exit 0))) (.seq (.block 1 (.reg r124_7 none)) (.reg r124_8 none)))
def r124_9:List COp:=[mV 32 6,mV 2 32,oP 3 (.mov (.k (.bool true)))]
def c124:CC:=(.seq (.reg r124_0 none) (.seq (.reg r124_1 none) (.seq (.seq (.reg r124_2 none) (.cond (.t 14) (.seq (.reg r124_3 none) .ret) .skip)) (.seq (.reg r124_4 none) (.seq (.seq (.reg r124_5 none) (.block 0 (.loop l124_0))) (.seq (.reg r124_9 none) .ret))))))
theorem comp124:CmpC Tryz.prog G Tryz.f124=some c124:=by kernel_rfl
theorem res124:Tryz.f124.results.toList=[(.tmp 2),(.tmp 3)]:=by kernel_rfl
def r125_0:List COp:=[oP 8 (.mov (.k (.bool false)))]
def r125_1:List COp:=[oP 9 (.call 87 [(kI 2)]),mV 10 0,mV 11 2,mV 12 3,oP 13 (.call 129 [.t 10,.t 11,.t 12]),oP 14 (.call 187 [.t 13]),oP 15 (.call 164 [.t 9,.t 14]),mV 16 1,mV 17 3,oP 18 (.bin .add (.t 17) (kI 1)),oP 19 (.call 130 [.t 16,.t 18]),oP 20 (.call 121 [.t 15,.t 19]),oP 21 (.bin .leq (.t 20) (kI 0)),mV 8 21]
def c125:CC:=(.seq (.reg r125_0 none) (.seq (.reg r125_1 none) .ret))
theorem comp125:CmpC Tryz.prog G Tryz.f125=some c125:=by kernel_rfl
theorem res125:Tryz.f125.results.toList=[(.tmp 8)]:=by kernel_rfl
def r126_0:List COp:=[oP 1 (.box (.t 0)),oP 2 (.box (.k (.agg [(.bool false),(.vec [] 0 (some 0))])))]
def r126_1:List COp:=[oP 3 (.fld 0 (.t 1)),oP 4 (.load false 1 (.t 3)),oP 5 (.un .not (.t 4)),oP 6 (.fld 1 (.t 1)),oP 7 (.load false 1 (.t 6)),oP 8 (.call 184 [.t 5,.t 7]),sT (.store 2 (.t 2) (.t 8))]
def c126:CC:=(.seq (.reg r126_0 none) (.seq (.reg r126_1 none) .ret))
theorem comp126:CmpC Tryz.prog G Tryz.f126=some c126:=by kernel_rfl
theorem res126:Tryz.f126.results.toList=[(.cell 2 40)]:=by kernel_rfl
def r127_0:List COp:=[oP 1 (.box (.t 0)),oP 2 (.box (.k (.agg [(.bool false),(.vec [] 0 (some 0))])))]
def r127_1:List COp:=[oP 3 (.load true 4 (.t 1)),oP 4 (.call 189 []),oP 5 (.call 165 [.t 3,.t 4]),oP 6 (.call 188 [.t 5]),sT (.store 2 (.t 2) (.t 6))]
def c127:CC:=(.seq (.reg r127_0 none) (.seq (.reg r127_1 (some [(0,1)])) .ret))
theorem comp127:CmpC Tryz.prog G Tryz.f127=some c127:=by kernel_rfl
theorem res127:Tryz.f127.results.toList=[(.cell 2 40)]:=by kernel_rfl
def r128_0:List COp:=[oP 2 (.box (.t 0)),oP 3 (.box (.t 1)),oP 4 (.box (.k (.agg [(.bool false),(.vec [] 0 (some 0)),(.bool false),(.vec [] 0 (some 0))])))]
def r128_1:List COp:=[oP 5 (.load true 2 (.t 2)),oP 6 (.load true 2 (.t 3)),oP 7 (.build [(.bool false),(.vec [] 0 (some 0)),(.bool false),(.vec [] 0 (some 0))] [(0,(2,(.t 5))),(2,(2,(.t 6)))]),oP 8 (.call 168 [.t 7]),sT (.store 4 (.t 4) (.t 8))]
def c128:CC:=(.seq (.reg r128_0 none) (.seq (.reg r128_1 none) .ret))
theorem comp128:CmpC Tryz.prog G Tryz.f128=some c128:=by kernel_rfl
theorem res128:Tryz.f128.results.toList=[(.cell 4 42)]:=by kernel_rfl
def r129_0:List COp:=[oP 6 (.box (.k (.agg [(.bool false),(.vec [] 0 (some 0))])))]
def r129_1:List COp:=[oP 7 (.mov (.k (.vec [] 0 (some 0)))),oP 8 (.mov (.k (.vec [] 0 (some 0))))]
def r129_2:List COp:=[oP 9 (.mov (kI 0))]
def r129_3:List COp:=[mV 10 9,mV 11 2,oP 12 (.bin .lss (.t 10) (.t 11))]
def r129_4:List COp:=[mV 15 7,mV 16 9,oP 17 (.bsl 1 1 [(.int .i64 0)] [(0,(1,(.t 16)))]),oP 18 (.append 1 8 (.t 15) (.t 17)),mV 7 18]
def r129_5:List COp:=[mV 19 8,mV 20 9,oP 21 (.bsl 1 1 [(.int .i64 0)] [(0,(1,(.t 20)))]),oP 22 (.append 1 8 (.t 19) (.t 21)),mV 8 22]
def r129_6:List COp:=[mV 13 9,oP 14 (.bin .add (.t 13) (kI 1)),mV 9 14]
def l129_0:CC:=(.seq (.seq (.reg r129_3 none) (.cond (.t 12) .skip (.exit 0))) (.seq (.block 1 (.seq (.reg r129_4 none) (.reg r129_5 none))) (.reg r129_6 none)))
def r129_7:List COp:=[mV 23 0,mV 24 7,mV 25 1,oP 26 (.bsl 1 1 [(.int .i64 0)] [(0,(1,(.t 25)))]),oP 27 (.append 1 8 (.t 24) (.t 26)),mV 28 8,mV 29 2,oP 30 (.bsl 1 1 [(.int .i64 0)] [(0,(1,(.t 29)))]),oP 31 (.append 1 8 (.t 28) (.t 30)),oP 32 (.call 185 [.t 23,.t 27,.t 31]),oP 33 (.call 98 [.t 32]),sT (.store 2 (.t 6) (.t 33))]
def c129:CC:=(.seq (.reg r129_0 none) (.seq (.reg r129_1 none) (.seq (.seq (.reg r129_2 none) (.block 0 (.loop l129_0))) (.seq (.reg r129_7 none) .ret))))
theorem comp129:CmpC Tryz.prog G Tryz.f129=some c129:=by kernel_rfl
theorem res129:Tryz.f129.results.toList=[(.cell 6 40)]:=by kernel_rfl
def r130_0:List COp:=[oP 4 (.box (.k (.agg [(.bool false),(.vec [] 0 (some 0))])))]
def r130_1:List COp:=[mV 5 1,oP 6 (.bin .eql (.t 5) (kI 0))]
def r130_2:List COp:=[oP 7 (.call 87 [(kI 1)]),sT (.store 2 (.t 4) (.t 7))]
def r130_3:List COp:=[mV 8 0,mV 9 1,oP 10 (.bin .sub (.t 9) (kI 1)),oP 11 (.idx 2 (.t 8) (.t 10)),oP 12 (.load true 2 (.t 11)),sT (.store 2 (.t 4) (.t 12))]
def c130:CC:=(.seq (.reg r130_0 none) (.seq (.seq (.reg r130_1 none) (.cond (.t 6) (.seq (.reg r130_2 none) .ret) .skip)) (.seq (.reg r130_3 none) .ret)))
theorem comp130:CmpC Tryz.prog G Tryz.f130=some c130:=by kernel_rfl
theorem res130:Tryz.f130.results.toList=[(.cell 4 40)]:=by kernel_rfl
def r131_0:List COp:=[oP 6 (.mov (.k (.bool false)))]
def r131_1:List COp:=[mV 9 0,mV 10 2,mV 11 2,oP 12 (.bin .sub (.t 11) (kI 1)),oP 13 (.call 129 [.t 9,.t 10,.t 12]),oP 7 (.box (.k (.agg [(.bool false),(.vec [] 0 (some 0))]))),sT (.store 2 (.t 7) (.t 13))]
def r131_2:List COp:=[oP 14 (.call 87 [(kI 4)]),mV 15 1,mV 16 2,oP 17 (.bin .sub (.t 16) (kI 1)),oP 18 (.call 130 [.t 15,.t 17]),mV 19 1,mV 20 2,oP 21 (.bin .add (.t 20) (kI 1)),oP 22 (.call 130 [.t 19,.t 21]),oP 23 (.call 164 [.t 18,.t 22]),oP 24 (.load true 2 (.t 7)),oP 25 (.load true 2 (.t 7)),oP 26 (.call 164 [.t 24,.t 25]),oP 27 (.call 190 [.t 23,.t 26]),oP 28 (.call 164 [.t 14,.t 27]),oP 8 (.box (.k (.agg [(.bool false),(.vec [] 0 (some 0))]))),sT (.store 2 (.t 8) (.t 28))]
def r131_3:List COp:=[oP 29 (.load true 2 (.t 8)),oP 30 (.call 87 [(kI 3)]),mV 31 1,mV 32 2,oP 33 (.call 130 [.t 31,.t 32]),mV 34 1,mV 35 2,oP 36 (.call 130 [.t 34,.t 35]),oP 37 (.call 164 [.t 33,.t 36]),oP 38 (.call 164 [.t 30,.t 37]),oP 39 (.call 121 [.t 29,.t 38]),oP 40 (.bin .geq (.t 39) (kI 0)),mV 6 40]
def c131:CC:=(.seq (.reg r131_0 none) (.seq (.reg r131_1 none) (.seq (.reg r131_2 (some [(0,10),(4,10),(8,10),(9,10),(0,11),(4,11),(8,11),(9,11),(10,11),(0,15),(4,15),(8,15),(9,15),(10,15),(11,15),(12,15),(13,15),(14,15)])) (.seq (.reg r131_3 (some [(0,1),(0,4),(0,7),(0,8),(0,9)])) .ret))))
theorem comp131:CmpC Tryz.prog G Tryz.f131=some c131:=by kernel_rfl
theorem res131:Tryz.f131.results.toList=[(.tmp 6)]:=by kernel_rfl
def r132_0:List COp:=[oP 2 (.mov (kI 0)),oP 3 (.mov (kI 0)),oP 4 (.mov (.k (.bool false)))]
def r132_1:List COp:=[mV 7 0,oP 8 (.len false (.t 7)),oP 9 (.bin .lss (.t 8) (kI 1)),mV 10 9,gU 11 10 false (.mov (.t 0)),gU 12 10 false (.len false (.t 11)),gU 13 10 false (.bin .gtr (.t 12) (kI 16)),oP 14 (.pick (.t 10) (.k (.bool true)) (.t 13))]
def r132_2:List COp:=[oP 2 (.mov (kI 0)),oP 3 (.mov (kI 0)),oP 4 (.mov (.k (.bool false)))]
def r132_3:List COp:=[mV 15 0,oP 16 (.len false (.t 15)),oP 17 (.mov (kI 0))]
def r132_4:List COp:=[oP 18 (.bin .lss (.t 17) (.t 16))]
def r132_5:List COp:=[oP 19 (.idx 1 (.t 15) (.t 17)),oP 20 (.load false 1 (.t 19)),mV 6 20]
def r132_6:List COp:=[mV 21 6,oP 22 (.len false (.t 21)),oP 23 (.bin .lss (.t 22) (kI 1)),mV 24 23,gU 25 24 false (.mov (.t 6)),gU 26 24 false (.len false (.t 25)),gU 27 24 false (.bin .gtr (.t 26) (kI 16)),oP 28 (.pick (.t 24) (.k (.bool true)) (.t 27)),mV 29 28,gU 30 29 false (.mov (.t 6)),gU 31 29 false (.len false (.t 30)),gU 32 29 false (.mov (.t 0)),gU 33 29 false (.idx 1 (.t 32) (kI 0)),gU 34 29 false (.load false 1 (.t 33)),gU 35 29 false (.len false (.t 34)),gU 36 29 false (.bin .neq (.t 31) (.t 35)),oP 37 (.pick (.t 29) (.k (.bool true)) (.t 36))]
def r132_7:List COp:=[oP 2 (.mov (kI 0)),oP 3 (.mov (kI 0)),oP 4 (.mov (.k (.bool false)))]
def r132_8:List COp:=[oP 38 (.bin .add (.t 17) (kI 1)),mV 17 38]
def l132_0:CC:=(.seq (.reg r132_4 none) (.seq (.cond (.t 18) .skip (.exit 0)) (.seq (.block 1 (.seq (.reg r132_5 none) (.seq (.reg r132_6 none) (.cond (.t 37) (.seq (.reg r132_7 none) .ret) .skip)))) (.reg r132_8 none))))
def r132_9:List COp:=[mV 39 0,oP 40 (.len false (.t 39)),mV 41 0,oP 42 (.idx 1 (.t 41) (kI 0)),oP 43 (.load false 1 (.t 42)),oP 44 (.len false (.t 43)),mV 2 40,mV 3 44,oP 4 (.mov (.k (.bool true)))]
def c132:CC:=(.seq (.reg r132_0 none) (.seq (.seq (.reg r132_1 none) (.cond (.t 14) (.seq (.reg r132_2 none) .ret) .skip)) (.seq (.seq (.reg r132_3 none) (.block 0 (.loop l132_0))) (.seq (.reg r132_9 (some [])) .ret))))
theorem comp132:CmpC Tryz.prog G Tryz.f132=some c132:=by kernel_rfl
theorem res132:Tryz.f132.results.toList=[(.tmp 2),(.tmp 3),(.tmp 4)]:=by kernel_rfl
def r133_0:List COp:=[oP 2 (.mov (.k (.vec [] 0 (some 0)))),oP 3 (.mov (.k (.bool false)))]
def r133_1:List COp:=[mV 11 0,oP 12 (.call 132 [.t 11]),mV 10 12,oP 13 (.ext (.t 10) 0),oP 14 (.ext (.t 10) 1),oP 15 (.ext (.t 10) 2),mV 4 13,mV 5 14,mV 6 15]
def r133_2:List COp:=[mV 16 6,oP 17 (.un .not (.t 16))]
def r133_3:List COp:=[oP 2 (.mov (.k (.vec [] 0 (some 0)))),oP 3 (.mov (.k (.bool false)))]
def r133_4:List COp:=[mV 18 5,mV 19 4,oP 20 (.call 123 [.t 18,.t 19]),mV 7 20]
def r133_5:List COp:=[mV 21 0,oP 22 (.len false (.t 21)),oP 23 (.mov (kI 0))]
def r133_6:List COp:=[oP 24 (.bin .lss (.t 23) (.t 22))]
def r133_7:List COp:=[mV 25 23,mV 8 25]
def r133_8:List COp:=[mV 26 0,mV 27 8,oP 28 (.idx 1 (.t 26) (.t 27)),oP 29 (.load false 1 (.t 28)),oP 30 (.len false (.t 29)),oP 31 (.mov (kI 0))]
def r133_9:List COp:=[oP 32 (.bin .lss (.t 31) (.t 30))]
def r133_10:List COp:=[mV 33 31,mV 9 33]
def r133_11:List COp:=[mV 34 7,mV 35 9,oP 36 (.idx 1 (.t 34) (.t 35)),oP 37 (.load false 1 (.t 36)),mV 38 8,mV 39 0,mV 40 8,oP 41 (.idx 1 (.t 39) (.t 40)),oP 42 (.load false 1 (.t 41)),mV 43 9,oP 44 (.idx 2 (.t 42) (.t 43)),oP 45 (.load true 2 (.t 44)),oP 46 (.call 122 [.t 45]),oP 47 (.idx 2 (.t 37) (.t 38)),sT (.store 2 (.t 47) (.t 46))]
def r133_12:List COp:=[oP 48 (.bin .add (.t 31) (kI 1)),mV 31 48]
def l133_1:CC:=(.seq (.reg r133_9 none) (.seq (.cond (.t 32) .skip (.exit 2)) (.seq (.block 3 (.seq (.reg r133_10 none) (.reg r133_11 (some [(3,8),(3,11),(3,12)])))) (.reg r133_12 none))))
def r133_13:List COp:=[oP 49 (.bin .add (.t 23) (kI 1)),mV 23 49]
def l133_0:CC:=(.seq (.reg r133_6 none) (.seq (.cond (.t 24) .skip (.exit 0)) (.seq (.block 1 (.seq (.reg r133_7 none) (.seq (.reg r133_8 none) (.block 2 (.loop l133_1))))) (.reg r133_13 none))))
def r133_14:List COp:=[mV 50 7,mV 2 50,oP 3 (.mov (.k (.bool true)))]
def c133:CC:=(.seq (.reg r133_0 none) (.seq (.reg r133_1 none) (.seq (.seq (.reg r133_2 none) (.cond (.t 17) (.seq (.reg r133_3 none) .ret) .skip)) (.seq (.reg r133_4 none) (.seq (.seq (.reg r133_5 none) (.block 0 (.loop l133_0))) (.seq (.reg r133_14 none) .ret))))))
theorem comp133:CmpC Tryz.prog G Tryz.f133=some c133:=by kernel_rfl
theorem res133:Tryz.f133.results.toList=[(.tmp 2),(.tmp 3)]:=by kernel_rfl
def r134_0:List COp:=[oP 4 (.mov (.k (.vec [] 0 (some 0)))),oP 5 (.mov (.k (.bool false)))]
def r134_1:List COp:=[mV 15 0,oP 16 (.call 132 [.t 15]),mV 14 16,oP 17 (.ext (.t 14) 0),oP 18 (.ext (.t 14) 1),oP 19 (.ext (.t 14) 2),mV 6 17,mV 7 18,mV 8 19]
def r134_2:List COp:=[mV 21 1,oP 22 (.call 133 [.t 21]),mV 20 22,oP 23 (.ext (.t 20) 0),oP 24 (.ext (.t 20) 1),mV 9 23,mV 10 24]
def r134_3:List COp:=[mV 25 8,oP 26 (.un .not (.t 25)),mV 27 26,gU 28 27 false (.mov (.t 10)),gU 29 27 false (.un .not (.t 28)),oP 30 (.pick (.t 27) (.k (.bool true)) (.t 29)),mV 31 30,gU 32 31 false (.mov (.t 1)),gU 33 31 false (.len false (.t 32)),gU 34 31 false (.mov (.t 7)),gU 35 31 false (.bin .neq (.t 33) (.t 34)),oP 36 (.pick (.t 31) (.k (.bool true)) (.t 35))]
def r134_4:List COp:=[oP 4 (.mov (.k (.vec [] 0 (some 0)))),oP 5 (.mov (.k (.bool false)))]
def r134_5:List COp:=[mV 37 0,oP 38 (.len false (.t 37)),mV 39 9,oP 40 (.len false (.t 39)),oP 41 (.call 123 [.t 38,.t 40]),mV 11 41]
def r134_6:List COp:=[mV 42 0,oP 43 (.len false (.t 42)),oP 44 (.mov (kI 0))]
def r134_7:List COp:=[oP 45 (.bin .lss (.t 44) (.t 43))]
def r134_8:List COp:=[mV 46 44,mV 12 46]
def r134_9:List COp:=[mV 47 9,oP 48 (.len false (.t 47)),oP 49 (.mov (kI 0))]
def r134_10:List COp:=[oP 50 (.bin .lss (.t 49) (.t 48))]
def r134_11:List COp:=[mV 51 49,mV 13 51]
def r134_12:List COp:=[mV 52 11,mV 53 12,oP 54 (.idx 1 (.t 52) (.t 53)),oP 55 (.load false 1 (.t 54)),mV 56 13,mV 57 0,mV 58 12,oP 59 (.idx 1 (.t 57) (.t 58)),oP 60 (.load false 1 (.t 59)),mV 61 9,mV 62 13,oP 63 (.idx 1 (.t 61) (.t 62)),oP 64 (.load false 1 (.t 63)),oP 65 (.call 191 [.t 60,.t 64]),oP 66 (.idx 2 (.t 55) (.t 56)),sT (.store 2 (.t 66) (.t 65))]
def r134_13:List COp:=[oP 67 (.bin .add (.t 49) (kI 1)),mV 49 67]
def l134_1:CC:=(.seq (.reg r134_10 none) (.seq (.cond (.t 50) .skip (.exit 2)) (.seq (.block 3 (.seq (.reg r134_11 none) (.reg r134_12 (some [(3,8),(3,12),(8,12),(3,13)])))) (.reg r134_13 none))))
def r134_14:List COp:=[oP 68 (.bin .add (.t 44) (kI 1)),mV 44 68]
def l134_0:CC:=(.seq (.reg r134_7 none) (.seq (.cond (.t 45) .skip (.exit 0)) (.seq (.block 1 (.seq (.reg r134_8 none) (.seq (.reg r134_9 none) (.block 2 (.loop l134_1))))) (.reg r134_14 none))))
def r134_15:List COp:=[mV 69 11,mV 4 69,oP 5 (.mov (.k (.bool true)))]
def c134:CC:=(.seq (.reg r134_0 none) (.seq (.reg r134_1 none) (.seq (.reg r134_2 none) (.seq (.seq (.reg r134_3 none) (.cond (.t 36) (.seq (.reg r134_4 none) .ret) .skip)) (.seq (.reg r134_5 none) (.seq (.seq (.reg r134_6 none) (.block 0 (.loop l134_0))) (.seq (.reg r134_15 none) .ret)))))))
theorem comp134:CmpC Tryz.prog G Tryz.f134=some c134:=by kernel_rfl
theorem res134:Tryz.f134.results.toList=[(.tmp 4),(.tmp 5)]:=by kernel_rfl
def r135_0:List COp:=[oP 2 (.mov (kI 0))]
def r135_1:List COp:=[mV 3 0,oP 4 (.nilck (.t 3)),oP 5 (.fld 1 (.t 4)),oP 6 (.load false 1 (.t 5)),mV 7 0,oP 8 (.nilck (.t 7)),oP 9 (.fld 0 (.t 8)),oP 10 (.load false 1 (.t 9)),oP 11 (.len false (.t 10)),oP 12 (.bin .geq (.t 6) (.t 11))]
def r135_2:List COp:=[oP 2 (.mov (kI 0))]
def r135_3:List COp:=[mV 13 0,oP 14 (.nilck (.t 13)),oP 15 (.fld 1 (.t 14)),oP 16 (.load false 1 (.t 15)),oP 17 (.bin .add (.t 16) (kI 1)),oP 18 (.nilck (.t 13)),oP 19 (.fld 1 (.t 18)),sT (.store 1 (.t 19) (.t 17))]
def r135_4:List COp:=[mV 20 0,oP 21 (.nilck (.t 20)),oP 22 (.fld 0 (.t 21)),oP 23 (.load false 1 (.t 22)),mV 24 0,oP 25 (.nilck (.t 24)),oP 26 (.fld 1 (.t 25)),oP 27 (.load false 1 (.t 26)),oP 28 (.bin .sub (.t 27) (kI 1)),oP 29 (.idx 1 (.t 23) (.t 28)),oP 30 (.load false 1 (.t 29)),oP 31 (.conv .i64 (.t 30)),mV 2 31]
def c135:CC:=(.seq (.reg r135_0 none) (.seq (.seq (.reg r135_1 (some [(3,7)])) (.cond (.t 12) (.seq (.reg r135_2 none) .ret) .skip)) (.seq (.reg r135_3 none) (.seq (.reg r135_4 (some [(3,7)])) .ret))))
theorem comp135:CmpC Tryz.prog G Tryz.f135=some c135:=by kernel_rfl
theorem res135:Tryz.f135.results.toList=[(.tmp 2)]:=by kernel_rfl
def r136_0:List COp:=[oP 2 (.mov (.k (.bool false)))]
def r136_1:List COp:=[mV 10 0,oP 11 (.len false (.t 10)),mV 3 11]
def r136_2:List COp:=[mV 12 3,oP 13 (.bin .lss (.t 12) (kI 1)),mV 14 13,gU 15 14 false (.mov (.t 3)),gU 16 14 false (.bin .gtr (.t 15) (kI 8)),oP 17 (.pick (.t 14) (.k (.bool true)) (.t 16))]
def r136_3:List COp:=[oP 2 (.mov (.k (.bool false)))]
def r136_4:List COp:=[mV 18 0,oP 19 (.len false (.t 18)),oP 20 (.mov (kI 0))]
def r136_5:List COp:=[oP 21 (.bin .lss (.t 20) (.t 19))]
def r136_6:List COp:=[oP 22 (.idx 1 (.t 18) (.t 20)),oP 23 (.load false 1 (.t 22)),mV 5 23]
def r136_7:List COp:=[mV 24 5,oP 25 (.len false (.t 24)),mV 26 3,oP 27 (.bin .neq (.t 25) (.t 26))]
def r136_8:List COp:=[oP 2 (.mov (.k (.bool false)))]
def r136_9:List COp:=[oP 28 (.bin .add (.t 20) (kI 1)),mV 20 28]
def l136_0:CC:=(.seq (.reg r136_5 none) (.seq (.cond (.t 21) .skip (.exit 0)) (.seq (.block 1 (.seq (.reg r136_6 none) (.seq (.reg r136_7 none) (.cond (.t 27) (.seq (.reg r136_8 none) .ret) .skip)))) (.reg r136_9 none))))
def r136_10:List COp:=[mV 29 0,oP 30 (.len false (.t 29)),oP 31 (.mov (kI 0))]
def r136_11:List COp:=[oP 32 (.bin .lss (.t 31) (.t 30))]
def r136_12:List COp:=[mV 33 31,oP 34 (.idx 1 (.t 29) (.t 31)),oP 35 (.load false 1 (.t 34)),mV 6 33,mV 7 35]
def r136_13:List COp:=[mV 36 7,oP 37 (.len false (.t 36)),oP 38 (.mov (kI 0))]
def r136_14:List COp:=[oP 39 (.bin .lss (.t 38) (.t 37))]
def r136_15:List COp:=[mV 40 38,oP 41 (.idx 1 (.t 36) (.t 38)),oP 42 (.load false 1 (.t 41)),mV 8 40,mV 9 42]
def r136_16:List COp:=[mV 43 9,mV 44 0,mV 45 8,oP 46 (.idx 1 (.t 44) (.t 45)),oP 47 (.load false 1 (.t 46)),mV 48 6,oP 49 (.idx 1 (.t 47) (.t 48)),oP 50 (.load false 1 (.t 49)),oP 51 (.bin .neq (.t 43) (.t 50)),mV 52 51,gU 53 52 false (.mov (.t 9)),gU 54 52 false (.bin .leq (.t 53) (.k (.int .i64 (-262144)))),oP 55 (.pick (.t 52) (.k (.bool true)) (.t 54)),mV 56 55,gU 57 56 false (.mov (.t 9)),gU 58 56 false (.bin .geq (.t 57) (kI 262144)),oP 59 (.pick (.t 56) (.k (.bool true)) (.t 58))]
def r136_17:List COp:=[oP 2 (.mov (.k (.bool false)))]
def r136_18:List COp:=[oP 60 (.bin .add (.t 38) (kI 1)),mV 38 60]
def l136_2:CC:=(.seq (.reg r136_14 none) (.seq (.cond (.t 39) .skip (.exit 4)) (.seq (.block 5 (.seq (.reg r136_15 none) (.seq (.reg r136_16 none) (.cond (.t 59) (.seq (.reg r136_17 none) .ret) .skip)))) (.reg r136_18 none))))
def r136_19:List COp:=[oP 61 (.bin .add (.t 31) (kI 1)),mV 31 61]
def l136_1:CC:=(.seq (.reg r136_11 none) (.seq (.cond (.t 32) .skip (.exit 2)) (.seq (.block 3 (.seq (.reg r136_12 none) (.seq (.reg r136_13 none) (.block 4 (.loop l136_2))))) (.reg r136_19 none))))
def r136_20:List COp:=[oP 2 (.mov (.k (.bool true)))]
def c136:CC:=(.seq (.reg r136_0 none) (.seq (.reg r136_1 none) (.seq (.seq (.reg r136_2 none) (.cond (.t 17) (.seq (.reg r136_3 none) .ret) .skip)) (.seq (.seq (.reg r136_4 none) (.block 0 (.loop l136_0))) (.seq (.seq (.reg r136_10 none) (.block 2 (.loop l136_1))) (.seq (.reg r136_20 none) .ret))))))
theorem comp136:CmpC Tryz.prog G Tryz.f136=some c136:=by kernel_rfl
theorem res136:Tryz.f136.results.toList=[(.tmp 2)]:=by kernel_rfl
def r137_0:List COp:=[oP 2 (.mov (.k (.bool false)))]
def r137_1:List COp:=[mV 6 0,oP 7 (.idx 1 (.t 6) (kI 0)),oP 8 (.load false 1 (.t 7)),oP 9 (.idx 1 (.t 8) (kI 0)),oP 10 (.load false 1 (.t 9)),mV 3 10]
def r137_2:List COp:=[mV 11 3,oP 12 (.bin .leq (.t 11) (kI 0)),mV 13 12,gU 14 13 false (.mov (.t 3)),gU 15 13 false (.bin .geq (.t 14) (kI 65536)),oP 16 (.pick (.t 13) (.k (.bool true)) (.t 15))]
def r137_3:List COp:=[oP 2 (.mov (.k (.bool false)))]
def r137_4:List COp:=[mV 17 0,oP 18 (.slice 1 (.t 17) (some (kI 1)) none none),oP 19 (.len false (.t 18)),oP 20 (.mov (kI 0))]
def r137_5:List COp:=[oP 21 (.bin .lss (.t 20) (.t 19))]
def r137_6:List COp:=[oP 22 (.idx 1 (.t 18) (.t 20)),oP 23 (.load false 1 (.t 22)),mV 5 23]
def r137_7:List COp:=[mV 24 5,oP 25 (.idx 1 (.t 24) (kI 0)),oP 26 (.load false 1 (.t 25)),oP 27 (.bin .mul (kI 2) (.t 26)),mV 28 3,oP 29 (.bin .gtr (.t 27) (.t 28)),mV 30 29,gU 31 30 false (.mov (.t 5)),gU 32 30 false (.idx 1 (.t 31) (kI 0)),gU 33 30 false (.load false 1 (.t 32)),gU 34 30 false (.bin .mul (.k (.int .i64 (-2))) (.t 33)),gU 35 30 false (.mov (.t 3)),gU 36 30 false (.bin .gtr (.t 34) (.t 35)),oP 37 (.pick (.t 30) (.k (.bool true)) (.t 36))]
def r137_8:List COp:=[oP 2 (.mov (.k (.bool false)))]
def r137_9:List COp:=[oP 38 (.bin .add (.t 20) (kI 1)),mV 20 38]
def l137_0:CC:=(.seq (.reg r137_5 none) (.seq (.cond (.t 21) .skip (.exit 0)) (.seq (.block 1 (.seq (.reg r137_6 none) (.seq (.reg r137_7 none) (.cond (.t 37) (.seq (.reg r137_8 none) .ret) .skip)))) (.reg r137_9 none))))
def r137_10:List COp:=[oP 2 (.mov (.k (.bool true)))]
def c137:CC:=(.seq (.reg r137_0 none) (.seq (.reg r137_1 none) (.seq (.seq (.reg r137_2 none) (.cond (.t 16) (.seq (.reg r137_3 none) .ret) .skip)) (.seq (.seq (.reg r137_4 none) (.block 0 (.loop l137_0))) (.seq (.reg r137_10 none) .ret)))))
theorem comp137:CmpC Tryz.prog G Tryz.f137=some c137:=by kernel_rfl
theorem res137:Tryz.f137.results.toList=[(.tmp 2)]:=by kernel_rfl
def r139_0:List COp:=[oP 2 (.mov (.k (.bool false)))]
def r139_1:List COp:=[mV 5 0,oP 6 (.len false (.t 5)),oP 7 (.bin .lss (.t 6) (kI 1)),mV 8 7,gU 9 8 false (.mov (.t 0)),gU 10 8 false (.len false (.t 9)),gU 11 8 false (.bin .gtr (.t 10) (kI 16)),oP 12 (.pick (.t 8) (.k (.bool true)) (.t 11)),mV 13 12,gU 14 13 false (.mov (.t 0)),gU 15 13 false (.idx 1 (.t 14) (kI 0)),gU 16 13 false (.load false 1 (.t 15)),gU 17 13 false (.len false (.t 16)),gU 18 13 false (.bin .lss (.t 17) (kI 1)),oP 19 (.pick (.t 13) (.k (.bool true)) (.t 18)),mV 20 19,gU 21 20 false (.mov (.t 0)),gU 22 20 false (.idx 1 (.t 21) (kI 0)),gU 23 20 false (.load false 1 (.t 22)),gU 24 20 false (.len false (.t 23)),gU 25 20 false (.bin .gtr (.t 24) (kI 16)),oP 26 (.pick (.t 20) (.k (.bool true)) (.t 25))]
def r139_2:List COp:=[oP 2 (.mov (.k (.bool false)))]
def r139_3:List COp:=[mV 27 0,oP 28 (.len false (.t 27)),oP 29 (.mov (kI 0))]
def r139_4:List COp:=[oP 30 (.bin .lss (.t 29) (.t 28))]
def r139_5:List COp:=[oP 31 (.idx 1 (.t 27) (.t 29)),oP 32 (.load false 1 (.t 31)),mV 4 32]
def r139_6:List COp:=[mV 33 4,oP 34 (.len false (.t 33)),mV 35 0,oP 36 (.idx 1 (.t 35) (kI 0)),oP 37 (.load false 1 (.t 36)),oP 38 (.len false (.t 37)),oP 39 (.bin .neq (.t 34) (.t 38))]
def r139_7:List COp:=[oP 2 (.mov (.k (.bool false)))]
def r139_8:List COp:=[oP 40 (.bin .add (.t 29) (kI 1)),mV 29 40]
def l139_0:CC:=(.seq (.reg r139_4 none) (.seq (.cond (.t 30) .skip (.exit 0)) (.seq (.block 1 (.seq (.reg r139_5 none) (.seq (.reg r139_6 none) (.cond (.t 39) (.seq (.reg r139_7 none) .ret) .skip)))) (.reg r139_8 none))))
def r139_9:List COp:=[oP 2 (.mov (.k (.bool true)))]
def c139:CC:=(.seq (.reg r139_0 none) (.seq (.seq (.reg r139_1 none) (.cond (.t 26) (.seq (.reg r139_2 none) .ret) .skip)) (.seq (.seq (.reg r139_3 none) (.block 0 (.loop l139_0))) (.seq (.reg r139_9 none) .ret))))
theorem comp139:CmpC Tryz.prog G Tryz.f139=some c139:=by kernel_rfl
theorem res139:Tryz.f139.results.toList=[(.tmp 2)]:=by kernel_rfl
def r140_0:List COp:=[oP 2 (.mov (kI 0))]
def r140_1:List COp:=[mV 3 0,oP 4 (.bin .lss (.t 3) (kI 2)),mV 5 4,gU 6 5 false (.mov (.t 0)),gU 7 5 false (.bin .gtr (.t 6) (kI 2147483647)),oP 8 (.pick (.t 5) (.k (.bool true)) (.t 7))]
def r140_2:List COp:=[oP 2 (.mov (kI 1))]
def r140_3:List COp:=[oP 2 (.mov (kI 0))]
def c140:CC:=(.seq (.reg r140_0 none) (.seq (.seq (.reg r140_1 none) (.cond (.t 8) (.seq (.reg r140_2 none) .ret) .skip)) (.seq (.reg r140_3 none) .ret)))
theorem comp140:CmpC Tryz.prog G Tryz.f140=some c140:=by kernel_rfl
theorem res140:Tryz.f140.results.toList=[(.tmp 2)]:=by kernel_rfl
def r141_0:List COp:=[oP 4 (.mov (.k (.vec [] 0 (some 0))))]
def r141_1:List COp:=[mV 10 0,oP 11 (.len false (.t 10)),oP 12 (.mksl 1 24 [(.vec [] 0 (some 0))] (.t 11) (.t 11)),mV 5 12]
def r141_2:List COp:=[mV 13 0,oP 14 (.len false (.t 13)),oP 15 (.mov (kI 0))]
def r141_3:List COp:=[oP 16 (.bin .lss (.t 15) (.t 14))]
def r141_4:List COp:=[mV 17 15,oP 18 (.idx 1 (.t 13) (.t 15)),oP 19 (.load false 1 (.t 18)),mV 6 17,mV 7 19]
def r141_5:List COp:=[mV 20 5,mV 21 6,mV 22 7,oP 23 (.len false (.t 22)),oP 24 (.mksl 1 8 [(.int .i64 0)] (.t 23) (.t 23)),oP 25 (.idx 1 (.t 20) (.t 21)),sT (.store 1 (.t 25) (.t 24))]
def r141_6:List COp:=[mV 26 7,oP 27 (.len false (.t 26)),oP 28 (.mov (kI 0))]
def r141_7:List COp:=[oP 29 (.bin .lss (.t 28) (.t 27))]
def r141_8:List COp:=[mV 30 28,oP 31 (.idx 1 (.t 26) (.t 28)),oP 32 (.load false 1 (.t 31)),mV 8 30,mV 9 32]
def r141_9:List COp:=[mV 33 5,mV 34 6,oP 35 (.idx 1 (.t 33) (.t 34)),oP 36 (.load false 1 (.t 35)),mV 37 8,mV 38 9,mV 39 1,oP 40 (.bin .rem (.t 38) (.t 39)),mV 41 1,oP 42 (.bin .add (.t 40) (.t 41)),mV 43 1,oP 44 (.bin .rem (.t 42) (.t 43)),oP 45 (.idx 1 (.t 36) (.t 37)),sT (.store 1 (.t 45) (.t 44))]
def r141_10:List COp:=[oP 46 (.bin .add (.t 28) (kI 1)),mV 28 46]
def l141_1:CC:=(.seq (.reg r141_7 none) (.seq (.cond (.t 29) .skip (.exit 2)) (.seq (.block 3 (.seq (.reg r141_8 none) (.reg r141_9 (some [])))) (.reg r141_10 none))))
def r141_11:List COp:=[oP 47 (.bin .add (.t 15) (kI 1)),mV 15 47]
def l141_0:CC:=(.seq (.reg r141_3 none) (.seq (.cond (.t 16) .skip (.exit 0)) (.seq (.block 1 (.seq (.reg r141_4 none) (.seq (.reg r141_5 none) (.seq (.reg r141_6 none) (.block 2 (.loop l141_1)))))) (.reg r141_11 none))))
def r141_12:List COp:=[mV 48 5,mV 4 48]
def c141:CC:=(.seq (.reg r141_0 none) (.seq (.reg r141_1 none) (.seq (.seq (.reg r141_2 none) (.block 0 (.loop l141_0))) (.seq (.reg r141_12 none) .ret))))
theorem comp141:CmpC Tryz.prog G Tryz.f141=some c141:=by kernel_rfl
theorem res141:Tryz.f141.results.toList=[(.tmp 4)]:=by kernel_rfl
def r149_0:List COp:=[oP 1 (.box (.t 0)),oP 2 (.mov (kI 0))]
def r149_1:List COp:=[oP 4 (.fld 1 (.t 1)),oP 5 (.load false 1 (.t 4)),oP 6 (.call 161 [.t 5]),oP 7 (.len false (.t 6)),oP 8 (.bin .eql (.t 7) (kI 0)),mV 3 8]
def r149_2:List COp:=[oP 2 (.mov (kI 0))]
def r149_3:List COp:=[oP 10 (.fld 0 (.t 1)),oP 11 (.load false 1 (.t 10)),mV 9 11]
def r149_4:List COp:=[oP 2 (.mov (.k (.int .i64 (-1))))]
def r149_5:List COp:=[oP 2 (.mov (kI 1))]
def c149:CC:=(.seq (.reg r149_0 none) (.seq (.block 0 (.seq (.reg r149_1 none) (.cond (.t 3) (.seq (.reg r149_2 none) .ret) (.seq (.reg r149_3 none) (.cond (.t 9) (.seq (.reg r149_4 none) .ret) .skip))))) (.seq (.reg r149_5 none) .ret)))
theorem comp149:CmpC Tryz.prog G Tryz.f149=some c149:=by kernel_rfl
theorem res149:Tryz.f149.results.toList=[(.tmp 2)]:=by kernel_rfl
def r150_0:List COp:=[oP 2 (.box (.t 0)),oP 3 (.box (.t 1)),oP 4 (.box (.k (.agg [(.bool false),(.vec [] 0 (some 0))])))]
def r150_1:List COp:=[oP 7 (.load true 2 (.t 2)),oP 8 (.call 187 [.t 7]),oP 9 (.load true 2 (.t 3)),oP 10 (.call 187 [.t 9]),oP 5 (.box (.k (.agg [(.bool false),(.vec [] 0 (some 0))]))),oP 6 (.box (.k (.agg [(.bool false),(.vec [] 0 (some 0))]))),sT (.store 2 (.t 5) (.t 8)),sT (.store 2 (.t 6) (.t 10))]
def r150_2:List COp:=[oP 11 (.load true 2 (.t 6)),oP 12 (.call 149 [.t 11]),oP 13 (.bin .neq (.t 12) (kI 0))]
def r150_3:List COp:=[oP 14 (.load true 2 (.t 6)),oP 15 (.load true 2 (.t 5)),oP 16 (.load true 2 (.t 6)),oP 17 (.call 197 [.t 15,.t 16]),sT (.store 2 (.t 5) (.t 14)),sT (.store 2 (.t 6) (.t 17))]
def l150_0:CC:=(.seq (.seq (.reg r150_2 none) (.cond (.t 13) .skip (.exit 0))) (.block 1 (.reg r150_3 (some [(0,1),(0,2),(1,2),(0,3)]))))
def r150_4:List COp:=[oP 18 (.load true 2 (.t 5)),sT (.store 2 (.t 4) (.t 18))]
def c150:CC:=(.seq (.reg r150_0 none) (.seq (.reg r150_1 (some [(0,2),(1,2),(0,4),(1,4),(2,4),(3,4),(0,5),(1,5),(2,5),(3,5),(4,5)])) (.seq (.block 0 (.loop l150_0)) (.seq (.reg r150_4 none) .ret))))
theorem comp150:CmpC Tryz.prog G Tryz.f150=some c150:=by kernel_rfl
theorem res150:Tryz.f150.results.toList=[(.cell 4 40)]:=by kernel_rfl
def r151_0:List COp:=[oP 2 (.box (.t 0)),oP 3 (.box (.t 1)),oP 4 (.box (.k (.agg [(.bool false),(.vec [] 0 (some 0))])))]
def r151_1:List COp:=[oP 9 (.load true 2 (.t 2)),oP 10 (.load true 2 (.t 3)),oP 11 (.call 198 [.t 9,.t 10]),mV 8 11,oP 12 (.ext (.t 8) 0),oP 13 (.ext (.t 8) 1),oP 14 (.ext (.t 8) 2),oP 5 (.box (.k (.agg [(.bool false),(.vec [] 0 (some 0))]))),oP 6 (.box (.k (.agg [(.bool false),(.vec [] 0 (some 0))]))),sT (.store 2 (.t 5) (.t 12)),sT (.store 2 (.t 6) (.t 13)),mV 7 14]
def r151_2:List COp:=[oP 15 (.load true 2 (.t 5)),sT (.store 2 (.t 4) (.t 15))]
def c151:CC:=(.seq (.reg r151_0 none) (.seq (.reg r151_1 none) (.seq (.reg r151_2 none) .ret)))
theorem comp151:CmpC Tryz.prog G Tryz.f151=some c151:=by kernel_rfl
theorem res151:Tryz.f151.results.toList=[(.cell 4 40)]:=by kernel_rfl
def r152_0:List COp:=[oP 4 (.box (.k (.agg [(.bool false),(.vec [] 0 (some 0))])))]
def r152_1:List COp:=[mV 5 0,mV 6 1,oP 7 (.conv .u32 (.t 6)),mV 8 1,oP 9 (.bin .shr (.t 8) (.k (.int .u64 32))),oP 10 (.conv .u32 (.t 9)),oP 11 (.bsl 2 1 [(.int .u32 0),(.int .u32 0)] [(0,(1,(.t 7))),(1,(1,(.t 10)))]),oP 12 (.call 184 [.t 5,.t 11]),sT (.store 2 (.t 4) (.t 12))]
def c152:CC:=(.seq (.reg r152_0 none) (.seq (.reg r152_1 none) .ret))
theorem comp152:CmpC Tryz.prog G Tryz.f152=some c152:=by kernel_rfl
theorem res152:Tryz.f152.results.toList=[(.cell 4 40)]:=by kernel_rfl
def r161_0:List COp:=[oP 2 (.mov (.k (.vec [] 0 (some 0))))]
def r161_1:List COp:=[mV 4 0,oP 5 (.len false (.t 4)),mV 3 5]
def r161_2:List COp:=[mV 6 3,oP 7 (.bin .gtr (.t 6) (kI 0)),mV 8 7,gU 9 8 true (.mov (.t 0)),gU 10 8 true (.mov (.t 3)),gU 11 8 true (.bin .sub (.t 10) (kI 1)),gU 12 8 true (.idx 1 (.t 9) (.t 11)),gU 13 8 true (.load false 1 (.t 12)),gU 14 8 true (.bin .eql (.t 13) (.k (.int .u32 0))),oP 15 (.pick (.t 8) (.t 14) (.k (.bool false)))]
def r161_3:List COp:=[mV 16 3,oP 17 (.bin .sub (.t 16) (kI 1)),mV 3 17]
def l161_0:CC:=(.seq (.seq (.reg r161_2 none) (.cond (.t 15) .skip (.exit 0))) (.block 1 (.reg r161_3 none)))
def r161_4:List COp:=[mV 18 0,mV 19 3,oP 20 (.slice 1 (.t 18) none (some (.t 19)) none),oP 21 (.append 1 4 (.k (.vec [] 0 (some 0))) (.t 20)),mV 2 21]
def c161:CC:=(.seq (.reg r161_0 none) (.seq (.reg r161_1 none) (.seq (.block 0 (.loop l161_0)) (.seq (.reg r161_4 none) .ret))))
theorem comp161:CmpC Tryz.prog G Tryz.f161=some c161:=by kernel_rfl
theorem res161:Tryz.f161.results.toList=[(.tmp 2)]:=by kernel_rfl
def r162_0:List COp:=[oP 2 (.mov (.k (.int .u64 0)))]
def r162_1:List COp:=[oP 3 (.mov (.k (.int .u64 0)))]
def r162_2:List COp:=[oP 4 (.mov (kI 0))]
def r162_3:List COp:=[mV 5 4,mV 6 0,oP 7 (.len false (.t 6)),oP 8 (.bin .lss (.t 5) (.t 7)),mV 9 8,gU 10 9 true (.mov (.t 4)),gU 11 9 true (.bin .lss (.t 10) (kI 2)),oP 12 (.pick (.t 9) (.t 11) (.k (.bool false)))]
def r162_4:List COp:=[mV 15 3,mV 16 0,mV 17 4,oP 18 (.idx 1 (.t 16) (.t 17)),oP 19 (.load false 1 (.t 18)),oP 20 (.conv .u64 (.t 19)),mV 21 4,oP 22 (.bin .mul (kI 32) (.t 21)),oP 23 (.bin .shl (.t 20) (.t 22)),oP 24 (.bin .or (.t 15) (.t 23)),mV 3 24]
def r162_5:List COp:=[mV 13 4,oP 14 (.bin .add (.t 13) (kI 1)),mV 4 14]
def l162_0:CC:=(.seq (.seq (.reg r162_3 none) (.cond (.t 12) .skip (.exit 0))) (.seq (.block 1 (.reg r162_4 none)) (.reg r162_5 none)))
def r162_6:List COp:=[mV 25 3,mV 2 25]
def c162:CC:=(.seq (.reg r162_0 none) (.seq (.reg r162_1 none) (.seq (.seq (.reg r162_2 none) (.block 0 (.loop l162_0))) (.seq (.reg r162_6 none) .ret))))
theorem comp162:CmpC Tryz.prog G Tryz.f162=some c162:=by kernel_rfl
theorem res162:Tryz.f162.results.toList=[(.tmp 2)]:=by kernel_rfl
def r163_0:List COp:=[oP 2 (.box (.t 0)),oP 3 (.box (.t 1)),oP 4 (.box (.k (.agg [(.bool false),(.vec [] 0 (some 0))])))]
def r163_1:List COp:=[oP 5 (.load true 2 (.t 2)),oP 6 (.load true 2 (.t 3)),oP 7 (.call 126 [.t 6]),oP 8 (.call 190 [.t 5,.t 7]),sT (.store 2 (.t 4) (.t 8))]
def c163:CC:=(.seq (.reg r163_0 none) (.seq (.reg r163_1 (some [(0,1),(0,2)])) .ret))
theorem comp163:CmpC Tryz.prog G Tryz.f163=some c163:=by kernel_rfl
theorem res163:Tryz.f163.results.toList=[(.cell 4 40)]:=by kernel_rfl
def r164_0:List COp:=[oP 2 (.box (.t 0)),oP 3 (.box (.t 1)),oP 4 (.box (.k (.agg [(.bool false),(.vec [] 0 (some 0))])))]
def r164_1:List COp:=[oP 11 (.fld 1 (.t 2)),oP 12 (.load false 1 (.t 11)),oP 13 (.len false (.t 12)),oP 14 (.fld 1 (.t 3)),oP 15 (.load false 1 (.t 14)),oP 16 (.len false (.t 15)),oP 17 (.bin .add (.t 13) (.t 16)),oP 18 (.mksl 1 4 [(.int .u32 0)] (.t 17) (.t 17)),mV 5 18]
def r164_2:List COp:=[oP 19 (.fld 1 (.t 2)),oP 20 (.load false 1 (.t 19)),oP 21 (.len false (.t 20)),oP 22 (.mov (kI 0))]
def r164_3:List COp:=[oP 23 (.bin .lss (.t 22) (.t 21))]
def r164_4:List COp:=[mV 24 22,oP 25 (.idx 1 (.t 20) (.t 22)),oP 26 (.load false 1 (.t 25)),mV 6 24,mV 7 26]
def r164_5:List COp:=[oP 8 (.mov (.k (.int .u64 0)))]
def r164_6:List COp:=[oP 27 (.fld 1 (.t 3)),oP 28 (.load false 1 (.t 27)),oP 29 (.len false (.t 28)),oP 30 (.mov (kI 0))]
def r164_7:List COp:=[oP 31 (.bin .lss (.t 30) (.t 29))]
def r164_8:List COp:=[mV 32 30,oP 33 (.idx 1 (.t 28) (.t 30)),oP 34 (.load false 1 (.t 33)),mV 9 32,mV 10 34]
def r164_9:List COp:=[mV 35 8,mV 36 7,oP 37 (.conv .u64 (.t 36)),mV 38 10,oP 39 (.conv .u64 (.t 38)),oP 40 (.bin .mul (.t 37) (.t 39)),mV 41 5,mV 42 6,mV 43 9,oP 44 (.bin .add (.t 42) (.t 43)),oP 45 (.idx 1 (.t 41) (.t 44)),oP 46 (.load false 1 (.t 45)),oP 47 (.conv .u64 (.t 46)),oP 48 (.bin .add (.t 40) (.t 47)),oP 49 (.bin .add (.t 35) (.t 48)),mV 8 49]
def r164_10:List COp:=[mV 50 5,mV 51 6,mV 52 9,oP 53 (.bin .add (.t 51) (.t 52)),mV 54 8,oP 55 (.conv .u32 (.t 54)),oP 56 (.idx 1 (.t 50) (.t 53)),sT (.store 1 (.t 56) (.t 55))]
def r164_11:List COp:=[mV 57 8,oP 58 (.bin .shr (.t 57) (.k (.int .u64 32))),mV 8 58]
def r164_12:List COp:=[oP 59 (.bin .add (.t 30) (kI 1)),mV 30 59]
def l164_1:CC:=(.seq (.reg r164_7 none) (.seq (.cond (.t 31) .skip (.exit 2)) (.seq (.block 3 (.seq (.reg r164_8 none) (.seq (.reg r164_9 none) (.seq (.reg r164_10 none) (.reg r164_11 none))))) (.reg r164_12 none))))
def r164_13:List COp:=[mV 60 5,mV 61 6,oP 62 (.fld 1 (.t 3)),oP 63 (.load false 1 (.t 62)),oP 64 (.len false (.t 63)),oP 65 (.bin .add (.t 61) (.t 64)),mV 66 8,oP 67 (.conv .u32 (.t 66)),oP 68 (.idx 1 (.t 60) (.t 65)),sT (.store 1 (.t 68) (.t 67))]
def r164_14:List COp:=[oP 69 (.bin .add (.t 22) (kI 1)),mV 22 69]
def l164_0:CC:=(.seq (.reg r164_3 none) (.seq (.cond (.t 23) .skip (.exit 0)) (.seq (.block 1 (.seq (.reg r164_4 none) (.seq (.reg r164_5 none) (.seq (.seq (.reg r164_6 none) (.block 2 (.loop l164_1))) (.reg r164_13 none))))) (.reg r164_14 none))))
def r164_15:List COp:=[oP 70 (.fld 0 (.t 2)),oP 71 (.load false 1 (.t 70)),oP 72 (.fld 0 (.t 3)),oP 73 (.load false 1 (.t 72)),oP 74 (.beq true (.t 71) (.t 73)),mV 75 5,oP 76 (.call 184 [.t 74,.t 75]),sT (.store 2 (.t 4) (.t 76))]
def c164:CC:=(.seq (.reg r164_0 none) (.seq (.reg r164_1 none) (.seq (.seq (.reg r164_2 none) (.block 0 (.loop l164_0))) (.seq (.reg r164_15 none) .ret))))
theorem comp164:CmpC Tryz.prog G Tryz.f164=some c164:=by kernel_rfl
theorem res164:Tryz.f164.results.toList=[(.cell 4 40)]:=by kernel_rfl
def r165_0:List COp:=[oP 2 (.box (.t 0)),oP 3 (.box (.t 1)),oP 4 (.box (.k (.agg [(.bool false),(.vec [] 0 (some 0)),(.bool false),(.vec [] 0 (some 0))])))]
def r165_1:List COp:=[oP 9 (.load true 4 (.t 2)),oP 10 (.call 168 [.t 9]),oP 11 (.load true 4 (.t 3)),oP 12 (.call 168 [.t 11]),oP 5 (.box (.k (.agg [(.bool false),(.vec [] 0 (some 0)),(.bool false),(.vec [] 0 (some 0))]))),oP 6 (.box (.k (.agg [(.bool false),(.vec [] 0 (some 0)),(.bool false),(.vec [] 0 (some 0))]))),sT (.store 4 (.t 5) (.t 10)),sT (.store 4 (.t 6) (.t 12))]
def r165_2:List COp:=[oP 14 (.fld 0 (.t 5)),oP 15 (.load true 2 (.t 14)),oP 16 (.fld 2 (.t 6)),oP 17 (.load true 2 (.t 16)),oP 18 (.call 164 [.t 15,.t 17]),oP 19 (.fld 0 (.t 6)),oP 20 (.load true 2 (.t 19)),oP 21 (.fld 2 (.t 5)),oP 22 (.load true 2 (.t 21)),oP 23 (.call 164 [.t 20,.t 22]),oP 24 (.call 190 [.t 18,.t 23]),oP 25 (.fld 2 (.t 5)),oP 26 (.load true 2 (.t 25)),oP 27 (.fld 2 (.t 6)),oP 28 (.load true 2 (.t 27)),oP 29 (.call 164 [.t 26,.t 28]),oP 30 (.call 86 [.t 24,.t 29]),mV 13 30,oP 31 (.ext (.t 13) 0),oP 32 (.ext (.t 13) 1),oP 7 (.box (.k (.agg [(.bool false),(.vec [] 0 (some 0)),(.bool false),(.vec [] 0 (some 0))]))),sT (.store 4 (.t 7) (.t 31)),mV 8 32]
def r165_3:List COp:=[oP 33 (.load true 4 (.t 7)),sT (.store 4 (.t 4) (.t 33))]
def c165:CC:=(.seq (.reg r165_0 none) (.seq (.reg r165_1 (some [(0,2),(1,2),(0,4),(1,4),(2,4),(3,4),(0,5),(1,5),(2,5),(3,5),(4,5)])) (.seq (.reg r165_2 (some [(1,3),(1,6),(3,6),(4,6),(1,8),(3,8),(4,8),(6,8),(1,12),(3,12),(4,12),(6,12),(8,12),(9,12),(10,12),(1,14),(3,14),(4,14),(6,14),(8,14),(9,14),(10,14),(12,14),(1,20),(3,20),(4,20),(6,20),(8,20),(9,20),(10,20),(12,20),(14,20),(15,20),(16,20)])) (.seq (.reg r165_3 none) .ret))))
theorem comp165:CmpC Tryz.prog G Tryz.f165=some c165:=by kernel_rfl
theorem res165:Tryz.f165.results.toList=[(.cell 4 42)]:=by kernel_rfl
def r168_0:List COp:=[oP 1 (.box (.t 0)),oP 2 (.box (.k (.agg [(.bool false),(.vec [] 0 (some 0)),(.bool false),(.vec [] 0 (some 0))])))]
def r168_1:List COp:=[oP 6 (.fld 0 (.t 1)),oP 7 (.load true 2 (.t 6)),oP 8 (.fld 2 (.t 1)),oP 9 (.load true 2 (.t 8)),oP 10 (.call 86 [.t 7,.t 9]),mV 5 10,oP 11 (.ext (.t 5) 0),oP 12 (.ext (.t 5) 1),oP 3 (.box (.k (.agg [(.bool false),(.vec [] 0 (some 0)),(.bool false),(.vec [] 0 (some 0))]))),sT (.store 4 (.t 3) (.t 11)),mV 4 12]
def r168_2:List COp:=[mV 13 4,oP 14 (.un .not (.t 13))]
def r168_3:List COp:=[oP 15 (.call 100 [(kI 0)]),sT (.store 4 (.t 2) (.t 15))]
def r168_4:List COp:=[oP 16 (.load true 4 (.t 3)),sT (.store 4 (.t 2) (.t 16))]
def c168:CC:=(.seq (.reg r168_0 none) (.seq (.reg r168_1 none) (.seq (.seq (.reg r168_2 none) (.cond (.t 14) (.seq (.reg r168_3 none) .ret) .skip)) (.seq (.reg r168_4 none) .ret))))
theorem comp168:CmpC Tryz.prog G Tryz.f168=some c168:=by kernel_rfl
theorem res168:Tryz.f168.results.toList=[(.cell 2 42)]:=by kernel_rfl
def r184_0:List COp:=[oP 4 (.box (.k (.agg [(.bool false),(.vec [] 0 (some 0))])))]
def r184_1:List COp:=[mV 6 1,oP 7 (.call 161 [.t 6]),mV 5 7]
def r184_2:List COp:=[mV 8 0,mV 9 8,gU 10 9 true (.mov (.t 5)),gU 11 9 true (.len false (.t 10)),gU 12 9 true (.bin .gtr (.t 11) (kI 0)),oP 13 (.pick (.t 9) (.t 12) (.k (.bool false))),mV 14 5,oP 15 (.build [(.bool false),(.vec [] 0 (some 0))] [(0,(1,(.t 13))),(1,(1,(.t 14)))]),sT (.store 2 (.t 4) (.t 15))]
def c184:CC:=(.seq (.reg r184_0 none) (.seq (.reg r184_1 none) (.seq (.reg r184_2 none) .ret)))
theorem comp184:CmpC Tryz.prog G Tryz.f184=some c184:=by kernel_rfl
theorem res184:Tryz.f184.results.toList=[(.cell 4 40)]:=by kernel_rfl
def r185_0:List COp:=[oP 6 (.mov (.k (.vec [] 0 (some 0))))]
def r185_1:List COp:=[oP 7 (.mov (.k (.vec [] 0 (some 0))))]
def r185_2:List COp:=[mV 13 1,oP 14 (.len false (.t 13)),oP 15 (.mov (kI 0))]
def r185_3:List COp:=[oP 16 (.bin .lss (.t 15) (.t 14))]
def r185_4:List COp:=[oP 17 (.idx 1 (.t 13) (.t 15)),oP 18 (.load false 1 (.t 17)),mV 9 18]
def r185_5:List COp:=[oP 10 (.mov (.k (.vec [] 0 (some 0))))]
def r185_6:List COp:=[mV 19 2,oP 20 (.len false (.t 19)),oP 21 (.mov (kI 0))]
def r185_7:List COp:=[oP 22 (.bin .lss (.t 21) (.t 20))]
def r185_8:List COp:=[oP 23 (.idx 1 (.t 19) (.t 21)),oP 24 (.load false 1 (.t 23)),mV 12 24]
def r185_9:List COp:=[mV 25 10,mV 26 0,mV 27 9,oP 28 (.idx 1 (.t 26) (.t 27)),oP 29 (.load false 1 (.t 28)),mV 30 12,oP 31 (.idx 2 (.t 29) (.t 30)),oP 32 (.load true 2 (.t 31)),oP 33 (.bsl 1 2 [(.bool false),(.vec [] 0 (some 0))] [(0,(2,(.t 32)))]),oP 34 (.append 2 32 (.t 25) (.t 33)),mV 10 34]
def r185_10:List COp:=[oP 35 (.bin .add (.t 21) (kI 1)),mV 21 35]
def l185_1:CC:=(.seq (.reg r185_7 none) (.seq (.cond (.t 22) .skip (.exit 2)) (.seq (.block 3 (.seq (.reg r185_8 none) (.reg r185_9 none))) (.reg r185_10 none))))
def r185_11:List COp:=[mV 36 7,mV 37 10,oP 38 (.bsl 1 1 [(.vec [] 0 (some 0))] [(0,(1,(.t 37)))]),oP 39 (.append 1 24 (.t 36) (.t 38)),mV 7 39]
def r185_12:List COp:=[oP 40 (.bin .add (.t 15) (kI 1)),mV 15 40]
def l185_0:CC:=(.seq (.reg r185_3 none) (.seq (.cond (.t 16) .skip (.exit 0)) (.seq (.block 1 (.seq (.reg r185_4 none) (.seq (.reg r185_5 none) (.seq (.seq (.reg r185_6 none) (.block 2 (.loop l185_1))) (.reg r185_11 none))))) (.reg r185_12 none))))
def r185_13:List COp:=[mV 41 7,mV 6 41]
def c185:CC:=(.seq (.reg r185_0 none) (.seq (.reg r185_1 none) (.seq (.seq (.reg r185_2 none) (.block 0 (.loop l185_0))) (.seq (.reg r185_13 none) .ret))))
theorem comp185:CmpC Tryz.prog G Tryz.f185=some c185:=by kernel_rfl
theorem res185:Tryz.f185.results.toList=[(.tmp 6)]:=by kernel_rfl
def r186_0:List COp:=[oP 4 (.mov (.k (.vec [] 0 (some 0))))]
def r186_1:List COp:=[oP 5 (.mov (.k (.vec [] 0 (some 0))))]
def r186_2:List COp:=[oP 6 (.mov (kI 0))]
def r186_3:List COp:=[mV 7 6,mV 8 0,oP 9 (.bin .lss (.t 7) (.t 8))]
def r186_4:List COp:=[mV 12 5,mV 13 6,oP 14 (.bsl 1 1 [(.int .i64 0)] [(0,(1,(.t 13)))]),oP 15 (.append 1 8 (.t 12) (.t 14)),mV 5 15]
def r186_5:List COp:=[mV 10 6,oP 11 (.bin .add (.t 10) (kI 1)),mV 6 11]
def l186_0:CC:=(.seq (.seq (.reg r186_3 none) (.cond (.t 9) .skip (.exit 0))) (.seq (.block 1 (.reg r186_4 none)) (.reg r186_5 none)))
def r186_6:List COp:=[mV 16 5,mV 17 1,oP 18 (.bsl 1 1 [(.int .i64 0)] [(0,(1,(.t 17)))]),oP 19 (.append 1 8 (.t 16) (.t 18)),mV 4 19]
def c186:CC:=(.seq (.reg r186_0 none) (.seq (.reg r186_1 none) (.seq (.seq (.reg r186_2 none) (.block 0 (.loop l186_0))) (.seq (.reg r186_6 none) .ret))))
theorem comp186:CmpC Tryz.prog G Tryz.f186=some c186:=by kernel_rfl
theorem res186:Tryz.f186.results.toList=[(.tmp 4)]:=by kernel_rfl
def r187_0:List COp:=[oP 1 (.box (.t 0)),oP 2 (.box (.k (.agg [(.bool false),(.vec [] 0 (some 0))])))]
def r187_1:List COp:=[oP 3 (.fld 1 (.t 1)),oP 4 (.load false 1 (.t 3)),oP 5 (.call 184 [(.k (.bool false)),.t 4]),sT (.store 2 (.t 2) (.t 5))]
def c187:CC:=(.seq (.reg r187_0 none) (.seq (.reg r187_1 none) .ret))
theorem comp187:CmpC Tryz.prog G Tryz.f187=some c187:=by kernel_rfl
theorem res187:Tryz.f187.results.toList=[(.cell 2 40)]:=by kernel_rfl
def r188_0:List COp:=[oP 1 (.box (.t 0)),oP 2 (.box (.k (.agg [(.bool false),(.vec [] 0 (some 0))])))]
def r188_1:List COp:=[oP 4 (.load true 4 (.t 1)),oP 5 (.call 168 [.t 4]),oP 3 (.box (.k (.agg [(.bool false),(.vec [] 0 (some 0)),(.bool false),(.vec [] 0 (some 0))]))),sT (.store 4 (.t 3) (.t 5))]
def r188_2:List COp:=[oP 6 (.fld 0 (.t 3)),oP 7 (.load true 2 (.t 6)),oP 8 (.fld 2 (.t 3)),oP 9 (.load true 2 (.t 8)),oP 10 (.call 151 [.t 7,.t 9]),sT (.store 2 (.t 2) (.t 10))]
def c188:CC:=(.seq (.reg r188_0 none) (.seq (.reg r188_1 none) (.seq (.reg r188_2 none) .ret)))
theorem comp188:CmpC Tryz.prog G Tryz.f188=some c188:=by kernel_rfl
theorem res188:Tryz.f188.results.toList=[(.cell 2 40)]:=by kernel_rfl
def r189_0:List COp:=[oP 0 (.box (.k (.agg [(.bool false),(.vec [] 0 (some 0)),(.bool false),(.vec [] 0 (some 0))])))]
def r189_1:List COp:=[oP 1 (.call 87 [(kI 1)]),oP 2 (.call 87 [(kI 2)]),oP 3 (.build [(.bool false),(.vec [] 0 (some 0)),(.bool false),(.vec [] 0 (some 0))] [(0,(2,(.t 1))),(2,(2,(.t 2)))]),sT (.store 4 (.t 0) (.t 3))]
def c189:CC:=(.seq (.reg r189_0 none) (.seq (.reg r189_1 none) .ret))
theorem comp189:CmpC Tryz.prog G Tryz.f189=some c189:=by kernel_rfl
theorem res189:Tryz.f189.results.toList=[(.cell 0 42)]:=by kernel_rfl
def r190_0:List COp:=[oP 2 (.box (.t 0)),oP 3 (.box (.t 1)),oP 4 (.box (.k (.agg [(.bool false),(.vec [] 0 (some 0))])))]
def r190_1:List COp:=[oP 7 (.fld 1 (.t 2)),oP 8 (.load false 1 (.t 7)),oP 9 (.call 161 [.t 8]),oP 10 (.fld 1 (.t 3)),oP 11 (.load false 1 (.t 10)),oP 12 (.call 161 [.t 11]),mV 5 9,mV 6 12]
def r190_2:List COp:=[oP 13 (.fld 0 (.t 2)),oP 14 (.load false 1 (.t 13)),oP 15 (.fld 0 (.t 3)),oP 16 (.load false 1 (.t 15)),oP 17 (.beq false (.t 14) (.t 16))]
def r190_3:List COp:=[oP 18 (.fld 0 (.t 2)),oP 19 (.load false 1 (.t 18)),mV 20 5,mV 21 6,oP 22 (.call 208 [.t 20,.t 21]),oP 23 (.call 184 [.t 19,.t 22]),sT (.store 2 (.t 4) (.t 23))]
def r190_4:List COp:=[mV 24 5,mV 25 6,oP 26 (.call 88 [.t 24,.t 25]),oP 27 (.bin .geq (.t 26) (kI 0))]
def r190_5:List COp:=[oP 28 (.fld 0 (.t 2)),oP 29 (.load false 1 (.t 28)),mV 30 5,mV 31 6,oP 32 (.call 209 [.t 30,.t 31]),oP 33 (.call 184 [.t 29,.t 32]),sT (.store 2 (.t 4) (.t 33))]
def r190_6:List COp:=[oP 34 (.fld 0 (.t 3)),oP 35 (.load false 1 (.t 34)),mV 36 6,mV 37 5,oP 38 (.call 209 [.t 36,.t 37]),oP 39 (.call 184 [.t 35,.t 38]),sT (.store 2 (.t 4) (.t 39))]
def c190:CC:=(.seq (.reg r190_0 none) (.seq (.reg r190_1 (some [(1,4),(2,4)])) (.seq (.seq (.reg r190_2 none) (.cond (.t 17) (.seq (.reg r190_3 (some [(1,4)])) .ret) .skip)) (.seq (.seq (.reg r190_4 none) (.cond (.t 27) (.seq (.reg r190_5 (some [(1,4)])) .ret) .skip)) (.seq (.reg r190_6 (some [(1,4)])) .ret)))))
theorem comp190:CmpC Tryz.prog G Tryz.f190=some c190:=by kernel_rfl
theorem res190:Tryz.f190.results.toList=[(.cell 4 40)]:=by kernel_rfl
def r191_0:List COp:=[oP 4 (.box (.k (.agg [(.bool false),(.vec [] 0 (some 0))])))]
def r191_1:List COp:=[oP 7 (.build [(.bool false),(.vec [] 0 (some 0))] []),oP 5 (.box (.k (.agg [(.bool false),(.vec [] 0 (some 0))]))),sT (.store 2 (.t 5) (.t 7))]
def r191_2:List COp:=[mV 8 0,oP 9 (.len false (.t 8)),oP 10 (.mov (kI 0))]
def r191_3:List COp:=[oP 11 (.bin .lss (.t 10) (.t 9))]
def r191_4:List COp:=[mV 12 10,mV 6 12]
def r191_5:List COp:=[oP 13 (.load true 2 (.t 5)),mV 14 0,mV 15 6,oP 16 (.idx 2 (.t 14) (.t 15)),oP 17 (.load true 2 (.t 16)),mV 18 1,mV 19 6,oP 20 (.idx 2 (.t 18) (.t 19)),oP 21 (.load true 2 (.t 20)),oP 22 (.call 164 [.t 17,.t 21]),oP 23 (.call 190 [.t 13,.t 22]),sT (.store 2 (.t 5) (.t 23))]
def r191_6:List COp:=[oP 24 (.bin .add (.t 10) (kI 1)),mV 10 24]
def l191_0:CC:=(.seq (.reg r191_3 none) (.seq (.cond (.t 11) .skip (.exit 0)) (.seq (.block 1 (.seq (.reg r191_4 none) (.reg r191_5 (some [(0,4),(0,8),(4,8),(0,9)])))) (.reg r191_6 none))))
def r191_7:List COp:=[oP 25 (.load true 2 (.t 5)),sT (.store 2 (.t 4) (.t 25))]
def c191:CC:=(.seq (.reg r191_0 none) (.seq (.reg r191_1 none) (.seq (.seq (.reg r191_2 none) (.block 0 (.loop l191_0))) (.seq (.reg r191_7 none) .ret))))
theorem comp191:CmpC Tryz.prog G Tryz.f191=some c191:=by kernel_rfl
theorem res191:Tryz.f191.results.toList=[(.cell 4 40)]:=by kernel_rfl
def r197_0:List COp:=[oP 2 (.box (.t 0)),oP 3 (.box (.t 1)),oP 4 (.box (.k (.agg [(.bool false),(.vec [] 0 (some 0))])))]
def r197_1:List COp:=[oP 9 (.load true 2 (.t 2)),oP 10 (.load true 2 (.t 3)),oP 11 (.call 198 [.t 9,.t 10]),mV 8 11,oP 12 (.ext (.t 8) 0),oP 13 (.ext (.t 8) 1),oP 14 (.ext (.t 8) 2),oP 5 (.box (.k (.agg [(.bool false),(.vec [] 0 (some 0))]))),oP 6 (.box (.k (.agg [(.bool false),(.vec [] 0 (some 0))]))),sT (.store 2 (.t 5) (.t 12)),sT (.store 2 (.t 6) (.t 13)),mV 7 14]
def r197_2:List COp:=[oP 15 (.load true 2 (.t 6)),sT (.store 2 (.t 4) (.t 15))]
def c197:CC:=(.seq (.reg r197_0 none) (.seq (.reg r197_1 none) (.seq (.reg r197_2 none) .ret)))
theorem comp197:CmpC Tryz.prog G Tryz.f197=some c197:=by kernel_rfl
theorem res197:Tryz.f197.results.toList=[(.cell 4 40)]:=by kernel_rfl
def r198_0:List COp:=[oP 2 (.box (.t 0)),oP 3 (.box (.t 1)),oP 4 (.box (.k (.agg [(.bool false),(.vec [] 0 (some 0))]))),oP 5 (.box (.k (.agg [(.bool false),(.vec [] 0 (some 0))]))),oP 6 (.mov (.k (.bool false)))]
def r198_1:List COp:=[oP 13 (.fld 1 (.t 2)),oP 14 (.load false 1 (.t 13)),oP 15 (.call 161 [.t 14]),oP 16 (.fld 1 (.t 3)),oP 17 (.load false 1 (.t 16)),oP 18 (.call 161 [.t 17]),mV 7 15,mV 8 18]
def r198_2:List COp:=[mV 19 8,oP 20 (.len false (.t 19)),oP 21 (.bin .eql (.t 20) (kI 0))]
def r198_3:List COp:=[oP 22 (.build [(.bool false),(.vec [] 0 (some 0))] []),oP 23 (.build [(.bool false),(.vec [] 0 (some 0))] []),sT (.store 2 (.t 4) (.t 22)),sT (.store 2 (.t 5) (.t 23)),oP 6 (.mov (.k (.bool false)))]
def r198_4:List COp:=[mV 25 7,mV 26 8,oP 27 (.call 211 [.t 25,.t 26]),mV 24 27,oP 28 (.ext (.t 24) 0),oP 29 (.ext (.t 24) 1),mV 9 28,mV 10 29]
def r198_5:List COp:=[oP 30 (.fld 0 (.t 2)),oP 31 (.load false 1 (.t 30)),oP 32 (.fld 0 (.t 3)),oP 33 (.load false 1 (.t 32)),oP 34 (.beq true (.t 31) (.t 33)),mV 35 9,oP 36 (.call 184 [.t 34,.t 35]),oP 37 (.fld 0 (.t 2)),oP 38 (.load false 1 (.t 37)),mV 39 10,oP 40 (.call 184 [.t 38,.t 39]),oP 11 (.box (.k (.agg [(.bool false),(.vec [] 0 (some 0))]))),oP 12 (.box (.k (.agg [(.bool false),(.vec [] 0 (some 0))]))),sT (.store 2 (.t 11) (.t 36)),sT (.store 2 (.t 12) (.t 40))]
def r198_6:List COp:=[oP 41 (.load true 2 (.t 12)),oP 42 (.call 149 [.t 41]),oP 43 (.bin .lss (.t 42) (kI 0))]
def r198_7:List COp:=[oP 44 (.load true 2 (.t 12)),mV 45 8,oP 46 (.call 184 [(.k (.bool false)),.t 45]),oP 47 (.call 190 [.t 44,.t 46]),sT (.store 2 (.t 12) (.t 47))]
def r198_8:List COp:=[oP 48 (.load true 2 (.t 3)),oP 49 (.call 149 [.t 48]),oP 50 (.bin .lss (.t 49) (kI 0))]
def r198_9:List COp:=[oP 51 (.load true 2 (.t 11)),oP 52 (.call 87 [(kI 1)]),oP 53 (.call 190 [.t 51,.t 52]),oP 54 (.load true 2 (.t 12)),sT (.store 2 (.t 4) (.t 53)),sT (.store 2 (.t 5) (.t 54)),oP 6 (.mov (.k (.bool true)))]
def r198_10:List COp:=[oP 55 (.load true 2 (.t 11)),oP 56 (.call 87 [(kI 1)]),oP 57 (.call 163 [.t 55,.t 56]),oP 58 (.load true 2 (.t 12)),sT (.store 2 (.t 4) (.t 57)),sT (.store 2 (.t 5) (.t 58)),oP 6 (.mov (.k (.bool true)))]
def r198_11:List COp:=[oP 59 (.load true 2 (.t 11)),oP 60 (.load true 2 (.t 12)),sT (.store 2 (.t 4) (.t 59)),sT (.store 2 (.t 5) (.t 60)),oP 6 (.mov (.k (.bool true)))]
def c198:CC:=(.seq (.reg r198_0 none) (.seq (.reg r198_1 (some [(1,4),(2,4)])) (.seq (.seq (.reg r198_2 none) (.cond (.t 21) (.seq (.reg r198_3 none) .ret) .skip)) (.seq (.reg r198_4 none) (.seq (.reg r198_5 (some [(1,3),(1,8),(3,8),(6,8),(1,11),(3,11),(6,11),(8,11),(10,11),(1,12),(3,12),(6,12),(8,12),(10,12),(11,12)])) (.seq (.seq (.reg r198_6 none) (.cond (.t 43) (.seq (.reg r198_7 (some [(0,2)])) (.seq (.seq (.reg r198_8 none) (.cond (.t 50) (.seq (.reg r198_9 (some [(0,1),(0,3),(1,3),(2,3),(3,4)])) .ret) .skip)) (.seq (.reg r198_10 (some [(0,1),(0,3),(1,3),(2,3),(3,4)])) .ret))) .skip)) (.seq (.reg r198_11 (some [(0,1),(1,2)])) .ret)))))))
theorem comp198:CmpC Tryz.prog G Tryz.f198=some c198:=by kernel_rfl
theorem res198:Tryz.f198.results.toList=[(.cell 4 40),(.cell 5 40),(.tmp 6)]:=by kernel_rfl
def r208_0:List COp:=[oP 4 (.mov (.k (.vec [] 0 (some 0))))]
def r208_1:List COp:=[oP 5 (.mov (.k (.vec [] 0 (some 0))))]
def r208_2:List COp:=[oP 6 (.mov (.k (.int .u64 0)))]
def r208_3:List COp:=[oP 7 (.mov (kI 0))]
def r208_4:List COp:=[mV 8 7,mV 9 0,oP 10 (.len false (.t 9)),oP 11 (.bin .lss (.t 8) (.t 10)),mV 12 11,gU 13 12 false (.mov (.t 7)),gU 14 12 false (.mov (.t 1)),gU 15 12 false (.len false (.t 14)),gU 16 12 false (.bin .lss (.t 13) (.t 15)),oP 17 (.pick (.t 12) (.k (.bool true)) (.t 16))]
def r208_5:List COp:=[mV 20 7,mV 21 0,oP 22 (.len false (.t 21)),oP 23 (.bin .lss (.t 20) (.t 22))]
def r208_6:List COp:=[mV 24 6,mV 25 0,mV 26 7,oP 27 (.idx 1 (.t 25) (.t 26)),oP 28 (.load false 1 (.t 27)),oP 29 (.conv .u64 (.t 28)),oP 30 (.bin .add (.t 24) (.t 29)),mV 6 30]
def r208_7:List COp:=[mV 31 7,mV 32 1,oP 33 (.len false (.t 32)),oP 34 (.bin .lss (.t 31) (.t 33))]
def r208_8:List COp:=[mV 35 6,mV 36 1,mV 37 7,oP 38 (.idx 1 (.t 36) (.t 37)),oP 39 (.load false 1 (.t 38)),oP 40 (.conv .u64 (.t 39)),oP 41 (.bin .add (.t 35) (.t 40)),mV 6 41]
def r208_9:List COp:=[mV 42 5,mV 43 6,oP 44 (.conv .u32 (.t 43)),oP 45 (.bsl 1 1 [(.int .u32 0)] [(0,(1,(.t 44)))]),oP 46 (.append 1 4 (.t 42) (.t 45)),mV 5 46]
def r208_10:List COp:=[mV 47 6,oP 48 (.bin .shr (.t 47) (.k (.int .u64 32))),mV 6 48]
def r208_11:List COp:=[mV 18 7,oP 19 (.bin .add (.t 18) (kI 1)),mV 7 19]
def l208_0:CC:=(.seq (.seq (.reg r208_4 none) (.cond (.t 17) .skip (.exit 0))) (.seq (.block 1 (.seq (.seq (.reg r208_5 none) (.cond (.t 23) (.reg r208_6 none) .skip)) (.seq (.seq (.reg r208_7 none) (.cond (.t 34) (.reg r208_8 none) .skip)) (.seq (.reg r208_9 none) (.reg r208_10 none))))) (.reg r208_11 none)))
def r208_12:List COp:=[mV 49 5,mV 50 6,oP 51 (.conv .u32 (.t 50)),oP 52 (.bsl 1 1 [(.int .u32 0)] [(0,(1,(.t 51)))]),oP 53 (.append 1 4 (.t 49) (.t 52)),mV 4 53]
def c208:CC:=(.seq (.reg r208_0 none) (.seq (.reg r208_1 none) (.seq (.reg r208_2 none) (.seq (.seq (.reg r208_3 none) (.block 0 (.loop l208_0))) (.seq (.reg r208_12 none) .ret)))))
theorem comp208:CmpC Tryz.prog G Tryz.f208=some c208:=by kernel_rfl
theorem res208:Tryz.f208.results.toList=[(.tmp 4)]:=by kernel_rfl
def r209_0:List COp:=[oP 4 (.mov (.k (.vec [] 0 (some 0))))]
def r209_1:List COp:=[oP 5 (.mov (.k (.vec [] 0 (some 0))))]
def r209_2:List COp:=[oP 6 (.mov (.k (.int .u64 0)))]
def r209_3:List COp:=[oP 7 (.mov (kI 0))]
def r209_4:List COp:=[mV 9 7,mV 10 0,oP 11 (.len false (.t 10)),oP 12 (.bin .lss (.t 9) (.t 11))]
def r209_5:List COp:=[mV 15 6,mV 8 15]
def r209_6:List COp:=[mV 16 7,mV 17 1,oP 18 (.len false (.t 17)),oP 19 (.bin .lss (.t 16) (.t 18))]
def r209_7:List COp:=[mV 20 8,mV 21 1,mV 22 7,oP 23 (.idx 1 (.t 21) (.t 22)),oP 24 (.load false 1 (.t 23)),oP 25 (.conv .u64 (.t 24)),oP 26 (.bin .add (.t 20) (.t 25)),mV 8 26]
def r209_8:List COp:=[mV 27 5,mV 28 0,mV 29 7,oP 30 (.idx 1 (.t 28) (.t 29)),oP 31 (.load false 1 (.t 30)),oP 32 (.conv .u64 (.t 31)),mV 33 8,oP 34 (.bin .sub (.t 32) (.t 33)),oP 35 (.conv .u32 (.t 34)),oP 36 (.bsl 1 1 [(.int .u32 0)] [(0,(1,(.t 35)))]),oP 37 (.append 1 4 (.t 27) (.t 36)),mV 5 37]
def r209_9:List COp:=[oP 6 (.mov (.k (.int .u64 0)))]
def r209_10:List COp:=[mV 38 0,mV 39 7,oP 40 (.idx 1 (.t 38) (.t 39)),oP 41 (.load false 1 (.t 40)),oP 42 (.conv .u64 (.t 41)),mV 43 8,oP 44 (.bin .lss (.t 42) (.t 43))]
def r209_11:List COp:=[oP 6 (.mov (.k (.int .u64 1)))]
def r209_12:List COp:=[mV 13 7,oP 14 (.bin .add (.t 13) (kI 1)),mV 7 14]
def l209_0:CC:=(.seq (.seq (.reg r209_4 none) (.cond (.t 12) .skip (.exit 0))) (.seq (.block 1 (.seq (.reg r209_5 none) (.seq (.seq (.reg r209_6 none) (.cond (.t 19) (.reg r209_7 none) .skip)) (.seq (.reg r209_8 none) (.seq (.reg r209_9 none) (.seq (.reg r209_10 none) (.cond (.t 44) (.reg r209_11 none) .skip))))))) (.reg r209_12 none)))
def r209_13:List COp:=[mV 45 5,mV 4 45]
def c209:CC:=(.seq (.reg r209_0 none) (.seq (.reg r209_1 none) (.seq (.reg r209_2 none) (.seq (.seq (.reg r209_3 none) (.block 0 (.loop l209_0))) (.seq (.reg r209_13 none) .ret)))))
theorem comp209:CmpC Tryz.prog G Tryz.f209=some c209:=by kernel_rfl
theorem res209:Tryz.f209.results.toList=[(.tmp 4)]:=by kernel_rfl
def r211_0:List COp:=[oP 4 (.mov (.k (.vec [] 0 (some 0)))),oP 5 (.mov (.k (.vec [] 0 (some 0))))]
def r211_1:List COp:=[mV 9 0,oP 10 (.len false (.t 9)),oP 11 (.bin .leq (.t 10) (kI 2)),mV 12 11,gU 13 12 true (.mov (.t 1)),gU 14 12 true (.len false (.t 13)),gU 15 12 true (.bin .leq (.t 14) (kI 2)),oP 16 (.pick (.t 12) (.t 15) (.k (.bool false)))]
def r211_2:List COp:=[mV 17 0,oP 18 (.call 162 [.t 17]),mV 19 1,oP 20 (.call 162 [.t 19]),mV 6 18,mV 7 20]
def r211_3:List COp:=[mV 21 6,mV 22 7,oP 23 (.bin .quo (.t 21) (.t 22)),oP 24 (.call 152 [(.k (.bool false)),.t 23]),oP 25 (.part false 1 1 (.t 24)),mV 26 6,mV 27 7,oP 28 (.bin .rem (.t 26) (.t 27)),oP 29 (.call 152 [(.k (.bool false)),.t 28]),oP 30 (.part false 1 1 (.t 29)),mV 4 25,mV 5 30]
def r211_4:List COp:=[mV 31 0,oP 32 (.len false (.t 31)),oP 33 (.mksl 1 4 [(.int .u32 0)] (.t 32) (.t 32)),mV 4 33]
def r211_5:List COp:=[mV 34 0,oP 35 (.len false (.t 34)),oP 36 (.bin .mul (kI 32) (.t 35)),oP 37 (.bin .sub (.t 36) (kI 1)),mV 8 37]
def r211_6:List COp:=[mV 38 8,oP 39 (.bin .geq (.t 38) (kI 0))]
def r211_7:List COp:=[mV 42 5,mV 43 0,mV 44 8,oP 45 (.bin .quo (.t 44) (kI 32)),oP 46 (.idx 1 (.t 43) (.t 45)),oP 47 (.load false 1 (.t 46)),mV 48 8,oP 49 (.bin .rem (.t 48) (kI 32)),oP 50 (.bin .shr (.t 47) (.t 49)),oP 51 (.bin .and (.t 50) (.k (.int .u32 1))),oP 52 (.call 214 [.t 42,.t 51]),oP 53 (.call 161 [.t 52]),mV 5 53]
def r211_8:List COp:=[mV 54 5,mV 55 1,oP 56 (.call 88 [.t 54,.t 55]),oP 57 (.bin .geq (.t 56) (kI 0))]
def r211_9:List COp:=[mV 58 5,mV 59 1,oP 60 (.call 209 [.t 58,.t 59]),oP 61 (.call 161 [.t 60]),mV 5 61]
def r211_10:List COp:=[mV 62 4,mV 63 8,oP 64 (.bin .quo (.t 63) (kI 32)),oP 65 (.idx 1 (.t 62) (.t 64)),oP 66 (.load false 1 (.t 65)),mV 67 8,oP 68 (.bin .rem (.t 67) (kI 32)),oP 69 (.bin .shl (.k (.int .u32 1)) (.t 68)),oP 70 (.bin .or (.t 66) (.t 69)),oP 71 (.idx 1 (.t 62) (.t 64)),sT (.store 1 (.t 71) (.t 70))]
def r211_11:List COp:=[mV 40 8,oP 41 (.bin .sub (.t 40) (kI 1)),mV 8 41]
def l211_0:CC:=(.seq (.seq (.reg r211_6 none) (.cond (.t 39) .skip (.exit 0))) (.seq (.block 1 (.seq (.reg r211_7 none) (.seq (.reg r211_8 none) (.cond (.t 57) (.seq (.reg r211_9 none) (.reg r211_10 (some []))) .skip)))) (.reg r211_11 none)))
def r211_12:List COp:=[mV 72 4,oP 73 (.call 161 [.t 72]),mV 74 5,mV 4 73,mV 5 74]
def c211:CC:=(.seq (.reg r211_0 none) (.seq (.seq (.reg r211_1 none) (.cond (.t 16) (.seq (.reg r211_2 none) (.seq (.reg r211_3 (some [])) .ret)) .skip)) (.seq (.reg r211_4 none) (.seq (.seq (.reg r211_5 none) (.block 0 (.loop l211_0))) (.seq (.reg r211_12 none) .ret)))))
theorem comp211:CmpC Tryz.prog G Tryz.f211=some c211:=by kernel_rfl
theorem res211:Tryz.f211.results.toList=[(.tmp 4),(.tmp 5)]:=by kernel_rfl
def r214_0:List COp:=[oP 4 (.mov (.k (.vec [] 0 (some 0))))]
def r214_1:List COp:=[oP 5 (.mov (.k (.vec [] 0 (some 0))))]
def r214_2:List COp:=[mV 8 0,oP 9 (.len false (.t 8)),oP 10 (.mov (kI 0))]
def r214_3:List COp:=[oP 11 (.bin .lss (.t 10) (.t 9))]
def r214_4:List COp:=[oP 12 (.idx 1 (.t 8) (.t 10)),oP 13 (.load false 1 (.t 12)),mV 7 13]
def r214_5:List COp:=[mV 14 5,mV 15 7,oP 16 (.bin .shl (.t 15) (.k (.int .u64 1))),mV 17 1,oP 18 (.bin .or (.t 16) (.t 17)),oP 19 (.bsl 1 1 [(.int .u32 0)] [(0,(1,(.t 18)))]),oP 20 (.append 1 4 (.t 14) (.t 19)),mV 5 20]
def r214_6:List COp:=[mV 21 7,oP 22 (.bin .shr (.t 21) (.k (.int .u64 31))),mV 1 22]
def r214_7:List COp:=[oP 23 (.bin .add (.t 10) (kI 1)),mV 10 23]
def l214_0:CC:=(.seq (.reg r214_3 none) (.seq (.cond (.t 11) .skip (.exit 0)) (.seq (.block 1 (.seq (.reg r214_4 none) (.seq (.reg r214_5 none) (.reg r214_6 none)))) (.reg r214_7 none))))
def r214_8:List COp:=[mV 24 5,mV 25 1,oP 26 (.bsl 1 1 [(.int .u32 0)] [(0,(1,(.t 25)))]),oP 27 (.append 1 4 (.t 24) (.t 26)),mV 4 27]
def c214:CC:=(.seq (.reg r214_0 none) (.seq (.reg r214_1 none) (.seq (.seq (.reg r214_2 none) (.block 0 (.loop l214_0))) (.seq (.reg r214_8 none) .ret))))
theorem comp214:CmpC Tryz.prog G Tryz.f214=some c214:=by kernel_rfl
theorem res214:Tryz.f214.results.toList=[(.tmp 4)]:=by kernel_rfl
theorem nt8:Tryz.f8.ntmps=18:=by kernel_rfl
theorem nt11:Tryz.f11.ntmps=41:=by kernel_rfl
theorem nt23:Tryz.f23.ntmps=49:=by kernel_rfl
theorem nt24:Tryz.f24.ntmps=11:=by kernel_rfl
theorem nt25:Tryz.f25.ntmps=74:=by kernel_rfl
theorem nt26:Tryz.f26.ntmps=15:=by kernel_rfl
theorem nt27:Tryz.f27.ntmps=17:=by kernel_rfl
theorem nt28:Tryz.f28.ntmps=92:=by kernel_rfl
theorem nt29:Tryz.f29.ntmps=24:=by kernel_rfl
theorem nt56:Tryz.f56.ntmps=25:=by kernel_rfl
theorem nt57:Tryz.f57.ntmps=8:=by kernel_rfl
theorem nt58:Tryz.f58.ntmps=38:=by kernel_rfl
theorem nt59:Tryz.f59.ntmps=29:=by kernel_rfl
theorem nt60:Tryz.f60.ntmps=83:=by kernel_rfl
theorem nt61:Tryz.f61.ntmps=63:=by kernel_rfl
theorem nt62:Tryz.f62.ntmps=17:=by kernel_rfl
theorem nt63:Tryz.f63.ntmps=14:=by kernel_rfl
theorem nt64:Tryz.f64.ntmps=78:=by kernel_rfl
theorem nt65:Tryz.f65.ntmps=45:=by kernel_rfl
theorem nt66:Tryz.f66.ntmps=57:=by kernel_rfl
theorem nt67:Tryz.f67.ntmps=11:=by kernel_rfl
theorem nt68:Tryz.f68.ntmps=33:=by kernel_rfl
theorem nt69:Tryz.f69.ntmps=16:=by kernel_rfl
theorem nt70:Tryz.f70.ntmps=118:=by kernel_rfl
theorem nt71:Tryz.f71.ntmps=15:=by kernel_rfl
theorem nt72:Tryz.f72.ntmps=18:=by kernel_rfl
theorem nt73:Tryz.f73.ntmps=38:=by kernel_rfl
theorem nt86:Tryz.f86.ntmps=28:=by kernel_rfl
theorem nt87:Tryz.f87.ntmps=12:=by kernel_rfl
theorem nt88:Tryz.f88.ntmps=41:=by kernel_rfl
theorem nt97:Tryz.f97.ntmps=35:=by kernel_rfl
theorem nt98:Tryz.f98.ntmps=125:=by kernel_rfl
theorem nt118:Tryz.f118.ntmps=21:=by kernel_rfl
theorem nt119:Tryz.f119.ntmps=32:=by kernel_rfl
theorem nt120:Tryz.f120.ntmps=29:=by kernel_rfl
theorem nt121:Tryz.f121.ntmps=26:=by kernel_rfl
theorem nt122:Tryz.f122.ntmps=8:=by kernel_rfl
theorem nt123:Tryz.f123.ntmps=21:=by kernel_rfl
theorem nt124:Tryz.f124.ntmps=33:=by kernel_rfl
theorem nt125:Tryz.f125.ntmps=22:=by kernel_rfl
theorem nt126:Tryz.f126.ntmps=9:=by kernel_rfl
theorem nt127:Tryz.f127.ntmps=7:=by kernel_rfl
theorem nt128:Tryz.f128.ntmps=9:=by kernel_rfl
theorem nt129:Tryz.f129.ntmps=34:=by kernel_rfl
theorem nt130:Tryz.f130.ntmps=13:=by kernel_rfl
theorem nt131:Tryz.f131.ntmps=41:=by kernel_rfl
theorem nt132:Tryz.f132.ntmps=45:=by kernel_rfl
theorem nt133:Tryz.f133.ntmps=51:=by kernel_rfl
theorem nt134:Tryz.f134.ntmps=70:=by kernel_rfl
theorem nt135:Tryz.f135.ntmps=32:=by kernel_rfl
theorem nt136:Tryz.f136.ntmps=62:=by kernel_rfl
theorem nt137:Tryz.f137.ntmps=39:=by kernel_rfl
theorem nt139:Tryz.f139.ntmps=41:=by kernel_rfl
theorem nt140:Tryz.f140.ntmps=9:=by kernel_rfl
theorem nt141:Tryz.f141.ntmps=49:=by kernel_rfl
theorem nt149:Tryz.f149.ntmps=12:=by kernel_rfl
theorem nt150:Tryz.f150.ntmps=19:=by kernel_rfl
theorem nt151:Tryz.f151.ntmps=16:=by kernel_rfl
theorem nt152:Tryz.f152.ntmps=13:=by kernel_rfl
theorem nt161:Tryz.f161.ntmps=22:=by kernel_rfl
theorem nt162:Tryz.f162.ntmps=26:=by kernel_rfl
theorem nt163:Tryz.f163.ntmps=9:=by kernel_rfl
theorem nt164:Tryz.f164.ntmps=77:=by kernel_rfl
theorem nt165:Tryz.f165.ntmps=34:=by kernel_rfl
theorem nt168:Tryz.f168.ntmps=17:=by kernel_rfl
theorem nt184:Tryz.f184.ntmps=16:=by kernel_rfl
theorem nt185:Tryz.f185.ntmps=42:=by kernel_rfl
theorem nt186:Tryz.f186.ntmps=20:=by kernel_rfl
theorem nt187:Tryz.f187.ntmps=6:=by kernel_rfl
theorem nt188:Tryz.f188.ntmps=11:=by kernel_rfl
theorem nt189:Tryz.f189.ntmps=4:=by kernel_rfl
theorem nt190:Tryz.f190.ntmps=40:=by kernel_rfl
theorem nt191:Tryz.f191.ntmps=26:=by kernel_rfl
theorem nt197:Tryz.f197.ntmps=16:=by kernel_rfl
theorem nt198:Tryz.f198.ntmps=61:=by kernel_rfl
theorem nt208:Tryz.f208.ntmps=54:=by kernel_rfl
theorem nt209:Tryz.f209.ntmps=46:=by kernel_rfl
theorem nt211:Tryz.f211.ntmps=75:=by kernel_rfl
theorem nt214:Tryz.f214.ntmps=28:=by kernel_rfl
end Go.Proofs.YtpflahgcdgdkjaaGreatDoor
