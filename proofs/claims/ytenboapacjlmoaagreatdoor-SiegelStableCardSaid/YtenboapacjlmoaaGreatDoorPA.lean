/- A part of the proof. -/
import Derived.Test.YtenboapacjlmoaaGreatDoorAL1
import Derived.Test.YtenboapacjlmoaaGreatDoorAL70
import Derived.Test.YtenboapacjlmoaaGreatDoorProg
import Derived.KernelRfl
import Derived.Test.YtenboapacjlmoaaGreatDoorSS
import Derived.Test.YtenboapacjlmoaaGreatDoorAL59
import Derived.Test.YtenboapacjlmoaaGreatDoorAL52
namespace Go.Limb
open Nat renaming mul_assoc → qW, mul_add → qV, pow_succ → qY, pow_le_pow_right → qU, le_refl → qA, mul_zero → qG, lt_of_lt_of_le → qH, mul_one → qI, add_zero → qN, mul_le_mul_left → qR, mod_lt → qT, mul_comm → xQ, lt_or_ge → xZ
open List renaming getD_eq_getElem?_getD → qX, take_of_length_le → qZ, length_cons → qB, take_length → qC, length_take → qD, getD_cons_succ → qE, getElem?_eq_getElem → qM, getElem?_set_ne → qP, take_add_one → xX
set_option linter.unusedSimpArgs false
set_option linter.unusedVariables false
def val:List Nat→Nat
 | []=>0
 | d::r=>d+4294967296*val r
def Dig (l:List Nat):Prop:= ∀d∈l,d<4294967296
def Top:List Nat→Prop
 | []=>True
 | [d]=>d≠0
 | _::d::r=>Top (d::r)
def Canon (l:List Nat):Prop:=Dig l∧Top l
theorem Dig.nil:Dig []:=by intro d h;simp at h
theorem Dig.cons {d:Nat} {r:List Nat} (h:d<4294967296) (hr:Dig r):Dig (d::r):=by
 intro x hx
 rcases List.mem_cons.1 hx with e | e
 ·rw [e];exact h
 ·exact hr x e
theorem Dig.head {d:Nat} {r:List Nat} (h:Dig (d::r)):d<4294967296:=h d (by simp)
theorem Dig.tail {d:Nat} {r:List Nat} (h:Dig (d::r)):Dig r:=fun x hx=>h x (by simp [hx])
theorem Dig.append {l r:List Nat} (h:Dig l) (hr:Dig r):Dig (l++r):=by
 intro x hx
 rcases List.mem_append.1 hx with e | e
 ·exact h x e
 ·exact hr x e
theorem Dig.take {l:List Nat} (h:Dig l) (n:Nat):Dig (l.take n):=fun x hx=>h x (List.mem_of_mem_take hx)
theorem Dig.getD {l:List Nat} (h:Dig l) (i:Nat):l.getD i 0<4294967296:=by
 rw [qX]
 cases e:l[i]? with
 | none=>simp
 | some x=>exact h x (List.mem_of_getElem? e)
theorem Canon.nil:Canon []:=⟨Dig.nil,trivial⟩
theorem Top.tail {d:Nat} {r:List Nat} (h:Top (d::r)):Top r:=by
 cases r with
 | nil=>trivial
 | cons x r=>exact h
theorem Canon.tail {d:Nat} {r:List Nat} (h:Canon (d::r)):Canon r:=⟨h.1.tail,h.2.tail⟩
theorem val_append (l r:List Nat):val (l++r)=val l+4294967296^l.length*val r:=by
 induction l with
 | nil=>simp [val]
 | cons d l ih=>
  simp only [List.cons_append,val,ih,qB,qY,qV]
  have:4294967296*(4294967296^l.length*val r)=4294967296^l.length*4294967296*val r:=by
   rw [←qW,xQ 4294967296]
  omega
theorem val_lt {l:List Nat} (h:Dig l):val l<4294967296^l.length:=by
 induction l with
 | nil=>simp [val]
 | cons d l ih=>
  have h1:=ih h.tail
  have h2:=h.head
  simp only [val,qB,qY]
  have:val l+1≤4294967296^l.length:=h1
  have:(val l+1)*4294967296≤4294967296^l.length*4294967296:=Nat.mul_le_mul_right _ this
  omega
theorem val_pos {l:List Nat} (ht:Top l) (hl:l≠[]):4294967296^(l.length-1)≤val l:=by
 induction l with
 | nil=>exact absurd rfl hl
 | cons d l ih=>
  cases l with
  | nil=>
   have:d≠0:=ht
   simp [val];omega
  | cons x r=>
   have:=ih ht.tail (by simp)
   simp only [qB,Nat.add_sub_cancel] at this ⊢
   rw [val,qY]
   omega
theorem canon_inj:∀{l r:List Nat},Canon l→Canon r→val l=val r→l=r:=by
 intro l
 induction l with
 | nil=>
  intro r _ hr h
  cases r with
  | nil=>rfl
  | cons x r=>
   have h1:=val_pos hr.2 (by simp)
   have h2:0<4294967296^((x::r).length-1):=Nat.pow_pos (by decide)
   rw [←h] at h1
   simp only [val] at h1
   omega
 | cons d l ih=>
  intro r hl hr h
  cases r with
  | nil=>
   have h1:=val_pos hl.2 (by simp)
   have h2:0<4294967296^((d::l).length-1):=Nat.pow_pos (by decide)
   rw [h] at h1
   simp only [val] at h1
   omega
  | cons x r=>
   simp only [val] at h
   have h1:=hl.1.head
   have h2:=hr.1.head
   have:d=x∧val l=val r:=by omega
   rw [this.1,ih hl.tail hr.tail this.2]
theorem val_zero {l:List Nat} (h:Canon l):val l=0↔l=[]:=by
 constructor
 ·intro e;exact canon_inj h Canon.nil e
 ·intro e;rw [e];rfl
def trimN (l:List Nat):Nat→Nat
 | 0=>0
 | n+1=>if l.getD n 0=0 then trimN l n else n+1
theorem trimN_le (l:List Nat) (n:Nat):trimN l n≤n:=by
 induction n with
 | zero=>simp [trimN]
 | succ n ih=>simp only [trimN];split<;>omega
def trimL (l:List Nat):List Nat:=l.take (trimN l l.length)
theorem top_concat {l:List Nat} {d:Nat} (h:d≠0):Top (l++[d]):=by
 induction l with
 | nil=>exact h
 | cons x l ih=>
  cases l with
  | nil=>exact h
  | cons y l=>exact ih
theorem trimN_spec (l:List Nat):∀n,n≤l.length→Top (l.take (trimN l n))∧val (l.take (trimN l n))=val (l.take n):=by
 intro n
 induction n with
 | zero=>intro _;simp [trimN,Top]
 | succ n ih=>
  intro hn
  have e:l.take (n+1)=l.take n++[l.getD n 0]:=by
   rw [xX,qX,qM (by omega)];rfl
  simp only [trimN]
  split
  ·rename_i h0
   obtain ⟨h1,h2⟩:=ih (by omega)
   refine ⟨h1,?_⟩
   rw [h2,e,val_append,h0]
   simp [val]
  ·rename_i h0
   refine ⟨?_,rfl⟩
   rw [e];exact top_concat h0
theorem trimL_canon {l:List Nat} (h:Dig l):Canon (trimL l):=⟨h.take _,(trimN_spec l l.length (qA _)).1⟩
theorem val_trimL (l:List Nat):val (trimL l)=val l:=by
 have:=(trimN_spec l l.length (qA _)).2
 rw [qC] at this
 exact this
theorem trimL_len (l:List Nat):(trimL l).length=trimN l l.length:=by
 unfold trimL
 rw [qD]
 have:=trimN_le l l.length
 omega
def cmpN (m n:List Nat):Nat→Int
 | 0=>0
 | i+1=>if m.getD i 0=n.getD i 0 then cmpN m n i else if m.getD i 0<n.getD i 0 then -1 else 1
def cmpL (m n:List Nat):Int:=if m.length=n.length then cmpN m n m.length else if m.length<n.length then -1 else 1
def sgn (a b:Nat):Int:=if a<b then -1 else if a=b then 0 else 1
theorem take_succD {l:List Nat} {n:Nat} (h:n<l.length):l.take (n+1)=l.take n++[l.getD n 0]:=by
 rw [xX,qX,qM h];rfl
theorem cmpN_spec {m n:List Nat} (hm:Dig m) (hn:Dig n):∀i,i≤m.length→i≤n.length→cmpN m n i=sgn (val (m.take i)) (val (n.take i)):=by
 intro i
 induction i with
 | zero=>intro _ _;simp [cmpN,sgn,val]
 | succ i ih=>
  intro h1 h2
  have e1:=take_succD (l:=m) (n:=i) (by omega)
  have e2:=take_succD (l:=n) (n:=i) (by omega)
  have l1:=val_lt (hm.take i)
  have l2:=val_lt (hn.take i)
  have n1:(m.take i).length=i:=by rw [qD];omega
  have n2:(n.take i).length=i:=by rw [qD];omega
  rw [n1] at l1
  rw [n2] at l2
  rw [cmpN,ih (by omega) (by omega),e1,e2,val_append,val_append,n1,n2]
  simp only [val,qG,qN]
  generalize val (m.take i)=a at*
  generalize val (n.take i)=b at*
  generalize m.getD i 0=x at*
  generalize n.getD i 0=y at*
  generalize 4294967296^i=p at*
  unfold sgn
  split
  ·rename_i h;subst h
   have:(a+p*x<b+p*x)↔a<b:=by omega
   have h3:(a+p*x=b+p*x)↔a=b:=by omega
   simp only [this,h3]
  ·rename_i h
   split
   ·rename_i h3
    have:p*(x+1)≤p*y:=qR _ h3
    rw [qV] at this
    rw [if_pos (by omega)]
   ·rename_i h3
    have:p*(y+1)≤p*x:=qR _ (by omega)
    rw [qV] at this
    rw [if_neg (by omega),if_neg (by omega)]
theorem cmpL_spec {m n:List Nat} (hm:Canon m) (hn:Canon n):cmpL m n=sgn (val m) (val n):=by
 have key:∀{m n:List Nat},Canon m→Canon n→m.length<n.length→val m<val n:=by
  intro m n hm hn h
  have h1:=val_lt hm.1
  have h2:=val_pos hn.2 (by intro e;rw [e] at h;simp at h)
  have h3:4294967296^m.length≤4294967296^(n.length-1):=qU (by decide) (by omega)
  omega
 unfold cmpL
 split
 ·rename_i h
  rw [cmpN_spec hm.1 hn.1 m.length (qA _) (by omega),qC,h,qC]
 ·rename_i h
  split
  ·rename_i h2
   have:=key hm hn h2
   unfold sgn
   rw [if_pos this]
  ·rename_i h2
   have:=key hn hm (by omega)
   unfold sgn
   rw [if_neg (by omega),if_neg (by omega)]
def sumL (m n:List Nat):Nat→Nat→Nat→List Nat→List Nat
 | 0,_,c,out=>out++[c%4294967296]
 | k+1,i,c,out=>sumL m n k (i+1) ((c+m.getD i 0+n.getD i 0)/4294967296) (out++[(c+m.getD i 0+n.getD i 0)%4294967296])
theorem val_take_succ (l:List Nat) (i:Nat):val (l.take (i+1))=val (l.take i)+4294967296^i*l.getD i 0:=by
 rcases xZ i l.length with h | h
 ·rw [take_succD h,val_append,qD,Nat.min_eq_left (by omega)]
  simp [val]
 ·rw [qZ h,qZ (by omega),qX,List.getElem?_eq_none h]
  simp
theorem sumL_spec (m n:List Nat) (hm:Dig m) (hn:Dig n):∀(k i c:Nat) (out:List Nat),c≤1→out.length=i→Dig out→m.length≤i+k→n.length≤i+k→
  val out+4294967296^i*c=val (m.take i)+val (n.take i)→
  val (sumL m n k i c out)=val m+val n∧Dig (sumL m n k i c out)∧(sumL m n k i c out).length=i+k+1:=by
 intro k
 induction k with
 | zero=>
  intro i c out hc ho hd h1 h2 h
  rw [qZ (by omega),qZ (by omega)] at h
  simp only [sumL]
  refine ⟨?_,hd.append (Dig.cons (qT _ (by decide)) Dig.nil),by simp [ho]⟩
  rw [val_append,ho]
  simp only [val,qG,qN]
  rw [Nat.mod_eq_of_lt (by omega)]
  exact h
 | succ k ih=>
  intro i c out hc ho hd h1 h2 h
  have b1:=hm.getD i
  have b2:=hn.getD i
  have:=ih (i+1) ((c+m.getD i 0+n.getD i 0)/4294967296) (out++[(c+m.getD i 0+n.getD i 0)%4294967296]) (by omega) (by simp [ho])
   (hd.append (Dig.cons (qT _ (by decide)) Dig.nil)) (by omega) (by omega) (by
    rw [val_take_succ,val_take_succ,val_append,ho]
    simp only [val,qG,qN,qY]
    generalize 4294967296^i=p at*
    have e:c+m.getD i 0+n.getD i 0=(c+m.getD i 0+n.getD i 0)%4294967296+4294967296*((c+m.getD i 0+n.getD i 0)/4294967296):=by omega
    generalize (c+m.getD i 0+n.getD i 0)%4294967296=u at*
    generalize (c+m.getD i 0+n.getD i 0)/4294967296=v at*
    have e2:p*(c+m.getD i 0+n.getD i 0)=p*(u+4294967296*v):=by rw [e]
    simp only [qV] at e2
    have e3:p*4294967296*v=p*(4294967296*v):=qW _ _ _
    omega)
  simp only [sumL]
  refine ⟨this.1,this.2.1,by omega⟩
theorem dif_step {a b c u v p A B C:Nat} (hv:a+4294967296*v=u+(b+c)) (h:A+p*b=C+B):A+p*a+p*4294967296*v=C+p*u+(B+p*c):=by
 have e2:p*(a+4294967296*v)=p*(u+(b+c)):=by rw [hv]
 simp only [qV] at e2
 have e3:p*4294967296*v=p*(4294967296*v):=qW _ _ _
 omega
theorem dif_inv {a b c u v p A B C V1 V2 V3 D:Nat} (h1:V1=A+p*a) (h2:V2=B+p*c) (h3:V3=C+p*u) (hD:D=p*4294967296) (hv:a+4294967296*v=u+(b+c)) (h:A+p*b=C+B):V1+D*v=V3+V2:=by
 subst h1 h2 h3 hD
 exact dif_step hv h
theorem pw (i:Nat):4294967296^(i+1)=4294967296^i*4294967296:=by rw [qY]
theorem val_concat {l:List Nat} {i d:Nat} (h:l.length=i):val (l++[d])=val l+4294967296^i*d:=by
 rw [val_append,h]
 simp [val]
def brw (a b:Nat):Nat:=if a<b then 1 else 0
theorem brw_spec {a b:Nat} (ha:a<4294967296) (hb:b≤4294967296):a+4294967296*brw a b=(a+8589934592-b)%4294967296+b:=by
 unfold brw
 split<;>omega
theorem brw_le (a b:Nat):brw a b≤1:=by unfold brw;split<;>omega
def difL (m n:List Nat):Nat→Nat→Nat→List Nat→List Nat
 | 0,_,_,out=>out
 | k+1,i,b,out=>difL m n k (i+1) (brw (m.getD i 0) (b+n.getD i 0)) (out++[(m.getD i 0+8589934592-(b+n.getD i 0))%4294967296])
theorem dif_zero {a b c d p:Nat} (h:a+p*b=c+d) (hlt:c<p) (hv:d≤a) (hb:b≤1):b=0:=by
 rcases xZ b 1 with h2 | h2
 ·omega
 ·have e:b=1:=by omega
  rw [e,qI] at h
  omega
theorem difL_spec (m n:List Nat) (hm:Dig m) (hn:Dig n) (hnm:n.length≤m.length) (hv:val n≤val m):∀(k i b:Nat) (out:List Nat),b≤1→out.length=i→Dig out→m.length=i+k→
  val (m.take i)+4294967296^i*b=val out+val (n.take i)→
  val (difL m n k i b out)+val n=val m∧Dig (difL m n k i b out)∧(difL m n k i b out).length=m.length:=by
 intro k
 induction k with
 | zero=>
  intro i b out hb ho hd h1 h
  have h1:m.length=i:=h1
  have hlt:=val_lt hd
  rw [ho] at hlt
  rw [qZ (by omega),qZ (by omega)] at h
  simp only [difL]
  have hb0:=dif_zero h hlt hv hb
  rw [hb0,qG] at h
  clear hlt
  exact ⟨by omega,hd,by omega⟩
 | succ k ih=>
  intro i b out hb ho hd h1 h
  have b1:=hm.getD i
  have b2:=hn.getD i
  simp only [difL]
  refine ih (i+1) _ _ (brw_le _ _) (by simp [ho]) (hd.append (Dig.cons (qT _ (by decide)) Dig.nil)) (by omega) ?_
  exact dif_inv (val_take_succ m i) (val_take_succ n i) (val_concat ho) (pw i) (brw_spec b1 (by omega)) h
def mulR (n:List Nat) (x i:Nat):Nat→Nat→Nat→List Nat→Nat×List Nat
 | 0,_,c,out=>(c,out)
 | k+1,j,c,out=>mulR n x i k (j+1) ((c+(x*n.getD j 0+out.getD (i+j) 0))/4294967296) (out.set (i+j) ((c+(x*n.getD j 0+out.getD (i+j) 0))%4294967296))
def mulL (n:List Nat):List Nat→Nat→List Nat→List Nat
 | [],_,out=>out
 | x::m,i,out=>mulL n m (i+1) ((mulR n x i n.length 0 0 out).2.set (i+n.length) ((mulR n x i n.length 0 0 out).1))
theorem val_set {l:List Nat} {i v:Nat} (h:i<l.length):val (l.set i v)+4294967296^i*l.getD i 0=val l+4294967296^i*v:=by
 induction l generalizing i with
 | nil=>simp at h
 | cons d l ih=>
  cases i with
  | zero=>simp [val];omega
  | succ i=>
   have:=ih (i:=i) (by simpa using h)
   simp only [List.set_cons_succ,val,qE,qY]
   have e1:4294967296^i*4294967296*l.getD i 0=4294967296*(4294967296^i*l.getD i 0):=by rw [xQ (4294967296^i),qW]
   have e2:4294967296^i*4294967296*v=4294967296*(4294967296^i*v):=by rw [xQ (4294967296^i),qW]
   omega
theorem Dig.set {l:List Nat} {i v:Nat} (h:Dig l) (hv:v<4294967296):Dig (l.set i v):=by
 intro a ha
 rcases List.mem_or_eq_of_mem_set ha with e | e
 ·exact h a e
 ·rw [e];exact hv
theorem mulR_spec (n:List Nat) (hn:Dig n) (x i:Nat) (hx:x<4294967296):∀(k j c:Nat) (out:List Nat),c<4294967296→j+k=n.length→i+n.length<out.length→Dig out→
  (mulR n x i k j c out).1<4294967296∧(mulR n x i k j c out).2.length=out.length∧Dig (mulR n x i k j c out).2∧
  (∀t,i+n.length≤t→(mulR n x i k j c out).2.getD t 0=out.getD t 0)∧
  val (mulR n x i k j c out).2+4294967296^(i+n.length)*(mulR n x i k j c out).1+4294967296^i*(x*val (n.take j))=val out+4294967296^(i+j)*c+4294967296^i*(x*val n):=by
 intro k
 induction k with
 | zero=>
  intro j c out hc hj hl hd
  have hj:j=n.length:=by omega
  subst hj
  refine ⟨hc,rfl,hd,fun _ _=>rfl,?_⟩
  simp only [mulR,qC]
 | succ k ih=>
  intro j c out hc hj hl hd
  have b1:=hn.getD j
  have b2:=hd.getD (i+j)
  have hxy:x*n.getD j 0≤4294967295*4294967295:=Nat.mul_le_mul (by omega) (by omega)
  have hS:c+(x*n.getD j 0+out.getD (i+j) 0)<4294967296*4294967296:=by omega
  obtain ⟨h1,h2,h3,h4,h5⟩:=ih (j+1) ((c+(x*n.getD j 0+out.getD (i+j) 0))/4294967296) (out.set (i+j) ((c+(x*n.getD j 0+out.getD (i+j) 0))%4294967296)) (by omega) (by omega) (by simpa using hl)
   (hd.set (qT _ (by decide)))
  simp only [mulR]
  refine ⟨h1,by simpa using h2,h3,fun t ht=>?_,?_⟩
  ·rw [h4 t ht,qX,qP (by omega),qX]
  ·have hs:=val_set (l:=out) (i:=i+j) (v:=(c+(x*n.getD j 0+out.getD (i+j) 0))%4294967296) (by omega)
   rw [val_take_succ] at h5
   generalize mulR n x i k (j+1) ((c+(x*n.getD j 0+out.getD (i+j) 0))/4294967296) (out.set (i+j) ((c+(x*n.getD j 0+out.getD (i+j) 0))%4294967296))=R at*
   generalize val (out.set (i+j) ((c+(x*n.getD j 0+out.getD (i+j) 0))%4294967296))=V at*
   have e:c+(x*n.getD j 0+out.getD (i+j) 0)=(c+(x*n.getD j 0+out.getD (i+j) 0))%4294967296+4294967296*((c+(x*n.getD j 0+out.getD (i+j) 0))/4294967296):=by omega
   generalize (c+(x*n.getD j 0+out.getD (i+j) 0))%4294967296=u at*
   generalize (c+(x*n.getD j 0+out.getD (i+j) 0))/4294967296=v at*
   have e2:4294967296^(i+j)*(c+(x*n.getD j 0+out.getD (i+j) 0))=4294967296^(i+j)*(u+4294967296*v):=by rw [e]
   have e3:4294967296^(i+(j+1))*v=4294967296^(i+j)*(4294967296*v):=by rw [←Nat.add_assoc,qY,qW]
   have e4:4294967296^i*(x*(val (n.take j)+4294967296^j*n.getD j 0))=4294967296^i*(x*val (n.take j))+4294967296^(i+j)*(x*n.getD j 0):=by
    rw [qV,qV,Nat.pow_add,Nat.mul_left_comm x,qW]
   rw [e3,e4] at h5
   simp only [qV] at e2
   omega
theorem mulL_spec (n:List Nat) (hn:Dig n):∀(m:List Nat) (i:Nat) (out:List Nat),Dig m→Dig out→out.length=i+m.length+n.length→(∀t,i+n.length≤t→out.getD t 0=0)→
  (mulL n m i out).length=out.length∧Dig (mulL n m i out)∧val (mulL n m i out)=val out+4294967296^i*(val m*val n):=by
 intro m
 induction m with
 | nil=>intro i out _ hd _ _;simp [mulL,val,hd]
 | cons x m ih=>
  intro i out hm hd hl hz
  simp only [qB] at hl
  obtain ⟨h1,h2,h3,h4,h5⟩:=mulR_spec n hn x i hm.head n.length 0 0 out (by decide) (by omega) (by omega) hd
  simp only [mulL]
  generalize mulR n x i n.length 0 0 out=R at*
  have hz0:R.2.getD (i+n.length) 0=0:=(h4 _ (qA _)).trans (hz _ (qA _))
  have hs:=val_set (l:=R.2) (i:=i+n.length) (v:=R.1) (by omega)
  obtain ⟨g1,g2,g3⟩:=ih (i+1) (R.2.set (i+n.length) R.1) hm.tail (h3.set h1) (by simp;omega) (by
   intro t ht
   rw [qX,qP (by omega),←qX,h4 t (by omega)]
   exact hz t (by omega))
  refine ⟨by rw [g1];simpa using h2,g2,?_⟩
  rw [g3,val,Nat.add_mul,qV]
  rw [hz0] at hs
  simp only [List.take_zero,val,qG,qN] at h5 hs
  have e:4294967296^(i+1)*(val m*val n)=4294967296^i*(4294967296*val m*val n):=by rw [qY,qW,qW]
  omega
def POW (k:Nat):Nat:=4294967296^k
def BIG:Nat:=POW 1100
theorem canon_lenP {l:List Nat} {k:Nat} (h:Canon l) (hv:val l<POW k):l.length≤k:=by
 rcases xZ k l.length with h1 | h1
 ·exfalso
  have h2:=val_pos h.2 (by intro e;rw [e] at h1;simp at h1)
  have h3:4294967296^k≤4294967296^(l.length-1):=qU (by decide) (by omega)
  unfold POW at hv
  exact absurd (qH hv (Nat.le_trans h3 h2)) (Nat.lt_irrefl _)
 ·exact h1
theorem canon_len {l:List Nat} (h:Canon l) (hv:val l<BIG):l.length≤1100:=canon_lenP (k:=1100) h hv
theorem len_fitsP {l:List Nat} {k:Nat} (h:Dig l) (hl:l.length≤k):val l<POW k:=
 qH (val_lt h) (qU (by decide) hl)
theorem len_fits {l:List Nat} (h:Dig l) (hl:l.length≤1100):val l<BIG:=len_fitsP (k:=1100) h hl
theorem small_fitsP {n k:Nat} (hk:4≤k) (h:n<340282366920938463463374607431768211456):n<POW k:=
 qH h (show 4294967296^4≤4294967296^k from qU (by decide) hk)
theorem small_fits {n:Nat} (h:n<340282366920938463463374607431768211456):n<BIG:=small_fitsP (k:=1100) (by decide) h
end Go.Limb
namespace Go.Proofs.YtenboapacjlmoaaGreatDoor
open Nat renaming reduceEqDiff → qQ, reduceLeDiff → qJ, reduceAdd → qK, le_refl → qA, mul_one → qI, zero_add → qO
open List renaming take_of_length_le → qZ, getD_cons_succ → qE, getD_cons_zero → qS
open Int renaming toNat_natCast → qL
set_option linter.unusedSimpArgs false
set_option linter.unusedVariables false
open Go Go.AL Go.Proofs
set_option maxRecDepth 100000
def G:Glob:=⟨[(0,[.int .i64 7,.int .i64 11,.int .i64 13,.int .i64 17,.int .i64 19,.int .i64 23,.int .i64 29,.int .i64 31])],fun _ _ _ _ _=>False,fun _=>[]⟩
theorem mixed:Tryz.prog.follows .mixedOrders=true:=by kernel_rfl
def okS:List Nat:=[28,54,165]
def okB (f:Nat):Bool:=hasN okS f
theorem okB_all:(okS.all fun f=>okFn Tryz.prog f)=true:=by kernel_rfl
theorem okB_ok:∀f,okB f=true→okFn Tryz.prog f=true:=fun f h=>List.all_eq_true.1 okB_all f (hasN_mem _ _ h)
def r5_0:List COp:=[oP 2 (.box (.t 0)),oP 4 (.mov (.k (.vec [] 0 (some 0))))]
def r5_1:List COp:=[oP 9 (.load true 4 (.t 2)),mV 10 1,oP 11 (.call 15 [.t 9,.t 10]),oP 12 (.call 14 [.t 11]),oP 13 (.call 13 [.t 12]),mV 8 13,oP 14 (.ext (.t 8) 0),oP 15 (.ext (.t 8) 1),oP 16 (.ext (.t 8) 2),mV 5 14,mV 6 15,mV 7 16]
def r5_2:List COp:=[mV 17 5,mV 4 17]
def c5:CC:=(.seq (.reg r5_0 none) (.seq (.reg r5_1 none) (.seq (.reg r5_2 none) .ret)))
theorem comp5:CmpC Tryz.prog G Tryz.f5=some c5:=by kernel_rfl
theorem res5:Tryz.f5.results.toList=[(.tmp 4)]:=by kernel_rfl
def r6_0:List COp:=[oP 6 (.mov (.k (.vec [] 0 (some 0)))),oP 7 (.mov (kI 0))]
def r6_1:List COp:=[mV 13 0,mV 14 1,oP 15 (.call 16 [.t 13,.t 14]),mV 8 15]
def r6_2:List COp:=[mV 16 8,oP 17 (.bin .neq (.t 16) (kI 0))]
def r6_3:List COp:=[mV 18 8,oP 6 (.mov (.k (.vec [] 0 (some 0)))),mV 7 18]
def r6_4:List COp:=[mV 19 2,oP 20 (.bin .lss (.t 19) (kI 1))]
def r6_5:List COp:=[oP 6 (.mov (.k (.vec [] 0 (some 0)))),oP 7 (.mov (kI 1))]
def r6_6:List COp:=[mV 22 1,mV 23 2,oP 24 (.call 17 [.t 22,.t 23]),mV 21 24,oP 25 (.ext (.t 21) 0),oP 26 (.ext (.t 21) 1),mV 9 25,mV 10 26]
def r6_7:List COp:=[mV 27 10,oP 28 (.un .not (.t 27))]
def r6_8:List COp:=[oP 6 (.mov (.k (.vec [] 0 (some 0)))),oP 7 (.mov (kI 7))]
def r6_9:List COp:=[mV 30 9,mV 31 0,oP 32 (.len false (.t 31)),oP 33 (.call 17 [.t 30,.t 32]),mV 29 33,oP 34 (.ext (.t 29) 0),oP 35 (.ext (.t 29) 1),mV 11 34,mV 12 35]
def r6_10:List COp:=[mV 36 12,oP 37 (.un .not (.t 36))]
def r6_11:List COp:=[oP 6 (.mov (.k (.vec [] 0 (some 0)))),oP 7 (.mov (kI 7))]
def r6_12:List COp:=[mV 38 0,mV 39 9,oP 40 (.call 18 [.t 38,.t 39]),mV 6 40,oP 7 (.mov (kI 0))]
def c6:CC:=(.seq (.reg r6_0 none) (.seq (.seq (.reg r6_1 none) (.seq (.reg r6_2 none) (.cond (.t 17) (.seq (.reg r6_3 none) .ret) .skip))) (.seq (.seq (.reg r6_4 none) (.cond (.t 20) (.seq (.reg r6_5 none) .ret) .skip)) (.seq (.reg r6_6 none) (.seq (.seq (.reg r6_7 none) (.cond (.t 28) (.seq (.reg r6_8 none) .ret) .skip)) (.seq (.seq (.reg r6_9 none) (.seq (.reg r6_10 none) (.cond (.t 37) (.seq (.reg r6_11 none) .ret) .skip))) (.seq (.reg r6_12 none) .ret)))))))
theorem comp6:CmpC Tryz.prog G Tryz.f6=some c6:=by kernel_rfl
theorem res6:Tryz.f6.results.toList=[(.tmp 6),(.tmp 7)]:=by kernel_rfl
def r13_0:List COp:=[oP 2 (.mov (.k (.vec [] 0 (some 0)))),oP 3 (.mov (.k (.vec [] 0 (some 0)))),oP 4 (.mov (kI 0))]
def r13_1:List COp:=[mV 13 0,oP 14 (.call 32 [.t 13]),mV 5 14]
def r13_2:List COp:=[mV 15 5,oP 16 (.bin .neq (.t 15) (kI 0))]
def r13_3:List COp:=[mV 17 5,oP 2 (.mov (.k (.vec [] 0 (some 0)))),oP 3 (.mov (.k (.vec [] 0 (some 0)))),mV 4 17]
def r13_4:List COp:=[mV 18 0,oP 19 (.call 33 [.t 18]),oP 20 (.un .not (.t 19))]
def r13_5:List COp:=[oP 2 (.mov (.k (.vec [] 0 (some 0)))),oP 3 (.mov (.k (.vec [] 0 (some 0)))),oP 4 (.mov (kI 7))]
def r13_6:List COp:=[mV 21 0,oP 22 (.call 34 [.t 21]),mV 6 22]
def r13_7:List COp:=[mV 24 0,oP 25 (.len false (.t 24)),oP 26 (.call 35 [.t 25]),mV 23 26,oP 27 (.ext (.t 23) 0),oP 28 (.ext (.t 23) 1),mV 7 27,mV 8 28]
def r13_8:List COp:=[mV 30 6,oP 31 (.call 36 [.t 30]),mV 29 31,oP 32 (.ext (.t 29) 0),oP 33 (.ext (.t 29) 1),mV 9 32,mV 10 33]
def r13_9:List COp:=[mV 34 10,oP 35 (.un .not (.t 34))]
def r13_10:List COp:=[mV 37 6,oP 38 (.call 37 [.t 37]),mV 36 38,oP 39 (.ext (.t 36) 0),oP 40 (.ext (.t 36) 1),mV 11 39,mV 12 40]
def r13_11:List COp:=[mV 41 11,mV 42 7,mV 2 41,mV 3 42,oP 4 (.mov (kI 0))]
def r13_12:List COp:=[mV 43 6,mV 44 9,oP 45 (.call 38 [.t 43,.t 44]),mV 46 7,mV 47 9,oP 48 (.call 39 [.t 46,.t 47]),mV 6 45,mV 7 48]
def l13_0:CC:=(.block 1 (.seq (.reg r13_8 none) (.seq (.seq (.reg r13_9 none) (.cond (.t 35) (.seq (.reg r13_10 none) (.seq (.reg r13_11 none) .ret)) .skip)) (.reg r13_12 none))))
def c13:CC:=(.seq (.reg r13_0 none) (.seq (.seq (.reg r13_1 none) (.seq (.reg r13_2 none) (.cond (.t 16) (.seq (.reg r13_3 none) .ret) .skip))) (.seq (.seq (.reg r13_4 none) (.cond (.t 20) (.seq (.reg r13_5 none) .ret) .skip)) (.seq (.reg r13_6 none) (.seq (.reg r13_7 none) (.block 0 (.loop l13_0)))))))
theorem comp13:CmpC Tryz.prog G Tryz.f13=some c13:=by kernel_rfl
theorem res13:Tryz.f13.results.toList=[(.tmp 2),(.tmp 3),(.tmp 4)]:=by kernel_rfl
def r14_0:List COp:=[oP 2 (.mov (.k (.vec [] 0 (some 0))))]
def r14_1:List COp:=[mV 6 0,oP 7 (.call 40 [.t 6]),mV 5 7,oP 8 (.ext (.t 5) 0),oP 9 (.ext (.t 5) 1),mV 3 8,mV 4 9]
def r14_2:List COp:=[mV 10 3,mV 2 10]
def c14:CC:=(.seq (.reg r14_0 none) (.seq (.reg r14_1 none) (.seq (.reg r14_2 none) .ret)))
theorem comp14:CmpC Tryz.prog G Tryz.f14=some c14:=by kernel_rfl
theorem res14:Tryz.f14.results.toList=[(.tmp 2)]:=by kernel_rfl
def r15_0:List COp:=[oP 2 (.box (.t 0)),oP 4 (.mov (.k (.vec [] 0 (some 0))))]
def r15_1:List COp:=[oP 8 (.fld 2 (.t 2)),oP 9 (.load false 1 (.t 8)),oP 10 (.build [(.vec [] 0 (some 0)),(.int .i64 0)] [(0,(1,(.t 9)))]),oP 11 (.box (.t 10)),mV 5 11]
def r15_2:List COp:=[oP 12 (.fld 0 (.t 2)),oP 13 (.load false 1 (.t 12)),oP 14 (.conv .i64 (.t 13)),mV 15 1,oP 16 (.bin .rem (.t 14) (.t 15)),oP 17 (.bin .add (kI 1) (.t 16)),mV 6 17]
def r15_3:List COp:=[oP 7 (.mov (.k (.vec [] 0 (some 0))))]
def r15_4:List COp:=[oP 18 (.fld 1 (.t 2)),oP 19 (.load false 1 (.t 18)),oP 20 (.bin .rem (.t 19) (.k (.int .u8 8)))]
def r15_5:List COp:=[oP 25 (.bin .eql (.t 20) (.k (.int .u8 0))),mV 24 25]
def r15_6:List COp:=[oP 26 (.bin .eql (.t 20) (.k (.int .u8 1))),mV 24 26]
def r15_7:List COp:=[oP 27 (.bin .eql (.t 20) (.k (.int .u8 2))),mV 24 27]
def r15_8:List COp:=[oP 28 (.bin .eql (.t 20) (.k (.int .u8 3))),mV 24 28]
def r15_9:List COp:=[mV 29 5,mV 30 6,oP 31 (.call 41 [.t 29,.t 30]),mV 7 31]
def r15_10:List COp:=[oP 33 (.bin .eql (.t 20) (.k (.int .u8 4))),mV 32 33]
def r15_11:List COp:=[mV 34 6,oP 35 (.call 42 [.t 34,(.k (.bool false))]),mV 7 35]
def r15_12:List COp:=[mV 36 7,oP 37 (.idx 1 (.t 36) (kI 0)),oP 38 (.load false 1 (.t 37)),oP 39 (.idx 1 (.t 38) (kI 0)),oP 40 (.load false 1 (.t 39)),mV 41 5,oP 42 (.call 43 [.t 41,(kI 3)]),oP 43 (.bin .add (.t 40) (.t 42)),oP 44 (.idx 1 (.t 38) (kI 0)),sT (.store 1 (.t 44) (.t 43))]
def r15_13:List COp:=[oP 46 (.bin .eql (.t 20) (.k (.int .u8 5))),mV 45 46]
def r15_14:List COp:=[mV 47 6,oP 48 (.call 42 [.t 47,(.k (.bool true))]),mV 7 48]
def r15_15:List COp:=[mV 49 7,mV 50 6,oP 51 (.bin .sub (.t 50) (kI 1)),oP 52 (.idx 1 (.t 49) (.t 51)),oP 53 (.load false 1 (.t 52)),mV 54 6,oP 55 (.bin .sub (.t 54) (kI 1)),oP 56 (.idx 1 (.t 53) (.t 55)),oP 57 (.load false 1 (.t 56)),mV 58 5,oP 59 (.call 43 [.t 58,(kI 2)]),oP 60 (.bin .add (.t 57) (.t 59)),oP 61 (.idx 1 (.t 53) (.t 55)),sT (.store 1 (.t 61) (.t 60))]
def r15_16:List COp:=[oP 63 (.bin .eql (.t 20) (.k (.int .u8 6))),mV 62 63]
def r15_17:List COp:=[mV 64 5,mV 65 6,oP 66 (.call 44 [.t 64,.t 65,(kI 9)]),mV 7 66]
def r15_18:List COp:=[mV 21 5,mV 22 6,oP 23 (.call 44 [.t 21,.t 22,(kI 1)]),mV 7 23]
def r15_19:List COp:=[mV 67 7,oP 68 (.call 45 [.t 67]),oP 69 (.un .not (.t 68))]
def r15_20:List COp:=[mV 70 5,mV 71 6,oP 72 (.call 44 [.t 70,.t 71,(kI 2)]),mV 4 72]
def r15_21:List COp:=[mV 73 7,mV 4 73]
def c15:CC:=(.seq (.reg r15_0 none) (.seq (.reg r15_1 none) (.seq (.reg r15_2 none) (.seq (.reg r15_3 none) (.seq (.seq (.reg r15_4 none) (.block 0 (.seq (.seq (.reg r15_5 none) (.cond (.t 24) .skip (.seq (.reg r15_6 none) (.cond (.t 24) .skip (.seq (.reg r15_7 none) (.cond (.t 24) .skip (.reg r15_8 none))))))) (.cond (.t 24) (.reg r15_9 none) (.seq (.reg r15_10 none) (.cond (.t 32) (.seq (.reg r15_11 none) (.reg r15_12 (some [(2,6),(4,6)]))) (.seq (.reg r15_13 none) (.cond (.t 45) (.seq (.reg r15_14 none) (.reg r15_15 (some [(4,10),(8,10)]))) (.seq (.reg r15_16 none) (.cond (.t 62) (.reg r15_17 none) (.reg r15_18 none))))))))))) (.seq (.seq (.reg r15_19 none) (.cond (.t 69) (.seq (.reg r15_20 none) .ret) .skip)) (.seq (.reg r15_21 none) .ret)))))))
theorem comp15:CmpC Tryz.prog G Tryz.f15=some c15:=by kernel_rfl
theorem res15:Tryz.f15.results.toList=[(.tmp 4)]:=by kernel_rfl
def r16_0:List COp:=[oP 4 (.mov (kI 0))]
def r16_1:List COp:=[mV 5 0,oP 6 (.call 46 [.t 5]),oP 7 (.un .not (.t 6))]
def r16_2:List COp:=[oP 4 (.mov (kI 6))]
def r16_3:List COp:=[mV 8 1,oP 9 (.bin .gtr (.t 8) (kI 9973)),mV 10 9,gU 11 10 false (.mov (.t 1)),gU 12 10 false (.call 47 [.t 11]),gU 13 10 false (.un .not (.t 12)),oP 14 (.pick (.t 10) (.k (.bool true)) (.t 13))]
def r16_4:List COp:=[oP 4 (.mov (kI 20))]
def r16_5:List COp:=[oP 4 (.mov (kI 0))]
def c16:CC:=(.seq (.reg r16_0 none) (.seq (.seq (.reg r16_1 none) (.cond (.t 7) (.seq (.reg r16_2 none) .ret) .skip)) (.seq (.seq (.reg r16_3 none) (.cond (.t 14) (.seq (.reg r16_4 none) .ret) .skip)) (.seq (.reg r16_5 none) .ret))))
theorem comp16:CmpC Tryz.prog G Tryz.f16=some c16:=by kernel_rfl
theorem res16:Tryz.f16.results.toList=[(.tmp 4)]:=by kernel_rfl
def r17_0:List COp:=[oP 4 (.mov (kI 0)),oP 5 (.mov (.k (.bool false)))]
def r17_1:List COp:=[oP 6 (.mov (kI 1))]
def r17_2:List COp:=[mV 7 1,oP 8 (.mov (kI 0))]
def r17_3:List COp:=[oP 9 (.bin .lss (.t 8) (.t 7))]
def r17_4:List COp:=[mV 10 6,mV 11 0,oP 12 (.bin .mul (.t 10) (.t 11)),mV 6 12]
def r17_5:List COp:=[mV 13 6,oP 14 (.bin .gtr (.t 13) (kI 2097152))]
def r17_6:List COp:=[oP 4 (.mov (kI 0)),oP 5 (.mov (.k (.bool false)))]
def r17_7:List COp:=[oP 15 (.bin .add (.t 8) (kI 1)),mV 8 15]
def l17_0:CC:=(.seq (.reg r17_3 none) (.seq (.cond (.t 9) .skip (.exit 0)) (.seq (.block 1 (.seq (.reg r17_4 none) (.seq (.reg r17_5 none) (.cond (.t 14) (.seq (.reg r17_6 none) .ret) .skip)))) (.reg r17_7 none))))
def r17_8:List COp:=[mV 16 6,mV 4 16,oP 5 (.mov (.k (.bool true)))]
def c17:CC:=(.seq (.reg r17_0 none) (.seq (.reg r17_1 none) (.seq (.seq (.reg r17_2 none) (.block 0 (.loop l17_0))) (.seq (.reg r17_8 none) .ret))))
theorem comp17:CmpC Tryz.prog G Tryz.f17=some c17:=by kernel_rfl
theorem res17:Tryz.f17.results.toList=[(.tmp 4),(.tmp 5)]:=by kernel_rfl
def r18_0:List COp:=[oP 4 (.mov (.k (.vec [] 0 (some 0))))]
def r18_1:List COp:=[mV 16 0,mV 17 1,oP 18 (.call 48 [.t 16,.t 17]),mV 15 18,oP 19 (.ext (.t 15) 0),oP 20 (.ext (.t 15) 1),mV 5 19,mV 6 20]
def r18_2:List COp:=[mV 21 1,oP 22 (.mksl 1 8 [(.int .i64 0)] (.t 21) (.t 21)),mV 7 22]
def r18_3:List COp:=[mV 23 0,oP 24 (.len false (.t 23)),oP 25 (.mksl 1 8 [(.int .i64 0)] (.t 24) (.t 24)),mV 8 25]
def r18_4:List COp:=[mV 26 0,oP 27 (.len false (.t 26)),oP 28 (.mksl 1 8 [(.int .i64 0)] (.t 27) (.t 27)),mV 9 28]
def r18_5:List COp:=[oP 10 (.mov (kI 0))]
def r18_6:List COp:=[mV 29 7,mV 30 10,oP 31 (.idx 1 (.t 29) (.t 30)),oP 32 (.load false 1 (.t 31)),oP 33 (.bin .add (.t 32) (kI 1)),oP 34 (.idx 1 (.t 29) (.t 30)),sT (.store 1 (.t 34) (.t 33))]
def r18_7:List COp:=[mV 35 5,oP 36 (.len false (.t 35)),oP 37 (.mov (kI 0))]
def r18_8:List COp:=[oP 38 (.bin .lss (.t 37) (.t 36))]
def r18_9:List COp:=[mV 39 37,oP 40 (.idx 1 (.t 35) (.t 37)),oP 41 (.load false 1 (.t 40)),mV 11 39,mV 12 41]
def r18_10:List COp:=[mV 42 10,mV 43 9,mV 44 11,oP 45 (.idx 1 (.t 43) (.t 44)),oP 46 (.load false 1 (.t 45)),oP 47 (.bin .mul (kI 2) (.t 46)),oP 48 (.bin .add (.t 42) (.t 47)),mV 49 12,mV 50 11,oP 51 (.idx 1 (.t 49) (.t 50)),oP 52 (.load false 1 (.t 51)),oP 53 (.bin .add (.t 48) (.t 52)),mV 54 1,oP 55 (.bin .rem (.t 53) (.t 54)),mV 10 55]
def r18_11:List COp:=[mV 56 12,oP 57 (.len false (.t 56)),oP 58 (.mov (kI 0))]
def r18_12:List COp:=[oP 59 (.bin .lss (.t 58) (.t 57))]
def r18_13:List COp:=[mV 60 58,oP 61 (.idx 1 (.t 56) (.t 58)),oP 62 (.load false 1 (.t 61)),mV 13 60,mV 14 62]
def r18_14:List COp:=[mV 63 9,mV 64 13,mV 65 9,mV 66 13,oP 67 (.idx 1 (.t 65) (.t 66)),oP 68 (.load false 1 (.t 67)),mV 69 14,oP 70 (.bin .add (.t 68) (.t 69)),mV 71 1,oP 72 (.bin .rem (.t 70) (.t 71)),oP 73 (.idx 1 (.t 63) (.t 64)),sT (.store 1 (.t 73) (.t 72))]
def r18_15:List COp:=[oP 74 (.bin .add (.t 58) (kI 1)),mV 58 74]
def l18_1:CC:=(.seq (.reg r18_12 none) (.seq (.cond (.t 59) .skip (.exit 2)) (.seq (.block 3 (.seq (.reg r18_13 none) (.reg r18_14 none))) (.reg r18_15 none))))
def r18_16:List COp:=[mV 75 8,mV 76 11,oP 77 (.idx 1 (.t 75) (.t 76)),oP 78 (.load false 1 (.t 77)),oP 79 (.bin .add (.t 78) (kI 1)),oP 80 (.idx 1 (.t 75) (.t 76)),sT (.store 1 (.t 80) (.t 79))]
def r18_17:List COp:=[mV 81 8,mV 82 11,oP 83 (.idx 1 (.t 81) (.t 82)),oP 84 (.load false 1 (.t 83)),mV 85 1,oP 86 (.bin .lss (.t 84) (.t 85))]
def r18_18:List COp:=[mV 87 8,mV 88 11,oP 89 (.idx 1 (.t 87) (.t 88)),sT (.store 1 (.t 89) (kI 0))]
def r18_19:List COp:=[oP 90 (.bin .add (.t 37) (kI 1)),mV 37 90]
def l18_0:CC:=(.seq (.reg r18_8 none) (.seq (.cond (.t 38) .skip (.exit 0)) (.seq (.block 1 (.seq (.reg r18_9 none) (.seq (.reg r18_10 (some [(4,10)])) (.seq (.seq (.reg r18_11 none) (.block 2 (.loop l18_1))) (.seq (.seq (.reg r18_16 none) (.seq (.reg r18_17 none) (.cond (.t 86) (.goto 0) .skip))) (.reg r18_18 none)))))) (.reg r18_19 none))))
def r18_20:List COp:=[mV 91 7,mV 4 91]
def c18:CC:=(.seq (.reg r18_0 none) (.scope (.seq (.reg r18_1 none) (.seq (.reg r18_2 none) (.seq (.reg r18_3 none) (.seq (.reg r18_4 none) (.seq (.reg r18_5 none) (.seq (.label 0) (.seq (.reg r18_6 none) (.seq (.seq (.reg r18_7 none) (.block 0 (.loop l18_0))) (.seq (.reg r18_20 none) .ret)))))))))))
theorem comp18:CmpC Tryz.prog G Tryz.f18=some c18:=by kernel_rfl
theorem res18:Tryz.f18.results.toList=[(.tmp 4)]:=by kernel_rfl
def r26_0:List COp:=[oP 2 (.box (.t 0)),oP 3 (.box (.t 1)),oP 4 (.box (.k (.agg [(.bool false),(.vec [] 0 (some 0)),(.bool false),(.vec [] 0 (some 0))]))),oP 5 (.mov (.k (.bool false)))]
def r26_1:List COp:=[oP 7 (.load true 2 (.t 3)),oP 8 (.call 62 [.t 7]),oP 9 (.bin .eql (.t 8) (kI 0))]
def r26_2:List COp:=[oP 10 (.build [(.bool false),(.vec [] 0 (some 0)),(.bool false),(.vec [] 0 (some 0))] []),sT (.store 4 (.t 4) (.t 10)),oP 5 (.mov (.k (.bool false)))]
def r26_3:List COp:=[oP 11 (.load true 2 (.t 3)),oP 12 (.call 62 [.t 11]),oP 13 (.bin .lss (.t 12) (kI 0))]
def r26_4:List COp:=[oP 14 (.load true 2 (.t 2)),oP 15 (.call 63 [.t 14]),oP 16 (.load true 2 (.t 3)),oP 17 (.call 63 [.t 16]),sT (.store 2 (.t 2) (.t 15)),sT (.store 2 (.t 3) (.t 17))]
def r26_5:List COp:=[oP 18 (.load true 2 (.t 2)),oP 19 (.load true 2 (.t 3)),oP 20 (.call 64 [.t 18,.t 19]),oP 6 (.box (.k (.agg [(.bool false),(.vec [] 0 (some 0))]))),sT (.store 2 (.t 6) (.t 20))]
def r26_6:List COp:=[oP 21 (.load true 2 (.t 2)),oP 22 (.load true 2 (.t 6)),oP 23 (.call 65 [.t 21,.t 22]),oP 24 (.load true 2 (.t 3)),oP 25 (.load true 2 (.t 6)),oP 26 (.call 65 [.t 24,.t 25]),oP 27 (.build [(.bool false),(.vec [] 0 (some 0)),(.bool false),(.vec [] 0 (some 0))] [(0,(2,(.t 23))),(2,(2,(.t 26)))]),sT (.store 4 (.t 4) (.t 27)),oP 5 (.mov (.k (.bool true)))]
def c26:CC:=(.seq (.reg r26_0 none) (.seq (.seq (.reg r26_1 none) (.cond (.t 9) (.seq (.reg r26_2 none) .ret) .skip)) (.seq (.seq (.reg r26_3 none) (.cond (.t 13) (.reg r26_4 (some [(0,2),(1,2)])) .skip)) (.seq (.reg r26_5 none) (.seq (.reg r26_6 (some [(0,1),(0,3),(1,3),(2,3),(0,4),(1,4),(2,4),(3,4)])) .ret)))))
theorem comp26:CmpC Tryz.prog G Tryz.f26=some c26:=by kernel_rfl
theorem res26:Tryz.f26.results.toList=[(.cell 4 39),(.tmp 5)]:=by kernel_rfl
def r27_0:List COp:=[oP 2 (.box (.k (.agg [(.bool false),(.vec [] 0 (some 0))])))]
def r27_1:List COp:=[mV 3 0,oP 4 (.bin .lss (.t 3) (kI 0))]
def r27_2:List COp:=[mV 5 0,oP 6 (.conv .u64 (.t 5)),oP 7 (.un .neg (.t 6)),oP 8 (.call 66 [(.k (.bool true)),.t 7]),sT (.store 2 (.t 2) (.t 8))]
def r27_3:List COp:=[mV 9 0,oP 10 (.conv .u64 (.t 9)),oP 11 (.call 66 [(.k (.bool false)),.t 10]),sT (.store 2 (.t 2) (.t 11))]
def c27:CC:=(.seq (.reg r27_0 none) (.seq (.seq (.reg r27_1 none) (.cond (.t 4) (.seq (.reg r27_2 none) .ret) .skip)) (.seq (.reg r27_3 none) .ret)))
theorem comp27:CmpC Tryz.prog G Tryz.f27=some c27:=by kernel_rfl
theorem res27:Tryz.f27.results.toList=[(.cell 2 37)]:=by kernel_rfl
def r32_0:List COp:=[oP 2 (.mov (kI 0))]
def r32_1:List COp:=[mV 6 0,oP 7 (.call 71 [.t 6]),mV 5 7,oP 8 (.ext (.t 5) 0),oP 9 (.ext (.t 5) 1),mV 3 8,mV 4 9]
def r32_2:List COp:=[mV 11 4,oP 12 (.un .not (.t 11)),mV 13 12,gU 14 13 false (.mov (.t 3)),gU 15 13 false (.bin .gtr (.t 14) (kI 8)),oP 16 (.pick (.t 13) (.k (.bool true)) (.t 15)),mV 10 16]
def r32_3:List COp:=[oP 2 (.mov (kI 3))]
def r32_4:List COp:=[mV 18 0,oP 19 (.call 72 [.t 18]),oP 20 (.un .not (.t 19)),mV 17 20]
def r32_5:List COp:=[oP 2 (.mov (kI 4))]
def r32_6:List COp:=[mV 22 0,oP 23 (.call 73 [.t 22]),oP 24 (.un .not (.t 23)),mV 21 24]
def r32_7:List COp:=[oP 2 (.mov (kI 5))]
def r32_8:List COp:=[oP 2 (.mov (kI 0))]
def c32:CC:=(.seq (.reg r32_0 none) (.seq (.reg r32_1 none) (.seq (.block 0 (.seq (.reg r32_2 none) (.cond (.t 10) (.seq (.reg r32_3 none) .ret) (.seq (.reg r32_4 none) (.cond (.t 17) (.seq (.reg r32_5 none) .ret) (.seq (.reg r32_6 none) (.cond (.t 21) (.seq (.reg r32_7 none) .ret) .skip))))))) (.seq (.reg r32_8 none) .ret))))
theorem comp32:CmpC Tryz.prog G Tryz.f32=some c32:=by kernel_rfl
theorem res32:Tryz.f32.results.toList=[(.tmp 2)]:=by kernel_rfl
def r33_0:List COp:=[oP 2 (.mov (.k (.bool false)))]
def r33_1:List COp:=[mV 3 0,oP 4 (.call 75 [.t 3]),oP 5 (.call 27 [(kI 10000)]),oP 6 (.call 74 [.t 4,.t 5]),oP 7 (.bin .leq (.t 6) (kI 0)),mV 2 7]
def c33:CC:=(.seq (.reg r33_0 none) (.seq (.reg r33_1 none) .ret))
theorem comp33:CmpC Tryz.prog G Tryz.f33=some c33:=by kernel_rfl
theorem res33:Tryz.f33.results.toList=[(.tmp 2)]:=by kernel_rfl
def r34_0:List COp:=[oP 2 (.mov (.k (.vec [] 0 (some 0))))]
def r34_1:List COp:=[mV 7 0,oP 8 (.len false (.t 7)),oP 9 (.mksl 1 24 [(.vec [] 0 (some 0))] (.t 8) (.t 8)),mV 3 9]
def r34_2:List COp:=[mV 10 0,oP 11 (.len false (.t 10)),oP 12 (.mov (kI 0))]
def r34_3:List COp:=[oP 13 (.bin .lss (.t 12) (.t 11))]
def r34_4:List COp:=[mV 14 12,mV 4 14]
def r34_5:List COp:=[mV 15 0,mV 16 4,oP 17 (.idx 1 (.t 15) (.t 16)),oP 18 (.load false 1 (.t 17)),oP 19 (.len false (.t 18)),oP 20 (.mov (kI 0))]
def r34_6:List COp:=[oP 21 (.bin .lss (.t 20) (.t 19))]
def r34_7:List COp:=[oP 22 (.idx 2 (.t 18) (.t 20)),oP 23 (.load true 2 (.t 22)),oP 6 (.box (.k (.agg [(.bool false),(.vec [] 0 (some 0))]))),sT (.store 2 (.t 6) (.t 23))]
def r34_8:List COp:=[mV 24 3,mV 25 4,mV 26 3,mV 27 4,oP 28 (.idx 1 (.t 26) (.t 27)),oP 29 (.load false 1 (.t 28)),oP 30 (.load true 2 (.t 6)),oP 31 (.call 76 [.t 30]),oP 32 (.bsl 1 2 [(.bool false),(.vec [] 0 (some 0))] [(0,(2,(.t 31)))]),oP 33 (.append 2 32 (.t 29) (.t 32)),oP 34 (.idx 1 (.t 24) (.t 25)),sT (.store 1 (.t 34) (.t 33))]
def r34_9:List COp:=[oP 35 (.bin .add (.t 20) (kI 1)),mV 20 35]
def l34_1:CC:=(.seq (.reg r34_6 none) (.seq (.cond (.t 21) .skip (.exit 2)) (.seq (.block 3 (.seq (.reg r34_7 none) (.reg r34_8 (some [(5,6),(5,7),(5,8)])))) (.reg r34_9 none))))
def r34_10:List COp:=[oP 36 (.bin .add (.t 12) (kI 1)),mV 12 36]
def l34_0:CC:=(.seq (.reg r34_3 none) (.seq (.cond (.t 13) .skip (.exit 0)) (.seq (.block 1 (.seq (.reg r34_4 none) (.seq (.reg r34_5 none) (.block 2 (.loop l34_1))))) (.reg r34_10 none))))
def r34_11:List COp:=[mV 37 3,mV 2 37]
def c34:CC:=(.seq (.reg r34_0 none) (.seq (.reg r34_1 none) (.seq (.seq (.reg r34_2 none) (.block 0 (.loop l34_0))) (.seq (.reg r34_11 none) .ret))))
theorem comp34:CmpC Tryz.prog G Tryz.f34=some c34:=by kernel_rfl
theorem res34:Tryz.f34.results.toList=[(.tmp 2)]:=by kernel_rfl
def r35_0:List COp:=[oP 2 (.mov (.k (.vec [] 0 (some 0)))),oP 3 (.mov (.k (.bool false)))]
def r35_1:List COp:=[mV 6 0,oP 7 (.bin .lss (.t 6) (kI 1)),mV 8 7,gU 9 8 false (.mov (.t 0)),gU 10 8 false (.bin .gtr (.t 9) (kI 16)),oP 11 (.pick (.t 8) (.k (.bool true)) (.t 10))]
def r35_2:List COp:=[oP 2 (.mov (.k (.vec [] 0 (some 0)))),oP 3 (.mov (.k (.bool false)))]
def r35_3:List COp:=[mV 12 0,mV 13 0,oP 14 (.call 77 [.t 12,.t 13]),mV 4 14]
def r35_4:List COp:=[mV 15 4,oP 16 (.len false (.t 15)),oP 17 (.mov (kI 0))]
def r35_5:List COp:=[oP 18 (.bin .lss (.t 17) (.t 16))]
def r35_6:List COp:=[mV 19 17,mV 5 19]
def r35_7:List COp:=[mV 20 4,mV 21 5,oP 22 (.idx 1 (.t 20) (.t 21)),oP 23 (.load false 1 (.t 22)),mV 24 5,oP 25 (.call 27 [(kI 1)]),oP 26 (.idx 2 (.t 23) (.t 24)),sT (.store 2 (.t 26) (.t 25))]
def r35_8:List COp:=[oP 27 (.bin .add (.t 17) (kI 1)),mV 17 27]
def l35_0:CC:=(.seq (.reg r35_5 none) (.seq (.cond (.t 18) .skip (.exit 0)) (.seq (.block 1 (.seq (.reg r35_6 none) (.reg r35_7 (some [(3,5)])))) (.reg r35_8 none))))
def r35_9:List COp:=[mV 28 4,mV 2 28,oP 3 (.mov (.k (.bool true)))]
def c35:CC:=(.seq (.reg r35_0 none) (.seq (.seq (.reg r35_1 none) (.cond (.t 11) (.seq (.reg r35_2 none) .ret) .skip)) (.seq (.reg r35_3 none) (.seq (.seq (.reg r35_4 none) (.block 0 (.loop l35_0))) (.seq (.reg r35_9 none) .ret)))))
theorem comp35:CmpC Tryz.prog G Tryz.f35=some c35:=by kernel_rfl
theorem res35:Tryz.f35.results.toList=[(.tmp 2),(.tmp 3)]:=by kernel_rfl
def r36_0:List COp:=[oP 2 (.mov (.k (.vec [] 0 (some 0)))),oP 3 (.mov (.k (.bool false)))]
def r36_1:List COp:=[mV 11 0,oP 12 (.call 78 [.t 11]),mV 10 12,oP 13 (.ext (.t 10) 0),oP 14 (.ext (.t 10) 1),mV 4 13,mV 5 14]
def r36_2:List COp:=[mV 16 0,oP 17 (.len false (.t 16)),oP 18 (.call 35 [.t 17]),mV 15 18,oP 19 (.ext (.t 15) 0),oP 20 (.ext (.t 15) 1),mV 6 19,mV 7 20]
def r36_3:List COp:=[mV 21 0,oP 22 (.len false (.t 21)),oP 23 (.mov (kI 0))]
def r36_4:List COp:=[oP 24 (.bin .lss (.t 23) (.t 22))]
def r36_5:List COp:=[mV 25 23,mV 8 25]
def r36_6:List COp:=[mV 26 8,oP 27 (.bin .sub (.t 26) (kI 1)),mV 9 27]
def r36_7:List COp:=[mV 28 9,oP 29 (.bin .geq (.t 28) (kI 0))]
def r36_8:List COp:=[mV 32 0,mV 33 4,mV 34 8,mV 35 9,oP 36 (.call 79 [.t 32,.t 33,.t 34,.t 35]),oP 37 (.un .not (.t 36))]
def r36_9:List COp:=[mV 38 6,mV 39 9,oP 40 (.idx 1 (.t 38) (.t 39)),oP 41 (.load false 1 (.t 40)),mV 42 8,mV 43 0,mV 44 8,mV 45 9,oP 46 (.call 82 [.t 43,.t 44,.t 45]),mV 47 4,mV 48 9,oP 49 (.bin .add (.t 48) (kI 1)),oP 50 (.call 83 [.t 47,.t 49]),oP 51 (.call 81 [.t 46,.t 50]),oP 52 (.call 80 [.t 51]),oP 53 (.call 63 [.t 52]),oP 54 (.idx 2 (.t 41) (.t 42)),sT (.store 2 (.t 54) (.t 53))]
def r36_10:List COp:=[mV 55 6,mV 2 55,oP 3 (.mov (.k (.bool true)))]
def r36_11:List COp:=[mV 30 9,oP 31 (.bin .sub (.t 30) (kI 1)),mV 9 31]
def l36_1:CC:=(.seq (.seq (.reg r36_7 none) (.cond (.t 29) .skip (.exit 2))) (.seq (.block 3 (.seq (.reg r36_8 none) (.cond (.t 37) (.seq (.reg r36_9 (some [(3,8),(3,12),(3,13),(3,14),(3,15)])) (.seq (.reg r36_10 none) .ret)) .skip))) (.reg r36_11 none)))
def r36_12:List COp:=[mV 56 8,oP 57 (.bin .gtr (.t 56) (kI 0)),mV 58 57,gU 59 58 true (.mov (.t 0)),gU 60 58 true (.mov (.t 4)),gU 61 58 true (.mov (.t 8)),gU 62 58 true (.call 84 [.t 59,.t 60,.t 61]),gU 63 58 true (.un .not (.t 62)),oP 64 (.pick (.t 58) (.t 63) (.k (.bool false)))]
def r36_13:List COp:=[mV 65 6,mV 66 8,mV 67 6,mV 68 8,oP 69 (.bin .sub (.t 68) (kI 1)),mV 70 6,mV 71 8,oP 72 (.bin .sub (.t 71) (kI 1)),oP 73 (.idx 1 (.t 70) (.t 72)),oP 74 (.load false 1 (.t 73)),mV 75 6,mV 76 8,oP 77 (.idx 1 (.t 75) (.t 76)),oP 78 (.load false 1 (.t 77)),oP 79 (.idx 1 (.t 65) (.t 66)),sT (.store 1 (.t 79) (.t 74)),oP 80 (.idx 1 (.t 67) (.t 69)),sT (.store 1 (.t 80) (.t 78))]
def r36_14:List COp:=[mV 81 6,mV 2 81,oP 3 (.mov (.k (.bool true)))]
def r36_15:List COp:=[oP 82 (.bin .add (.t 23) (kI 1)),mV 23 82]
def l36_0:CC:=(.seq (.reg r36_4 none) (.seq (.cond (.t 24) .skip (.exit 0)) (.seq (.block 1 (.seq (.reg r36_5 none) (.seq (.seq (.reg r36_6 none) (.block 2 (.loop l36_1))) (.seq (.reg r36_12 none) (.cond (.t 64) (.seq (.reg r36_13 (some [(9,13)])) (.seq (.reg r36_14 none) .ret)) .skip))))) (.reg r36_15 none))))
def r36_16:List COp:=[oP 2 (.mov (.k (.vec [] 0 (some 0)))),oP 3 (.mov (.k (.bool false)))]
def c36:CC:=(.seq (.reg r36_0 none) (.seq (.reg r36_1 none) (.seq (.reg r36_2 none) (.seq (.seq (.reg r36_3 none) (.block 0 (.loop l36_0))) (.seq (.reg r36_16 none) .ret)))))
theorem comp36:CmpC Tryz.prog G Tryz.f36=some c36:=by kernel_rfl
theorem res36:Tryz.f36.results.toList=[(.tmp 2),(.tmp 3)]:=by kernel_rfl
def r37_0:List COp:=[oP 2 (.mov (.k (.vec [] 0 (some 0)))),oP 3 (.mov (.k (.bool false)))]
def r37_1:List COp:=[mV 13 0,oP 14 (.call 85 [.t 13]),mV 12 14,oP 15 (.ext (.t 12) 0),oP 16 (.ext (.t 12) 1),oP 17 (.ext (.t 12) 2),mV 4 15,mV 5 16,mV 6 17]
def r37_2:List COp:=[mV 18 6,oP 19 (.un .not (.t 18))]
def r37_3:List COp:=[oP 2 (.mov (.k (.vec [] 0 (some 0)))),oP 3 (.mov (.k (.bool false)))]
def r37_4:List COp:=[mV 20 4,oP 21 (.mksl 1 24 [(.vec [] 0 (some 0))] (.t 20) (.t 20)),mV 7 21]
def r37_5:List COp:=[mV 22 7,oP 23 (.len false (.t 22)),oP 24 (.mov (kI 0))]
def r37_6:List COp:=[oP 25 (.bin .lss (.t 24) (.t 23))]
def r37_7:List COp:=[mV 26 24,mV 8 26]
def r37_8:List COp:=[mV 27 7,mV 28 8,mV 29 5,oP 30 (.mksl 1 8 [(.int .i64 0)] (.t 29) (.t 29)),oP 31 (.idx 1 (.t 27) (.t 28)),sT (.store 1 (.t 31) (.t 30))]
def r37_9:List COp:=[mV 32 7,mV 33 8,oP 34 (.idx 1 (.t 32) (.t 33)),oP 35 (.load false 1 (.t 34)),oP 36 (.len false (.t 35)),oP 37 (.mov (kI 0))]
def r37_10:List COp:=[oP 38 (.bin .lss (.t 37) (.t 36))]
def r37_11:List COp:=[mV 39 37,mV 9 39]
def r37_12:List COp:=[mV 41 0,mV 42 8,oP 43 (.idx 1 (.t 41) (.t 42)),oP 44 (.load false 1 (.t 43)),mV 45 9,oP 46 (.idx 2 (.t 44) (.t 45)),oP 47 (.load true 2 (.t 46)),oP 48 (.call 86 [.t 47]),mV 40 48,oP 49 (.ext (.t 40) 0),oP 50 (.ext (.t 40) 1),mV 10 49,mV 11 50]
def r37_13:List COp:=[mV 51 11,oP 52 (.un .not (.t 51))]
def r37_14:List COp:=[oP 2 (.mov (.k (.vec [] 0 (some 0)))),oP 3 (.mov (.k (.bool false)))]
def r37_15:List COp:=[mV 53 7,mV 54 8,oP 55 (.idx 1 (.t 53) (.t 54)),oP 56 (.load false 1 (.t 55)),mV 57 9,mV 58 10,oP 59 (.idx 1 (.t 56) (.t 57)),sT (.store 1 (.t 59) (.t 58))]
def r37_16:List COp:=[oP 60 (.bin .add (.t 37) (kI 1)),mV 37 60]
def l37_1:CC:=(.seq (.reg r37_10 none) (.seq (.cond (.t 38) .skip (.exit 2)) (.seq (.block 3 (.seq (.reg r37_11 none) (.seq (.reg r37_12 none) (.seq (.seq (.reg r37_13 none) (.cond (.t 52) (.seq (.reg r37_14 none) .ret) .skip)) (.reg r37_15 none))))) (.reg r37_16 none))))
def r37_17:List COp:=[oP 61 (.bin .add (.t 24) (kI 1)),mV 24 61]
def l37_0:CC:=(.seq (.reg r37_6 none) (.seq (.cond (.t 25) .skip (.exit 0)) (.seq (.block 1 (.seq (.reg r37_7 none) (.seq (.reg r37_8 none) (.seq (.reg r37_9 none) (.block 2 (.loop l37_1)))))) (.reg r37_17 none))))
def r37_18:List COp:=[mV 62 7,mV 2 62,oP 3 (.mov (.k (.bool true)))]
def c37:CC:=(.seq (.reg r37_0 none) (.seq (.reg r37_1 none) (.seq (.seq (.reg r37_2 none) (.cond (.t 19) (.seq (.reg r37_3 none) .ret) .skip)) (.seq (.reg r37_4 none) (.seq (.seq (.reg r37_5 none) (.block 0 (.loop l37_0))) (.seq (.reg r37_18 none) .ret))))))
theorem comp37:CmpC Tryz.prog G Tryz.f37=some c37:=by kernel_rfl
theorem res37:Tryz.f37.results.toList=[(.tmp 2),(.tmp 3)]:=by kernel_rfl
def r38_0:List COp:=[oP 4 (.mov (.k (.vec [] 0 (some 0))))]
def r38_1:List COp:=[mV 8 1,oP 9 (.call 87 [.t 8]),mV 7 9,oP 10 (.ext (.t 7) 0),oP 11 (.ext (.t 7) 1),mV 5 10,mV 6 11]
def r38_2:List COp:=[mV 12 5,mV 13 0,oP 14 (.call 39 [.t 12,.t 13]),mV 15 1,oP 16 (.call 39 [.t 14,.t 15]),mV 4 16]
def c38:CC:=(.seq (.reg r38_0 none) (.seq (.reg r38_1 none) (.seq (.reg r38_2 none) .ret)))
theorem comp38:CmpC Tryz.prog G Tryz.f38=some c38:=by kernel_rfl
theorem res38:Tryz.f38.results.toList=[(.tmp 4)]:=by kernel_rfl
def r39_0:List COp:=[oP 4 (.mov (.k (.vec [] 0 (some 0))))]
def r39_1:List COp:=[mV 8 0,mV 9 1,oP 10 (.call 88 [.t 8,.t 9]),mV 7 10,oP 11 (.ext (.t 7) 0),oP 12 (.ext (.t 7) 1),mV 5 11,mV 6 12]
def r39_2:List COp:=[mV 13 5,mV 4 13]
def c39:CC:=(.seq (.reg r39_0 none) (.seq (.reg r39_1 none) (.seq (.reg r39_2 none) .ret)))
theorem comp39:CmpC Tryz.prog G Tryz.f39=some c39:=by kernel_rfl
theorem res39:Tryz.f39.results.toList=[(.tmp 4)]:=by kernel_rfl
def r40_0:List COp:=[oP 2 (.mov (.k (.vec [] 0 (some 0)))),oP 3 (.mov (.k (.bool false)))]
def r40_1:List COp:=[mV 9 0,oP 10 (.len false (.t 9)),oP 11 (.bin .lss (.t 10) (kI 1)),mV 12 11,gU 13 12 false (.mov (.t 0)),gU 14 12 false (.len false (.t 13)),gU 15 12 false (.bin .gtr (.t 14) (kI 16)),oP 16 (.pick (.t 12) (.k (.bool true)) (.t 15))]
def r40_2:List COp:=[oP 2 (.mov (.k (.vec [] 0 (some 0)))),oP 3 (.mov (.k (.bool false)))]
def r40_3:List COp:=[mV 17 0,oP 18 (.len false (.t 17)),oP 19 (.mov (kI 0))]
def r40_4:List COp:=[oP 20 (.bin .lss (.t 19) (.t 18))]
def r40_5:List COp:=[oP 21 (.idx 1 (.t 17) (.t 19)),oP 22 (.load false 1 (.t 21)),mV 5 22]
def r40_6:List COp:=[mV 23 5,oP 24 (.len false (.t 23)),oP 25 (.bin .lss (.t 24) (kI 1)),mV 26 25,gU 27 26 false (.mov (.t 5)),gU 28 26 false (.len false (.t 27)),gU 29 26 false (.bin .gtr (.t 28) (kI 16)),oP 30 (.pick (.t 26) (.k (.bool true)) (.t 29)),mV 31 30,gU 32 31 false (.mov (.t 5)),gU 33 31 false (.len false (.t 32)),gU 34 31 false (.mov (.t 0)),gU 35 31 false (.idx 1 (.t 34) (kI 0)),gU 36 31 false (.load false 1 (.t 35)),gU 37 31 false (.len false (.t 36)),gU 38 31 false (.bin .neq (.t 33) (.t 37)),oP 39 (.pick (.t 31) (.k (.bool true)) (.t 38))]
def r40_7:List COp:=[oP 2 (.mov (.k (.vec [] 0 (some 0)))),oP 3 (.mov (.k (.bool false)))]
def r40_8:List COp:=[oP 40 (.bin .add (.t 19) (kI 1)),mV 19 40]
def l40_0:CC:=(.seq (.reg r40_4 none) (.seq (.cond (.t 20) .skip (.exit 0)) (.seq (.block 1 (.seq (.reg r40_5 none) (.seq (.reg r40_6 none) (.cond (.t 39) (.seq (.reg r40_7 none) .ret) .skip)))) (.reg r40_8 none))))
def r40_9:List COp:=[mV 41 0,oP 42 (.len false (.t 41)),mV 43 0,oP 44 (.idx 1 (.t 43) (kI 0)),oP 45 (.load false 1 (.t 44)),oP 46 (.len false (.t 45)),oP 47 (.call 77 [.t 42,.t 46]),mV 6 47]
def r40_10:List COp:=[mV 48 0,oP 49 (.len false (.t 48)),oP 50 (.mov (kI 0))]
def r40_11:List COp:=[oP 51 (.bin .lss (.t 50) (.t 49))]
def r40_12:List COp:=[mV 52 50,mV 7 52]
def r40_13:List COp:=[mV 53 0,mV 54 7,oP 55 (.idx 1 (.t 53) (.t 54)),oP 56 (.load false 1 (.t 55)),oP 57 (.len false (.t 56)),oP 58 (.mov (kI 0))]
def r40_14:List COp:=[oP 59 (.bin .lss (.t 58) (.t 57))]
def r40_15:List COp:=[mV 60 58,mV 8 60]
def r40_16:List COp:=[mV 61 6,mV 62 7,oP 63 (.idx 1 (.t 61) (.t 62)),oP 64 (.load false 1 (.t 63)),mV 65 8,mV 66 0,mV 67 7,oP 68 (.idx 1 (.t 66) (.t 67)),oP 69 (.load false 1 (.t 68)),mV 70 8,oP 71 (.idx 1 (.t 69) (.t 70)),oP 72 (.load false 1 (.t 71)),oP 73 (.call 27 [.t 72]),oP 74 (.idx 2 (.t 64) (.t 65)),sT (.store 2 (.t 74) (.t 73))]
def r40_17:List COp:=[oP 75 (.bin .add (.t 58) (kI 1)),mV 58 75]
def l40_2:CC:=(.seq (.reg r40_14 none) (.seq (.cond (.t 59) .skip (.exit 4)) (.seq (.block 5 (.seq (.reg r40_15 none) (.reg r40_16 (some [(3,8),(3,11),(3,12)])))) (.reg r40_17 none))))
def r40_18:List COp:=[oP 76 (.bin .add (.t 50) (kI 1)),mV 50 76]
def l40_1:CC:=(.seq (.reg r40_11 none) (.seq (.cond (.t 51) .skip (.exit 2)) (.seq (.block 3 (.seq (.reg r40_12 none) (.seq (.reg r40_13 none) (.block 4 (.loop l40_2))))) (.reg r40_18 none))))
def r40_19:List COp:=[mV 77 6,mV 2 77,oP 3 (.mov (.k (.bool true)))]
def c40:CC:=(.seq (.reg r40_0 none) (.seq (.seq (.reg r40_1 none) (.cond (.t 16) (.seq (.reg r40_2 none) .ret) .skip)) (.seq (.seq (.reg r40_3 none) (.block 0 (.loop l40_0))) (.seq (.reg r40_9 none) (.seq (.seq (.reg r40_10 none) (.block 2 (.loop l40_1))) (.seq (.reg r40_19 none) .ret))))))
theorem comp40:CmpC Tryz.prog G Tryz.f40=some c40:=by kernel_rfl
theorem res40:Tryz.f40.results.toList=[(.tmp 2),(.tmp 3)]:=by kernel_rfl
def r41_0:List COp:=[oP 4 (.mov (.k (.vec [] 0 (some 0))))]
def r41_1:List COp:=[mV 8 0,mV 9 1,oP 10 (.call 44 [.t 8,.t 9,(kI 6)]),mV 5 10]
def r41_2:List COp:=[mV 11 5,oP 12 (.len false (.t 11)),oP 13 (.mov (kI 0))]
def r41_3:List COp:=[oP 14 (.bin .lss (.t 13) (.t 12))]
def r41_4:List COp:=[mV 15 13,mV 6 15]
def r41_5:List COp:=[oP 7 (.mov (kI 0))]
def r41_6:List COp:=[mV 16 7,mV 17 6,oP 18 (.bin .lss (.t 16) (.t 17))]
def r41_7:List COp:=[mV 21 5,mV 22 6,oP 23 (.idx 1 (.t 21) (.t 22)),oP 24 (.load false 1 (.t 23)),mV 25 7,mV 26 0,oP 27 (.call 89 [.t 26]),oP 28 (.bin .rem (.t 27) (kI 3)),oP 29 (.idx 1 (.t 24) (.t 25)),sT (.store 1 (.t 29) (.t 28))]
def r41_8:List COp:=[mV 30 5,mV 31 7,oP 32 (.idx 1 (.t 30) (.t 31)),oP 33 (.load false 1 (.t 32)),mV 34 6,mV 35 5,mV 36 6,oP 37 (.idx 1 (.t 35) (.t 36)),oP 38 (.load false 1 (.t 37)),mV 39 7,oP 40 (.idx 1 (.t 38) (.t 39)),oP 41 (.load false 1 (.t 40)),oP 42 (.idx 1 (.t 33) (.t 34)),sT (.store 1 (.t 42) (.t 41))]
def r41_9:List COp:=[mV 19 7,oP 20 (.bin .add (.t 19) (kI 1)),mV 7 20]
def l41_1:CC:=(.seq (.seq (.reg r41_6 none) (.cond (.t 18) .skip (.exit 2))) (.seq (.block 3 (.seq (.reg r41_7 (some [(3,6)])) (.reg r41_8 (some [(3,8),(3,11)])))) (.reg r41_9 none)))
def r41_10:List COp:=[oP 43 (.bin .add (.t 13) (kI 1)),mV 13 43]
def l41_0:CC:=(.seq (.reg r41_3 none) (.seq (.cond (.t 14) .skip (.exit 0)) (.seq (.block 1 (.seq (.reg r41_4 none) (.seq (.reg r41_5 none) (.block 2 (.loop l41_1))))) (.reg r41_10 none))))
def r41_11:List COp:=[mV 44 5,mV 4 44]
def c41:CC:=(.seq (.reg r41_0 none) (.seq (.reg r41_1 none) (.seq (.seq (.reg r41_2 none) (.block 0 (.loop l41_0))) (.seq (.reg r41_11 none) .ret))))
theorem comp41:CmpC Tryz.prog G Tryz.f41=some c41:=by kernel_rfl
theorem res41:Tryz.f41.results.toList=[(.tmp 4)]:=by kernel_rfl
def r42_0:List COp:=[oP 4 (.mov (.k (.vec [] 0 (some 0))))]
def r42_1:List COp:=[mV 8 0,oP 9 (.mksl 1 24 [(.vec [] 0 (some 0))] (.t 8) (.t 8)),mV 5 9]
def r42_2:List COp:=[mV 10 5,oP 11 (.len false (.t 10)),oP 12 (.mov (kI 0))]
def r42_3:List COp:=[oP 13 (.bin .lss (.t 12) (.t 11))]
def r42_4:List COp:=[mV 14 12,mV 6 14]
def r42_5:List COp:=[mV 15 5,mV 16 6,mV 17 0,oP 18 (.mksl 1 8 [(.int .i64 0)] (.t 17) (.t 17)),oP 19 (.idx 1 (.t 15) (.t 16)),sT (.store 1 (.t 19) (.t 18))]
def r42_6:List COp:=[mV 20 5,mV 21 6,oP 22 (.idx 1 (.t 20) (.t 21)),oP 23 (.load false 1 (.t 22)),mV 24 6,oP 25 (.idx 1 (.t 23) (.t 24)),sT (.store 1 (.t 25) (kI 2))]
def r42_7:List COp:=[mV 26 6,oP 27 (.bin .sub (.t 26) (kI 1)),mV 7 27]
def r42_8:List COp:=[mV 28 1,mV 29 28,gU 30 29 true (.mov (.t 6)),gU 31 29 true (.mov (.t 0)),gU 32 29 true (.bin .sub (.t 31) (kI 1)),gU 33 29 true (.bin .eql (.t 30) (.t 32)),oP 34 (.pick (.t 29) (.t 33) (.k (.bool false))),mV 35 34,gU 36 35 true (.mov (.t 0)),gU 37 35 true (.bin .gtr (.t 36) (kI 3)),oP 38 (.pick (.t 35) (.t 37) (.k (.bool false)))]
def r42_9:List COp:=[mV 39 6,oP 40 (.bin .sub (.t 39) (kI 2)),mV 7 40]
def r42_10:List COp:=[mV 41 7,oP 42 (.bin .geq (.t 41) (kI 0))]
def r42_11:List COp:=[mV 43 5,mV 44 6,oP 45 (.idx 1 (.t 43) (.t 44)),oP 46 (.load false 1 (.t 45)),mV 47 7,mV 48 5,mV 49 7,oP 50 (.idx 1 (.t 48) (.t 49)),oP 51 (.load false 1 (.t 50)),mV 52 6,oP 53 (.idx 1 (.t 46) (.t 47)),sT (.store 1 (.t 53) (.k (.int .i64 (-1)))),oP 54 (.idx 1 (.t 51) (.t 52)),sT (.store 1 (.t 54) (.k (.int .i64 (-1))))]
def r42_12:List COp:=[oP 55 (.bin .add (.t 12) (kI 1)),mV 12 55]
def l42_0:CC:=(.seq (.reg r42_3 none) (.seq (.cond (.t 13) .skip (.exit 0)) (.seq (.block 1 (.seq (.reg r42_4 none) (.seq (.reg r42_5 none) (.seq (.reg r42_6 none) (.seq (.reg r42_7 none) (.seq (.seq (.reg r42_8 none) (.cond (.t 38) (.reg r42_9 none) .skip)) (.seq (.reg r42_10 none) (.cond (.t 42) (.reg r42_11 (some [(3,8)])) .skip)))))))) (.reg r42_12 none))))
def r42_13:List COp:=[mV 56 5,mV 4 56]
def c42:CC:=(.seq (.reg r42_0 none) (.seq (.reg r42_1 none) (.seq (.seq (.reg r42_2 none) (.block 0 (.loop l42_0))) (.seq (.reg r42_13 none) .ret))))
theorem comp42:CmpC Tryz.prog G Tryz.f42=some c42:=by kernel_rfl
theorem res42:Tryz.f42.results.toList=[(.tmp 4)]:=by kernel_rfl
def r43_0:List COp:=[oP 4 (.mov (kI 0))]
def r43_1:List COp:=[mV 5 0,oP 6 (.call 89 [.t 5]),oP 7 (.conv .u8 (.t 6)),oP 8 (.conv .i64 (.t 7)),mV 9 1,oP 10 (.bin .rem (.t 8) (.t 9)),mV 4 10]
def c43:CC:=(.seq (.reg r43_0 none) (.seq (.reg r43_1 none) .ret))
theorem comp43:CmpC Tryz.prog G Tryz.f43=some c43:=by kernel_rfl
theorem res43:Tryz.f43.results.toList=[(.tmp 4)]:=by kernel_rfl
def r44_0:List COp:=[oP 6 (.mov (.k (.vec [] 0 (some 0))))]
def r44_1:List COp:=[mV 9 1,oP 10 (.mksl 1 24 [(.vec [] 0 (some 0))] (.t 9) (.t 9)),mV 7 10]
def r44_2:List COp:=[mV 11 7,oP 12 (.len false (.t 11)),oP 13 (.mov (kI 0))]
def r44_3:List COp:=[oP 14 (.bin .lss (.t 13) (.t 12))]
def r44_4:List COp:=[mV 15 13,mV 8 15]
def r44_5:List COp:=[mV 16 7,mV 17 8,mV 18 1,oP 19 (.mksl 1 8 [(.int .i64 0)] (.t 18) (.t 18)),oP 20 (.idx 1 (.t 16) (.t 17)),sT (.store 1 (.t 20) (.t 19))]
def r44_6:List COp:=[mV 21 7,mV 22 8,oP 23 (.idx 1 (.t 21) (.t 22)),oP 24 (.load false 1 (.t 23)),mV 25 8,mV 26 0,mV 27 2,oP 28 (.call 43 [.t 26,.t 27]),oP 29 (.bin .add (kI 1) (.t 28)),oP 30 (.idx 1 (.t 24) (.t 25)),sT (.store 1 (.t 30) (.t 29))]
def r44_7:List COp:=[oP 31 (.bin .add (.t 13) (kI 1)),mV 13 31]
def l44_0:CC:=(.seq (.reg r44_3 none) (.seq (.cond (.t 14) .skip (.exit 0)) (.seq (.block 1 (.seq (.reg r44_4 none) (.seq (.reg r44_5 none) (.reg r44_6 (some [(3,7)]))))) (.reg r44_7 none))))
def r44_8:List COp:=[mV 32 7,mV 6 32]
def c44:CC:=(.seq (.reg r44_0 none) (.seq (.reg r44_1 none) (.seq (.seq (.reg r44_2 none) (.block 0 (.loop l44_0))) (.seq (.reg r44_8 none) .ret))))
theorem comp44:CmpC Tryz.prog G Tryz.f44=some c44:=by kernel_rfl
theorem res44:Tryz.f44.results.toList=[(.tmp 6)]:=by kernel_rfl
def r45_0:List COp:=[oP 2 (.mov (.k (.bool false)))]
def r45_1:List COp:=[mV 4 0,oP 5 (.call 14 [.t 4]),mV 3 5]
def r45_2:List COp:=[mV 6 3,oP 7 (.call 32 [.t 6]),oP 8 (.bin .eql (.t 7) (kI 0)),mV 9 8,gU 10 9 true (.mov (.t 3)),gU 11 9 true (.call 75 [.t 10]),gU 12 9 true (.call 27 [(kI 10000)]),gU 13 9 true (.call 74 [.t 11,.t 12]),gU 14 9 true (.bin .leq (.t 13) (kI 0)),oP 15 (.pick (.t 9) (.t 14) (.k (.bool false))),mV 2 15]
def c45:CC:=(.seq (.reg r45_0 none) (.seq (.reg r45_1 none) (.seq (.reg r45_2 none) .ret)))
theorem comp45:CmpC Tryz.prog G Tryz.f45=some c45:=by kernel_rfl
theorem res45:Tryz.f45.results.toList=[(.tmp 2)]:=by kernel_rfl
def r46_0:List COp:=[oP 2 (.mov (.k (.bool false)))]
def r46_1:List COp:=[mV 11 0,oP 12 (.call 90 [.t 11]),oP 13 (.un .not (.t 12))]
def r46_2:List COp:=[oP 2 (.mov (.k (.bool false)))]
def r46_3:List COp:=[mV 14 0,mV 3 14]
def r46_4:List COp:=[oP 4 (.mov (kI 1))]
def r46_5:List COp:=[mV 15 3,oP 16 (.len false (.t 15)),oP 17 (.bin .gtr (.t 16) (kI 1))]
def r46_6:List COp:=[mV 18 3,oP 19 (.idx 1 (.t 18) (kI 0)),oP 20 (.load false 1 (.t 19)),oP 21 (.idx 1 (.t 20) (kI 0)),oP 22 (.load false 1 (.t 21)),mV 5 22]
def r46_7:List COp:=[mV 23 3,oP 24 (.call 91 [.t 23]),oP 25 (.un .not (.t 24))]
def r46_8:List COp:=[oP 2 (.mov (.k (.bool false)))]
def r46_9:List COp:=[mV 26 3,oP 27 (.len false (.t 26)),oP 28 (.bin .sub (.t 27) (kI 1)),oP 29 (.mksl 1 24 [(.vec [] 0 (some 0))] (.t 28) (.t 28)),mV 6 29]
def r46_10:List COp:=[mV 30 6,oP 31 (.len false (.t 30)),oP 32 (.mov (kI 0))]
def r46_11:List COp:=[oP 33 (.bin .lss (.t 32) (.t 31))]
def r46_12:List COp:=[mV 34 32,mV 7 34]
def r46_13:List COp:=[mV 35 3,mV 36 7,oP 37 (.bin .add (.t 36) (kI 1)),oP 38 (.idx 1 (.t 35) (.t 37)),oP 39 (.load false 1 (.t 38)),mV 8 39]
def r46_14:List COp:=[mV 40 6,mV 41 7,mV 42 6,oP 43 (.len false (.t 42)),oP 44 (.mksl 1 8 [(.int .i64 0)] (.t 43) (.t 43)),oP 45 (.idx 1 (.t 40) (.t 41)),sT (.store 1 (.t 45) (.t 44))]
def r46_15:List COp:=[mV 46 6,oP 47 (.len false (.t 46)),oP 48 (.mov (kI 0))]
def r46_16:List COp:=[oP 49 (.bin .lss (.t 48) (.t 47))]
def r46_17:List COp:=[mV 50 48,mV 9 50]
def r46_18:List COp:=[mV 51 6,mV 52 7,oP 53 (.idx 1 (.t 51) (.t 52)),oP 54 (.load false 1 (.t 53)),mV 55 9,mV 56 5,mV 57 8,mV 58 9,oP 59 (.bin .add (.t 58) (kI 1)),oP 60 (.idx 1 (.t 57) (.t 59)),oP 61 (.load false 1 (.t 60)),oP 62 (.bin .mul (.t 56) (.t 61)),mV 63 8,oP 64 (.idx 1 (.t 63) (kI 0)),oP 65 (.load false 1 (.t 64)),mV 66 3,oP 67 (.idx 1 (.t 66) (kI 0)),oP 68 (.load false 1 (.t 67)),mV 69 9,oP 70 (.bin .add (.t 69) (kI 1)),oP 71 (.idx 1 (.t 68) (.t 70)),oP 72 (.load false 1 (.t 71)),oP 73 (.bin .mul (.t 65) (.t 72)),oP 74 (.bin .sub (.t 62) (.t 73)),mV 75 4,oP 76 (.bin .quo (.t 74) (.t 75)),oP 77 (.idx 1 (.t 54) (.t 55)),sT (.store 1 (.t 77) (.t 76))]
def r46_19:List COp:=[oP 78 (.bin .add (.t 48) (kI 1)),mV 48 78]
def l46_2:CC:=(.seq (.reg r46_16 none) (.seq (.cond (.t 49) .skip (.exit 4)) (.seq (.block 5 (.seq (.reg r46_17 none) (.reg r46_18 (some [(3,10),(3,14),(10,14),(3,17),(10,17),(14,17),(3,21),(10,21),(14,21)])))) (.reg r46_19 none))))
def r46_20:List COp:=[oP 79 (.bin .add (.t 32) (kI 1)),mV 32 79]
def l46_1:CC:=(.seq (.reg r46_11 none) (.seq (.cond (.t 33) .skip (.exit 2)) (.seq (.block 3 (.seq (.reg r46_12 none) (.seq (.reg r46_13 none) (.seq (.reg r46_14 none) (.seq (.reg r46_15 none) (.block 4 (.loop l46_2))))))) (.reg r46_20 none))))
def r46_21:List COp:=[mV 80 3,oP 81 (.idx 1 (.t 80) (kI 1)),oP 82 (.load false 1 (.t 81)),oP 83 (.idx 1 (.t 82) (kI 0)),oP 84 (.load false 1 (.t 83)),mV 10 84]
def r46_22:List COp:=[mV 85 4,mV 86 6,oP 87 (.idx 1 (.t 86) (kI 0)),oP 88 (.load false 1 (.t 87)),oP 89 (.idx 1 (.t 88) (kI 0)),oP 90 (.load false 1 (.t 89)),oP 91 (.bin .mul (.t 85) (.t 90)),mV 92 10,mV 93 10,oP 94 (.bin .mul (.t 92) (.t 93)),oP 95 (.bin .add (.t 91) (.t 94)),oP 96 (.bin .mul (kI 4) (.t 95)),mV 97 5,oP 98 (.bin .mul (kI 3) (.t 97)),mV 99 5,oP 100 (.bin .mul (.t 98) (.t 99)),oP 101 (.bin .lss (.t 96) (.t 100))]
def r46_23:List COp:=[oP 2 (.mov (.k (.bool false)))]
def r46_24:List COp:=[mV 102 6,mV 103 5,mV 3 102,mV 4 103]
def l46_0:CC:=(.seq (.seq (.reg r46_5 none) (.cond (.t 17) .skip (.exit 0))) (.block 1 (.seq (.reg r46_6 none) (.seq (.seq (.reg r46_7 none) (.cond (.t 25) (.seq (.reg r46_8 none) .ret) .skip)) (.seq (.reg r46_9 none) (.seq (.seq (.reg r46_10 none) (.block 2 (.loop l46_1))) (.seq (.reg r46_21 none) (.seq (.seq (.reg r46_22 none) (.cond (.t 101) (.seq (.reg r46_23 none) .ret) .skip)) (.reg r46_24 none)))))))))
def r46_25:List COp:=[mV 104 3,oP 105 (.idx 1 (.t 104) (kI 0)),oP 106 (.load false 1 (.t 105)),oP 107 (.idx 1 (.t 106) (kI 0)),oP 108 (.load false 1 (.t 107)),oP 109 (.bin .gtr (.t 108) (kI 0)),mV 110 109,gU 111 110 true (.mov (.t 3)),gU 112 110 true (.idx 1 (.t 111) (kI 0)),gU 113 110 true (.load false 1 (.t 112)),gU 114 110 true (.idx 1 (.t 113) (kI 0)),gU 115 110 true (.load false 1 (.t 114)),gU 116 110 true (.bin .leq (.t 115) (kI 10000)),oP 117 (.pick (.t 110) (.t 116) (.k (.bool false))),mV 2 117]
def c46:CC:=(.seq (.reg r46_0 none) (.seq (.seq (.reg r46_1 none) (.cond (.t 13) (.seq (.reg r46_2 none) .ret) .skip)) (.seq (.reg r46_3 none) (.seq (.reg r46_4 none) (.seq (.block 0 (.loop l46_0)) (.seq (.reg r46_25 none) .ret))))))
theorem comp46:CmpC Tryz.prog G Tryz.f46=some c46:=by kernel_rfl
theorem res46:Tryz.f46.results.toList=[(.tmp 2)]:=by kernel_rfl
def r48_0:List COp:=[oP 4 (.mov (.k (.vec [] 0 (some 0)))),oP 5 (.mov (kI 0))]
def r48_1:List COp:=[mV 7 0,oP 8 (.call 93 [.t 7]),oP 9 (.un .not (.t 8))]
def r48_2:List COp:=[oP 4 (.mov (.k (.vec [] 0 (some 0)))),oP 5 (.mov (kI 3))]
def r48_3:List COp:=[mV 10 1,oP 11 (.call 94 [.t 10]),mV 6 11]
def r48_4:List COp:=[mV 12 6,oP 13 (.bin .neq (.t 12) (kI 0))]
def r48_5:List COp:=[mV 14 6,oP 4 (.mov (.k (.vec [] 0 (some 0)))),mV 5 14]
def r48_6:List COp:=[mV 15 0,mV 16 1,oP 17 (.call 95 [.t 15,.t 16]),mV 4 17,oP 5 (.mov (kI 0))]
def c48:CC:=(.seq (.reg r48_0 none) (.seq (.seq (.reg r48_1 none) (.cond (.t 9) (.seq (.reg r48_2 none) .ret) .skip)) (.seq (.seq (.reg r48_3 none) (.seq (.reg r48_4 none) (.cond (.t 13) (.seq (.reg r48_5 none) .ret) .skip))) (.seq (.reg r48_6 none) .ret))))
theorem comp48:CmpC Tryz.prog G Tryz.f48=some c48:=by kernel_rfl
theorem res48:Tryz.f48.results.toList=[(.tmp 4),(.tmp 5)]:=by kernel_rfl
def r62_0:List COp:=[oP 1 (.box (.t 0)),oP 2 (.mov (kI 0))]
def r62_1:List COp:=[oP 4 (.fld 1 (.t 1)),oP 5 (.load false 1 (.t 4)),oP 6 (.call 115 [.t 5]),oP 7 (.len false (.t 6)),oP 8 (.bin .eql (.t 7) (kI 0)),mV 3 8]
def r62_2:List COp:=[oP 2 (.mov (kI 0))]
def r62_3:List COp:=[oP 10 (.fld 0 (.t 1)),oP 11 (.load false 1 (.t 10)),mV 9 11]
def r62_4:List COp:=[oP 2 (.mov (.k (.int .i64 (-1))))]
def r62_5:List COp:=[oP 2 (.mov (kI 1))]
def c62:CC:=(.seq (.reg r62_0 none) (.seq (.block 0 (.seq (.reg r62_1 none) (.cond (.t 3) (.seq (.reg r62_2 none) .ret) (.seq (.reg r62_3 none) (.cond (.t 9) (.seq (.reg r62_4 none) .ret) .skip))))) (.seq (.reg r62_5 none) .ret)))
theorem comp62:CmpC Tryz.prog G Tryz.f62=some c62:=by kernel_rfl
theorem res62:Tryz.f62.results.toList=[(.tmp 2)]:=by kernel_rfl
def r63_0:List COp:=[oP 1 (.box (.t 0)),oP 2 (.box (.k (.agg [(.bool false),(.vec [] 0 (some 0))])))]
def r63_1:List COp:=[oP 3 (.fld 0 (.t 1)),oP 4 (.load false 1 (.t 3)),oP 5 (.un .not (.t 4)),oP 6 (.fld 1 (.t 1)),oP 7 (.load false 1 (.t 6)),oP 8 (.call 116 [.t 5,.t 7]),sT (.store 2 (.t 2) (.t 8))]
def c63:CC:=(.seq (.reg r63_0 none) (.seq (.reg r63_1 none) .ret))
theorem comp63:CmpC Tryz.prog G Tryz.f63=some c63:=by kernel_rfl
theorem res63:Tryz.f63.results.toList=[(.cell 2 37)]:=by kernel_rfl
def r64_0:List COp:=[oP 2 (.box (.t 0)),oP 3 (.box (.t 1)),oP 4 (.box (.k (.agg [(.bool false),(.vec [] 0 (some 0))])))]
def r64_1:List COp:=[oP 7 (.load true 2 (.t 2)),oP 8 (.call 117 [.t 7]),oP 9 (.load true 2 (.t 3)),oP 10 (.call 117 [.t 9]),oP 5 (.box (.k (.agg [(.bool false),(.vec [] 0 (some 0))]))),oP 6 (.box (.k (.agg [(.bool false),(.vec [] 0 (some 0))]))),sT (.store 2 (.t 5) (.t 8)),sT (.store 2 (.t 6) (.t 10))]
def r64_2:List COp:=[oP 11 (.load true 2 (.t 6)),oP 12 (.call 62 [.t 11]),oP 13 (.bin .neq (.t 12) (kI 0))]
def r64_3:List COp:=[oP 14 (.load true 2 (.t 6)),oP 15 (.load true 2 (.t 5)),oP 16 (.load true 2 (.t 6)),oP 17 (.call 118 [.t 15,.t 16]),sT (.store 2 (.t 5) (.t 14)),sT (.store 2 (.t 6) (.t 17))]
def l64_0:CC:=(.seq (.seq (.reg r64_2 none) (.cond (.t 13) .skip (.exit 0))) (.block 1 (.reg r64_3 (some [(0,1),(0,2),(1,2),(0,3)]))))
def r64_4:List COp:=[oP 18 (.load true 2 (.t 5)),sT (.store 2 (.t 4) (.t 18))]
def c64:CC:=(.seq (.reg r64_0 none) (.seq (.reg r64_1 (some [(0,2),(1,2),(0,4),(1,4),(2,4),(3,4),(0,5),(1,5),(2,5),(3,5),(4,5)])) (.seq (.block 0 (.loop l64_0)) (.seq (.reg r64_4 none) .ret))))
theorem comp64:CmpC Tryz.prog G Tryz.f64=some c64:=by kernel_rfl
theorem res64:Tryz.f64.results.toList=[(.cell 4 37)]:=by kernel_rfl
def r65_0:List COp:=[oP 2 (.box (.t 0)),oP 3 (.box (.t 1)),oP 4 (.box (.k (.agg [(.bool false),(.vec [] 0 (some 0))])))]
def r65_1:List COp:=[oP 9 (.load true 2 (.t 2)),oP 10 (.load true 2 (.t 3)),oP 11 (.call 119 [.t 9,.t 10]),mV 8 11,oP 12 (.ext (.t 8) 0),oP 13 (.ext (.t 8) 1),oP 14 (.ext (.t 8) 2),oP 5 (.box (.k (.agg [(.bool false),(.vec [] 0 (some 0))]))),oP 6 (.box (.k (.agg [(.bool false),(.vec [] 0 (some 0))]))),sT (.store 2 (.t 5) (.t 12)),sT (.store 2 (.t 6) (.t 13)),mV 7 14]
def r65_2:List COp:=[oP 15 (.load true 2 (.t 5)),sT (.store 2 (.t 4) (.t 15))]
def c65:CC:=(.seq (.reg r65_0 none) (.seq (.reg r65_1 none) (.seq (.reg r65_2 none) .ret)))
theorem comp65:CmpC Tryz.prog G Tryz.f65=some c65:=by kernel_rfl
theorem res65:Tryz.f65.results.toList=[(.cell 4 37)]:=by kernel_rfl
def r66_0:List COp:=[oP 4 (.box (.k (.agg [(.bool false),(.vec [] 0 (some 0))])))]
def r66_1:List COp:=[mV 5 0,mV 6 1,oP 7 (.conv .u32 (.t 6)),mV 8 1,oP 9 (.bin .shr (.t 8) (.k (.int .u64 32))),oP 10 (.conv .u32 (.t 9)),oP 11 (.bsl 2 1 [(.int .u32 0),(.int .u32 0)] [(0,(1,(.t 7))),(1,(1,(.t 10)))]),oP 12 (.call 116 [.t 5,.t 11]),sT (.store 2 (.t 4) (.t 12))]
def c66:CC:=(.seq (.reg r66_0 none) (.seq (.reg r66_1 none) .ret))
theorem comp66:CmpC Tryz.prog G Tryz.f66=some c66:=by kernel_rfl
theorem res66:Tryz.f66.results.toList=[(.cell 4 37)]:=by kernel_rfl
def r71_0:List COp:=[oP 2 (.mov (kI 0)),oP 3 (.mov (.k (.bool false)))]
def r71_1:List COp:=[mV 8 0,oP 9 (.call 85 [.t 8]),mV 7 9,oP 10 (.ext (.t 7) 0),oP 11 (.ext (.t 7) 1),oP 12 (.ext (.t 7) 2),mV 4 10,mV 5 11,mV 6 12]
def r71_2:List COp:=[mV 13 6,oP 14 (.un .not (.t 13)),mV 15 14,gU 16 15 false (.mov (.t 4)),gU 17 15 false (.mov (.t 5)),gU 18 15 false (.bin .neq (.t 16) (.t 17)),oP 19 (.pick (.t 15) (.k (.bool true)) (.t 18))]
def r71_3:List COp:=[oP 2 (.mov (kI 0)),oP 3 (.mov (.k (.bool false)))]
def r71_4:List COp:=[mV 20 4,mV 2 20,oP 3 (.mov (.k (.bool true)))]
def c71:CC:=(.seq (.reg r71_0 none) (.seq (.reg r71_1 none) (.seq (.seq (.reg r71_2 none) (.cond (.t 19) (.seq (.reg r71_3 none) .ret) .skip)) (.seq (.reg r71_4 none) .ret))))
theorem comp71:CmpC Tryz.prog G Tryz.f71=some c71:=by kernel_rfl
theorem res71:Tryz.f71.results.toList=[(.tmp 2),(.tmp 3)]:=by kernel_rfl
def r72_0:List COp:=[oP 2 (.mov (.k (.bool false)))]
def r72_1:List COp:=[mV 5 0,oP 6 (.len false (.t 5)),oP 7 (.mov (kI 0))]
def r72_2:List COp:=[oP 8 (.bin .lss (.t 7) (.t 6))]
def r72_3:List COp:=[mV 9 7,mV 3 9]
def r72_4:List COp:=[oP 4 (.mov (kI 0))]
def r72_5:List COp:=[mV 10 4,mV 11 3,oP 12 (.bin .lss (.t 10) (.t 11))]
def r72_6:List COp:=[mV 15 0,mV 16 3,oP 17 (.idx 1 (.t 15) (.t 16)),oP 18 (.load false 1 (.t 17)),mV 19 4,oP 20 (.idx 2 (.t 18) (.t 19)),oP 21 (.load true 2 (.t 20)),mV 22 0,mV 23 4,oP 24 (.idx 1 (.t 22) (.t 23)),oP 25 (.load false 1 (.t 24)),mV 26 3,oP 27 (.idx 2 (.t 25) (.t 26)),oP 28 (.load true 2 (.t 27)),oP 29 (.call 74 [.t 21,.t 28]),oP 30 (.bin .neq (.t 29) (kI 0))]
def r72_7:List COp:=[oP 2 (.mov (.k (.bool false)))]
def r72_8:List COp:=[mV 13 4,oP 14 (.bin .add (.t 13) (kI 1)),mV 4 14]
def l72_1:CC:=(.seq (.seq (.reg r72_5 none) (.cond (.t 12) .skip (.exit 2))) (.seq (.block 3 (.seq (.reg r72_6 (some [(3,10),(6,10),(3,13),(6,13)])) (.cond (.t 30) (.seq (.reg r72_7 none) .ret) .skip))) (.reg r72_8 none)))
def r72_9:List COp:=[oP 31 (.bin .add (.t 7) (kI 1)),mV 7 31]
def l72_0:CC:=(.seq (.reg r72_2 none) (.seq (.cond (.t 8) .skip (.exit 0)) (.seq (.block 1 (.seq (.reg r72_3 none) (.seq (.reg r72_4 none) (.block 2 (.loop l72_1))))) (.reg r72_9 none))))
def r72_10:List COp:=[oP 2 (.mov (.k (.bool true)))]
def c72:CC:=(.seq (.reg r72_0 none) (.seq (.seq (.reg r72_1 none) (.block 0 (.loop l72_0))) (.seq (.reg r72_10 none) .ret)))
theorem comp72:CmpC Tryz.prog G Tryz.f72=some c72:=by kernel_rfl
theorem res72:Tryz.f72.results.toList=[(.tmp 2)]:=by kernel_rfl
def r73_0:List COp:=[oP 2 (.mov (.k (.bool false)))]
def r73_1:List COp:=[mV 8 0,oP 9 (.call 78 [.t 8]),mV 7 9,oP 10 (.ext (.t 7) 0),oP 11 (.ext (.t 7) 1),mV 3 10,mV 4 11]
def r73_2:List COp:=[mV 12 4,oP 13 (.un .not (.t 12)),mV 14 13,gU 15 14 false (.mov (.t 0)),gU 16 14 false (.call 72 [.t 15]),gU 17 14 false (.un .not (.t 16)),oP 18 (.pick (.t 14) (.k (.bool true)) (.t 17))]
def r73_3:List COp:=[oP 2 (.mov (.k (.bool false)))]
def r73_4:List COp:=[mV 19 3,oP 20 (.len false (.t 19)),oP 21 (.mov (kI 0))]
def r73_5:List COp:=[oP 22 (.bin .lss (.t 21) (.t 20))]
def r73_6:List COp:=[oP 23 (.idx 2 (.t 19) (.t 21)),oP 24 (.load true 2 (.t 23)),oP 6 (.box (.k (.agg [(.bool false),(.vec [] 0 (some 0))]))),sT (.store 2 (.t 6) (.t 24))]
def r73_7:List COp:=[oP 25 (.load true 2 (.t 6)),oP 26 (.call 62 [.t 25]),oP 27 (.bin .leq (.t 26) (kI 0))]
def r73_8:List COp:=[oP 2 (.mov (.k (.bool false)))]
def r73_9:List COp:=[oP 28 (.bin .add (.t 21) (kI 1)),mV 21 28]
def l73_0:CC:=(.seq (.reg r73_5 none) (.seq (.cond (.t 22) .skip (.exit 0)) (.seq (.block 1 (.seq (.reg r73_6 none) (.seq (.reg r73_7 none) (.cond (.t 27) (.seq (.reg r73_8 none) .ret) .skip)))) (.reg r73_9 none))))
def r73_10:List COp:=[oP 2 (.mov (.k (.bool true)))]
def c73:CC:=(.seq (.reg r73_0 none) (.seq (.reg r73_1 none) (.seq (.seq (.reg r73_2 none) (.cond (.t 18) (.seq (.reg r73_3 none) .ret) .skip)) (.seq (.seq (.reg r73_4 none) (.block 0 (.loop l73_0))) (.seq (.reg r73_10 none) .ret)))))
theorem comp73:CmpC Tryz.prog G Tryz.f73=some c73:=by kernel_rfl
theorem res73:Tryz.f73.results.toList=[(.tmp 2)]:=by kernel_rfl
def r74_0:List COp:=[oP 2 (.box (.t 0)),oP 3 (.box (.t 1)),oP 4 (.mov (kI 0))]
def r74_1:List COp:=[oP 7 (.load true 2 (.t 2)),oP 8 (.call 62 [.t 7]),oP 9 (.load true 2 (.t 3)),oP 10 (.call 62 [.t 9]),mV 5 8,mV 6 10]
def r74_2:List COp:=[mV 11 5,mV 12 6,oP 13 (.bin .neq (.t 11) (.t 12))]
def r74_3:List COp:=[mV 14 5,mV 15 6,oP 16 (.bin .lss (.t 14) (.t 15))]
def r74_4:List COp:=[oP 4 (.mov (.k (.int .i64 (-1))))]
def r74_5:List COp:=[oP 4 (.mov (kI 1))]
def r74_6:List COp:=[mV 17 5,oP 18 (.fld 1 (.t 2)),oP 19 (.load false 1 (.t 18)),oP 20 (.call 115 [.t 19]),oP 21 (.fld 1 (.t 3)),oP 22 (.load false 1 (.t 21)),oP 23 (.call 115 [.t 22]),oP 24 (.call 121 [.t 20,.t 23]),oP 25 (.bin .mul (.t 17) (.t 24)),mV 4 25]
def c74:CC:=(.seq (.reg r74_0 none) (.seq (.reg r74_1 (some [(0,2),(1,2)])) (.seq (.seq (.reg r74_2 none) (.cond (.t 13) (.seq (.seq (.reg r74_3 none) (.cond (.t 16) (.seq (.reg r74_4 none) .ret) .skip)) (.seq (.reg r74_5 none) .ret)) .skip)) (.seq (.reg r74_6 (some [(2,5),(3,5)])) .ret))))
theorem comp74:CmpC Tryz.prog G Tryz.f74=some c74:=by kernel_rfl
theorem res74:Tryz.f74.results.toList=[(.tmp 4)]:=by kernel_rfl
def r75_0:List COp:=[oP 2 (.box (.k (.agg [(.bool false),(.vec [] 0 (some 0))])))]
def r75_1:List COp:=[mV 11 0,oP 12 (.call 34 [.t 11]),mV 3 12]
def r75_2:List COp:=[mV 13 3,oP 14 (.len false (.t 13)),mV 4 14]
def r75_3:List COp:=[oP 15 (.call 27 [(kI 1)]),oP 5 (.box (.k (.agg [(.bool false),(.vec [] 0 (some 0))]))),sT (.store 2 (.t 5) (.t 15)),oP 6 (.mov (.k (.bool false)))]
def r75_4:List COp:=[oP 7 (.mov (kI 0))]
def r75_5:List COp:=[mV 16 7,mV 17 4,oP 18 (.bin .lss (.t 16) (.t 17))]
def r75_6:List COp:=[mV 21 7,mV 8 21]
def r75_7:List COp:=[mV 22 8,mV 23 4,oP 24 (.bin .lss (.t 22) (.t 23)),mV 25 24,gU 26 25 true (.mov (.t 3)),gU 27 25 true (.mov (.t 8)),gU 28 25 true (.idx 1 (.t 26) (.t 27)),gU 29 25 true (.load false 1 (.t 28)),gU 30 25 true (.mov (.t 7)),gU 31 25 true (.idx 2 (.t 29) (.t 30)),gU 32 25 true (.load true 2 (.t 31)),gU 33 25 true (.call 62 [.t 32]),gU 34 25 true (.bin .eql (.t 33) (kI 0)),oP 35 (.pick (.t 25) (.t 34) (.k (.bool false)))]
def r75_8:List COp:=[mV 36 8,oP 37 (.bin .add (.t 36) (kI 1)),mV 8 37]
def l75_1:CC:=(.seq (.seq (.reg r75_7 none) (.cond (.t 35) .skip (.exit 2))) (.block 3 (.reg r75_8 none)))
def r75_9:List COp:=[mV 38 8,mV 39 4,oP 40 (.bin .eql (.t 38) (.t 39))]
def r75_10:List COp:=[oP 41 (.build [(.bool false),(.vec [] 0 (some 0))] []),sT (.store 2 (.t 2) (.t 41))]
def r75_11:List COp:=[mV 42 8,mV 43 7,oP 44 (.bin .gtr (.t 42) (.t 43))]
def r75_12:List COp:=[mV 45 3,mV 46 8,mV 47 3,mV 48 7,mV 49 3,mV 50 7,oP 51 (.idx 1 (.t 49) (.t 50)),oP 52 (.load false 1 (.t 51)),mV 53 3,mV 54 8,oP 55 (.idx 1 (.t 53) (.t 54)),oP 56 (.load false 1 (.t 55)),oP 57 (.idx 1 (.t 45) (.t 46)),sT (.store 1 (.t 57) (.t 52)),oP 58 (.idx 1 (.t 47) (.t 48)),sT (.store 1 (.t 58) (.t 56))]
def r75_13:List COp:=[mV 59 6,oP 60 (.un .not (.t 59)),mV 6 60]
def r75_14:List COp:=[mV 61 7,oP 62 (.bin .add (.t 61) (kI 1)),mV 9 62]
def r75_15:List COp:=[mV 63 9,mV 64 4,oP 65 (.bin .lss (.t 63) (.t 64))]
def r75_16:List COp:=[mV 68 7,oP 69 (.bin .add (.t 68) (kI 1)),mV 10 69]
def r75_17:List COp:=[mV 70 10,mV 71 4,oP 72 (.bin .lss (.t 70) (.t 71))]
def r75_18:List COp:=[mV 75 3,mV 76 9,oP 77 (.idx 1 (.t 75) (.t 76)),oP 78 (.load false 1 (.t 77)),mV 79 10,mV 80 3,mV 81 7,oP 82 (.idx 1 (.t 80) (.t 81)),oP 83 (.load false 1 (.t 82)),mV 84 7,oP 85 (.idx 2 (.t 83) (.t 84)),oP 86 (.load true 2 (.t 85)),mV 87 3,mV 88 9,oP 89 (.idx 1 (.t 87) (.t 88)),oP 90 (.load false 1 (.t 89)),mV 91 10,oP 92 (.idx 2 (.t 90) (.t 91)),oP 93 (.load true 2 (.t 92)),oP 94 (.call 123 [.t 86,.t 93]),mV 95 3,mV 96 9,oP 97 (.idx 1 (.t 95) (.t 96)),oP 98 (.load false 1 (.t 97)),mV 99 7,oP 100 (.idx 2 (.t 98) (.t 99)),oP 101 (.load true 2 (.t 100)),mV 102 3,mV 103 7,oP 104 (.idx 1 (.t 102) (.t 103)),oP 105 (.load false 1 (.t 104)),mV 106 10,oP 107 (.idx 2 (.t 105) (.t 106)),oP 108 (.load true 2 (.t 107)),oP 109 (.call 123 [.t 101,.t 108]),oP 110 (.call 122 [.t 94,.t 109]),oP 111 (.load true 2 (.t 5)),oP 112 (.call 65 [.t 110,.t 111]),oP 113 (.idx 2 (.t 78) (.t 79)),sT (.store 2 (.t 113) (.t 112))]
def r75_19:List COp:=[mV 73 10,oP 74 (.bin .add (.t 73) (kI 1)),mV 10 74]
def l75_3:CC:=(.seq (.seq (.reg r75_17 none) (.cond (.t 72) .skip (.exit 6))) (.seq (.block 7 (.reg r75_18 (some [(3,8),(3,11),(3,15),(8,15),(11,15),(3,18),(8,18),(11,18),(3,19),(3,23),(8,23),(11,23),(15,23),(18,23),(19,23),(3,26),(8,26),(11,26),(15,26),(18,26),(19,26),(3,30),(8,30),(11,30),(15,30),(18,30),(19,30),(23,30),(26,30),(3,33),(8,33),(11,33),(15,33),(18,33),(19,33),(23,33),(26,33),(3,34),(3,35),(3,36),(8,36),(11,36),(15,36),(18,36),(19,36),(23,36),(26,36),(30,36),(33,36),(34,36),(35,36),(3,37)]))) (.reg r75_19 none)))
def r75_20:List COp:=[mV 66 9,oP 67 (.bin .add (.t 66) (kI 1)),mV 9 67]
def l75_2:CC:=(.seq (.seq (.reg r75_15 none) (.cond (.t 65) .skip (.exit 4))) (.seq (.block 5 (.seq (.reg r75_16 none) (.block 6 (.loop l75_3)))) (.reg r75_20 none)))
def r75_21:List COp:=[mV 114 3,mV 115 7,oP 116 (.idx 1 (.t 114) (.t 115)),oP 117 (.load false 1 (.t 116)),mV 118 7,oP 119 (.idx 2 (.t 117) (.t 118)),oP 120 (.load true 2 (.t 119)),sT (.store 2 (.t 5) (.t 120))]
def r75_22:List COp:=[mV 19 7,oP 20 (.bin .add (.t 19) (kI 1)),mV 7 20]
def l75_0:CC:=(.seq (.seq (.reg r75_5 none) (.cond (.t 18) .skip (.exit 0))) (.seq (.block 1 (.seq (.reg r75_6 none) (.seq (.block 2 (.loop l75_1)) (.seq (.seq (.reg r75_9 none) (.cond (.t 40) (.seq (.reg r75_10 none) .ret) .skip)) (.seq (.seq (.reg r75_11 none) (.cond (.t 44) (.seq (.reg r75_12 (some [(7,11)])) (.reg r75_13 none)) .skip)) (.seq (.seq (.reg r75_14 none) (.block 4 (.loop l75_2))) (.reg r75_21 none))))))) (.reg r75_22 none)))
def r75_23:List COp:=[mV 121 6]
def r75_24:List COp:=[oP 122 (.load true 2 (.t 5)),oP 123 (.call 63 [.t 122]),sT (.store 2 (.t 2) (.t 123))]
def r75_25:List COp:=[oP 124 (.load true 2 (.t 5)),sT (.store 2 (.t 2) (.t 124))]
def c75:CC:=(.seq (.reg r75_0 none) (.seq (.reg r75_1 none) (.seq (.reg r75_2 none) (.seq (.reg r75_3 none) (.seq (.seq (.reg r75_4 none) (.block 0 (.loop l75_0))) (.seq (.seq (.reg r75_23 none) (.cond (.t 121) (.seq (.reg r75_24 none) .ret) .skip)) (.seq (.reg r75_25 none) .ret)))))))
theorem comp75:CmpC Tryz.prog G Tryz.f75=some c75:=by kernel_rfl
theorem res75:Tryz.f75.results.toList=[(.cell 2 37)]:=by kernel_rfl
def r76_0:List COp:=[oP 1 (.box (.t 0)),oP 2 (.box (.k (.agg [(.bool false),(.vec [] 0 (some 0))])))]
def r76_1:List COp:=[oP 3 (.fld 0 (.t 1)),oP 4 (.load false 1 (.t 3)),oP 5 (.fld 1 (.t 1)),oP 6 (.load false 1 (.t 5)),oP 7 (.call 116 [.t 4,.t 6]),sT (.store 2 (.t 2) (.t 7))]
def c76:CC:=(.seq (.reg r76_0 none) (.seq (.reg r76_1 none) .ret))
theorem comp76:CmpC Tryz.prog G Tryz.f76=some c76:=by kernel_rfl
theorem res76:Tryz.f76.results.toList=[(.cell 2 37)]:=by kernel_rfl
def r77_0:List COp:=[oP 4 (.mov (.k (.vec [] 0 (some 0))))]
def r77_1:List COp:=[mV 7 0,oP 8 (.mksl 1 24 [(.vec [] 0 (some 0))] (.t 7) (.t 7)),mV 5 8]
def r77_2:List COp:=[mV 9 5,oP 10 (.len false (.t 9)),oP 11 (.mov (kI 0))]
def r77_3:List COp:=[oP 12 (.bin .lss (.t 11) (.t 10))]
def r77_4:List COp:=[mV 13 11,mV 6 13]
def r77_5:List COp:=[mV 14 5,mV 15 6,mV 16 1,oP 17 (.mksl 2 32 [(.bool false),(.vec [] 0 (some 0))] (.t 16) (.t 16)),oP 18 (.idx 1 (.t 14) (.t 15)),sT (.store 1 (.t 18) (.t 17))]
def r77_6:List COp:=[oP 19 (.bin .add (.t 11) (kI 1)),mV 11 19]
def l77_0:CC:=(.seq (.reg r77_3 none) (.seq (.cond (.t 12) .skip (.exit 0)) (.seq (.block 1 (.seq (.reg r77_4 none) (.reg r77_5 none))) (.reg r77_6 none))))
def r77_7:List COp:=[mV 20 5,mV 4 20]
def c77:CC:=(.seq (.reg r77_0 none) (.seq (.reg r77_1 none) (.seq (.seq (.reg r77_2 none) (.block 0 (.loop l77_0))) (.seq (.reg r77_7 none) .ret))))
theorem comp77:CmpC Tryz.prog G Tryz.f77=some c77:=by kernel_rfl
theorem res77:Tryz.f77.results.toList=[(.tmp 4)]:=by kernel_rfl
def r78_0:List COp:=[oP 2 (.mov (.k (.vec [] 0 (some 0)))),oP 3 (.mov (.k (.bool false)))]
def r78_1:List COp:=[mV 9 0,oP 10 (.call 71 [.t 9]),mV 8 10,oP 11 (.ext (.t 8) 0),oP 12 (.ext (.t 8) 1),mV 4 11,mV 5 12]
def r78_2:List COp:=[mV 13 5,oP 14 (.un .not (.t 13))]
def r78_3:List COp:=[oP 2 (.mov (.k (.vec [] 0 (some 0)))),oP 3 (.mov (.k (.bool false)))]
def r78_4:List COp:=[oP 6 (.mov (.k (.vec [] 0 (some 0))))]
def r78_5:List COp:=[oP 7 (.mov (kI 0))]
def r78_6:List COp:=[mV 15 7,mV 16 4,oP 17 (.bin .lss (.t 15) (.t 16))]
def r78_7:List COp:=[mV 20 6,mV 21 0,mV 22 7,mV 23 7,oP 24 (.call 125 [.t 22,.t 23]),mV 25 7,mV 26 7,oP 27 (.call 125 [.t 25,.t 26]),oP 28 (.call 124 [.t 21,.t 24,.t 27]),oP 29 (.call 75 [.t 28]),oP 30 (.bsl 1 2 [(.bool false),(.vec [] 0 (some 0))] [(0,(2,(.t 29)))]),oP 31 (.append 2 32 (.t 20) (.t 30)),mV 6 31]
def r78_8:List COp:=[mV 18 7,oP 19 (.bin .add (.t 18) (kI 1)),mV 7 19]
def l78_0:CC:=(.seq (.seq (.reg r78_6 none) (.cond (.t 17) .skip (.exit 0))) (.seq (.block 1 (.reg r78_7 none)) (.reg r78_8 none)))
def r78_9:List COp:=[mV 32 6,mV 2 32,oP 3 (.mov (.k (.bool true)))]
def c78:CC:=(.seq (.reg r78_0 none) (.seq (.reg r78_1 none) (.seq (.seq (.reg r78_2 none) (.cond (.t 14) (.seq (.reg r78_3 none) .ret) .skip)) (.seq (.reg r78_4 none) (.seq (.seq (.reg r78_5 none) (.block 0 (.loop l78_0))) (.seq (.reg r78_9 none) .ret))))))
theorem comp78:CmpC Tryz.prog G Tryz.f78=some c78:=by kernel_rfl
theorem res78:Tryz.f78.results.toList=[(.tmp 2),(.tmp 3)]:=by kernel_rfl
def r79_0:List COp:=[oP 8 (.mov (.k (.bool false)))]
def r79_1:List COp:=[oP 9 (.call 27 [(kI 2)]),mV 10 0,mV 11 2,mV 12 3,oP 13 (.call 82 [.t 10,.t 11,.t 12]),oP 14 (.call 117 [.t 13]),oP 15 (.call 123 [.t 9,.t 14]),mV 16 1,mV 17 3,oP 18 (.bin .add (.t 17) (kI 1)),oP 19 (.call 83 [.t 16,.t 18]),oP 20 (.call 74 [.t 15,.t 19]),oP 21 (.bin .leq (.t 20) (kI 0)),mV 8 21]
def c79:CC:=(.seq (.reg r79_0 none) (.seq (.reg r79_1 none) .ret))
theorem comp79:CmpC Tryz.prog G Tryz.f79=some c79:=by kernel_rfl
theorem res79:Tryz.f79.results.toList=[(.tmp 8)]:=by kernel_rfl
def r80_0:List COp:=[oP 1 (.box (.t 0)),oP 2 (.box (.k (.agg [(.bool false),(.vec [] 0 (some 0))])))]
def r80_1:List COp:=[oP 3 (.load true 4 (.t 1)),oP 4 (.call 128 []),oP 5 (.call 127 [.t 3,.t 4]),oP 6 (.call 126 [.t 5]),sT (.store 2 (.t 2) (.t 6))]
def c80:CC:=(.seq (.reg r80_0 none) (.seq (.reg r80_1 (some [(0,1)])) .ret))
theorem comp80:CmpC Tryz.prog G Tryz.f80=some c80:=by kernel_rfl
theorem res80:Tryz.f80.results.toList=[(.cell 2 37)]:=by kernel_rfl
def r81_0:List COp:=[oP 2 (.box (.t 0)),oP 3 (.box (.t 1)),oP 4 (.box (.k (.agg [(.bool false),(.vec [] 0 (some 0)),(.bool false),(.vec [] 0 (some 0))])))]
def r81_1:List COp:=[oP 5 (.load true 2 (.t 2)),oP 6 (.load true 2 (.t 3)),oP 7 (.build [(.bool false),(.vec [] 0 (some 0)),(.bool false),(.vec [] 0 (some 0))] [(0,(2,(.t 5))),(2,(2,(.t 6)))]),oP 8 (.call 129 [.t 7]),sT (.store 4 (.t 4) (.t 8))]
def c81:CC:=(.seq (.reg r81_0 none) (.seq (.reg r81_1 none) .ret))
theorem comp81:CmpC Tryz.prog G Tryz.f81=some c81:=by kernel_rfl
theorem res81:Tryz.f81.results.toList=[(.cell 4 39)]:=by kernel_rfl
def r82_0:List COp:=[oP 6 (.box (.k (.agg [(.bool false),(.vec [] 0 (some 0))])))]
def r82_1:List COp:=[oP 7 (.mov (.k (.vec [] 0 (some 0)))),oP 8 (.mov (.k (.vec [] 0 (some 0))))]
def r82_2:List COp:=[oP 9 (.mov (kI 0))]
def r82_3:List COp:=[mV 10 9,mV 11 2,oP 12 (.bin .lss (.t 10) (.t 11))]
def r82_4:List COp:=[mV 15 7,mV 16 9,oP 17 (.bsl 1 1 [(.int .i64 0)] [(0,(1,(.t 16)))]),oP 18 (.append 1 8 (.t 15) (.t 17)),mV 7 18]
def r82_5:List COp:=[mV 19 8,mV 20 9,oP 21 (.bsl 1 1 [(.int .i64 0)] [(0,(1,(.t 20)))]),oP 22 (.append 1 8 (.t 19) (.t 21)),mV 8 22]
def r82_6:List COp:=[mV 13 9,oP 14 (.bin .add (.t 13) (kI 1)),mV 9 14]
def l82_0:CC:=(.seq (.seq (.reg r82_3 none) (.cond (.t 12) .skip (.exit 0))) (.seq (.block 1 (.seq (.reg r82_4 none) (.reg r82_5 none))) (.reg r82_6 none)))
def r82_7:List COp:=[mV 23 0,mV 24 7,mV 25 1,oP 26 (.bsl 1 1 [(.int .i64 0)] [(0,(1,(.t 25)))]),oP 27 (.append 1 8 (.t 24) (.t 26)),mV 28 8,mV 29 2,oP 30 (.bsl 1 1 [(.int .i64 0)] [(0,(1,(.t 29)))]),oP 31 (.append 1 8 (.t 28) (.t 30)),oP 32 (.call 124 [.t 23,.t 27,.t 31]),oP 33 (.call 75 [.t 32]),sT (.store 2 (.t 6) (.t 33))]
def c82:CC:=(.seq (.reg r82_0 none) (.seq (.reg r82_1 none) (.seq (.seq (.reg r82_2 none) (.block 0 (.loop l82_0))) (.seq (.reg r82_7 none) .ret))))
theorem comp82:CmpC Tryz.prog G Tryz.f82=some c82:=by kernel_rfl
theorem res82:Tryz.f82.results.toList=[(.cell 6 37)]:=by kernel_rfl
def r83_0:List COp:=[oP 4 (.box (.k (.agg [(.bool false),(.vec [] 0 (some 0))])))]
def r83_1:List COp:=[mV 5 1,oP 6 (.bin .eql (.t 5) (kI 0))]
def r83_2:List COp:=[oP 7 (.call 27 [(kI 1)]),sT (.store 2 (.t 4) (.t 7))]
def r83_3:List COp:=[mV 8 0,mV 9 1,oP 10 (.bin .sub (.t 9) (kI 1)),oP 11 (.idx 2 (.t 8) (.t 10)),oP 12 (.load true 2 (.t 11)),sT (.store 2 (.t 4) (.t 12))]
def c83:CC:=(.seq (.reg r83_0 none) (.seq (.seq (.reg r83_1 none) (.cond (.t 6) (.seq (.reg r83_2 none) .ret) .skip)) (.seq (.reg r83_3 none) .ret)))
theorem comp83:CmpC Tryz.prog G Tryz.f83=some c83:=by kernel_rfl
theorem res83:Tryz.f83.results.toList=[(.cell 4 37)]:=by kernel_rfl
def r84_0:List COp:=[oP 6 (.mov (.k (.bool false)))]
def r84_1:List COp:=[mV 9 0,mV 10 2,mV 11 2,oP 12 (.bin .sub (.t 11) (kI 1)),oP 13 (.call 82 [.t 9,.t 10,.t 12]),oP 7 (.box (.k (.agg [(.bool false),(.vec [] 0 (some 0))]))),sT (.store 2 (.t 7) (.t 13))]
def r84_2:List COp:=[oP 14 (.call 27 [(kI 4)]),mV 15 1,mV 16 2,oP 17 (.bin .sub (.t 16) (kI 1)),oP 18 (.call 83 [.t 15,.t 17]),mV 19 1,mV 20 2,oP 21 (.bin .add (.t 20) (kI 1)),oP 22 (.call 83 [.t 19,.t 21]),oP 23 (.call 123 [.t 18,.t 22]),oP 24 (.load true 2 (.t 7)),oP 25 (.load true 2 (.t 7)),oP 26 (.call 123 [.t 24,.t 25]),oP 27 (.call 130 [.t 23,.t 26]),oP 28 (.call 123 [.t 14,.t 27]),oP 8 (.box (.k (.agg [(.bool false),(.vec [] 0 (some 0))]))),sT (.store 2 (.t 8) (.t 28))]
def r84_3:List COp:=[oP 29 (.load true 2 (.t 8)),oP 30 (.call 27 [(kI 3)]),mV 31 1,mV 32 2,oP 33 (.call 83 [.t 31,.t 32]),mV 34 1,mV 35 2,oP 36 (.call 83 [.t 34,.t 35]),oP 37 (.call 123 [.t 33,.t 36]),oP 38 (.call 123 [.t 30,.t 37]),oP 39 (.call 74 [.t 29,.t 38]),oP 40 (.bin .geq (.t 39) (kI 0)),mV 6 40]
def c84:CC:=(.seq (.reg r84_0 none) (.seq (.reg r84_1 none) (.seq (.reg r84_2 (some [(0,10),(4,10),(8,10),(9,10),(0,11),(4,11),(8,11),(9,11),(10,11),(0,15),(4,15),(8,15),(9,15),(10,15),(11,15),(12,15),(13,15),(14,15)])) (.seq (.reg r84_3 (some [(0,1),(0,4),(0,7),(0,8),(0,9)])) .ret))))
theorem comp84:CmpC Tryz.prog G Tryz.f84=some c84:=by kernel_rfl
theorem res84:Tryz.f84.results.toList=[(.tmp 6)]:=by kernel_rfl
def r85_0:List COp:=[oP 2 (.mov (kI 0)),oP 3 (.mov (kI 0)),oP 4 (.mov (.k (.bool false)))]
def r85_1:List COp:=[mV 7 0,oP 8 (.len false (.t 7)),oP 9 (.bin .lss (.t 8) (kI 1)),mV 10 9,gU 11 10 false (.mov (.t 0)),gU 12 10 false (.len false (.t 11)),gU 13 10 false (.bin .gtr (.t 12) (kI 16)),oP 14 (.pick (.t 10) (.k (.bool true)) (.t 13))]
def r85_2:List COp:=[oP 2 (.mov (kI 0)),oP 3 (.mov (kI 0)),oP 4 (.mov (.k (.bool false)))]
def r85_3:List COp:=[mV 15 0,oP 16 (.len false (.t 15)),oP 17 (.mov (kI 0))]
def r85_4:List COp:=[oP 18 (.bin .lss (.t 17) (.t 16))]
def r85_5:List COp:=[oP 19 (.idx 1 (.t 15) (.t 17)),oP 20 (.load false 1 (.t 19)),mV 6 20]
def r85_6:List COp:=[mV 21 6,oP 22 (.len false (.t 21)),oP 23 (.bin .lss (.t 22) (kI 1)),mV 24 23,gU 25 24 false (.mov (.t 6)),gU 26 24 false (.len false (.t 25)),gU 27 24 false (.bin .gtr (.t 26) (kI 16)),oP 28 (.pick (.t 24) (.k (.bool true)) (.t 27)),mV 29 28,gU 30 29 false (.mov (.t 6)),gU 31 29 false (.len false (.t 30)),gU 32 29 false (.mov (.t 0)),gU 33 29 false (.idx 1 (.t 32) (kI 0)),gU 34 29 false (.load false 1 (.t 33)),gU 35 29 false (.len false (.t 34)),gU 36 29 false (.bin .neq (.t 31) (.t 35)),oP 37 (.pick (.t 29) (.k (.bool true)) (.t 36))]
def r85_7:List COp:=[oP 2 (.mov (kI 0)),oP 3 (.mov (kI 0)),oP 4 (.mov (.k (.bool false)))]
def r85_8:List COp:=[oP 38 (.bin .add (.t 17) (kI 1)),mV 17 38]
def l85_0:CC:=(.seq (.reg r85_4 none) (.seq (.cond (.t 18) .skip (.exit 0)) (.seq (.block 1 (.seq (.reg r85_5 none) (.seq (.reg r85_6 none) (.cond (.t 37) (.seq (.reg r85_7 none) .ret) .skip)))) (.reg r85_8 none))))
def r85_9:List COp:=[mV 39 0,oP 40 (.len false (.t 39)),mV 41 0,oP 42 (.idx 1 (.t 41) (kI 0)),oP 43 (.load false 1 (.t 42)),oP 44 (.len false (.t 43)),mV 2 40,mV 3 44,oP 4 (.mov (.k (.bool true)))]
def c85:CC:=(.seq (.reg r85_0 none) (.seq (.seq (.reg r85_1 none) (.cond (.t 14) (.seq (.reg r85_2 none) .ret) .skip)) (.seq (.seq (.reg r85_3 none) (.block 0 (.loop l85_0))) (.seq (.reg r85_9 (some [])) .ret))))
theorem comp85:CmpC Tryz.prog G Tryz.f85=some c85:=by kernel_rfl
theorem res85:Tryz.f85.results.toList=[(.tmp 2),(.tmp 3),(.tmp 4)]:=by kernel_rfl
def r86_0:List COp:=[oP 1 (.box (.t 0)),oP 2 (.mov (kI 0)),oP 3 (.mov (.k (.bool false)))]
def r86_1:List COp:=[oP 6 (.fld 1 (.t 1)),oP 7 (.load false 1 (.t 6)),oP 8 (.call 115 [.t 7]),mV 4 8]
def r86_2:List COp:=[mV 9 4,oP 10 (.call 131 [.t 9]),mV 5 10]
def r86_3:List COp:=[mV 12 4,oP 13 (.len false (.t 12)),oP 14 (.bin .gtr (.t 13) (kI 2)),mV 11 14]
def r86_4:List COp:=[oP 2 (.mov (kI 0)),oP 3 (.mov (.k (.bool false)))]
def r86_5:List COp:=[oP 16 (.fld 0 (.t 1)),oP 17 (.load false 1 (.t 16)),mV 18 17,gU 19 18 true (.mov (.t 5)),gU 20 18 true (.bin .leq (.t 19) (.k (.int .u64 9223372036854775808))),oP 21 (.pick (.t 18) (.t 20) (.k (.bool false))),mV 15 21]
def r86_6:List COp:=[mV 22 5,oP 23 (.un .neg (.t 22)),oP 24 (.conv .i64 (.t 23)),mV 2 24,oP 3 (.mov (.k (.bool true)))]
def r86_7:List COp:=[oP 26 (.fld 0 (.t 1)),oP 27 (.load false 1 (.t 26)),oP 28 (.un .not (.t 27)),mV 29 28,gU 30 29 true (.mov (.t 5)),gU 31 29 true (.bin .lss (.t 30) (.k (.int .u64 9223372036854775808))),oP 32 (.pick (.t 29) (.t 31) (.k (.bool false))),mV 25 32]
def r86_8:List COp:=[mV 33 5,oP 34 (.conv .i64 (.t 33)),mV 2 34,oP 3 (.mov (.k (.bool true)))]
def r86_9:List COp:=[oP 2 (.mov (kI 0)),oP 3 (.mov (.k (.bool false)))]
def c86:CC:=(.seq (.reg r86_0 none) (.seq (.reg r86_1 none) (.seq (.reg r86_2 none) (.seq (.block 0 (.seq (.reg r86_3 none) (.cond (.t 11) (.seq (.reg r86_4 none) .ret) (.seq (.reg r86_5 none) (.cond (.t 15) (.seq (.reg r86_6 none) .ret) (.seq (.reg r86_7 none) (.cond (.t 25) (.seq (.reg r86_8 none) .ret) .skip))))))) (.seq (.reg r86_9 none) .ret)))))
theorem comp86:CmpC Tryz.prog G Tryz.f86=some c86:=by kernel_rfl
theorem res86:Tryz.f86.results.toList=[(.tmp 2),(.tmp 3)]:=by kernel_rfl
def r87_0:List COp:=[oP 2 (.mov (.k (.vec [] 0 (some 0)))),oP 3 (.mov (.k (.bool false)))]
def r87_1:List COp:=[mV 11 0,oP 12 (.call 85 [.t 11]),mV 10 12,oP 13 (.ext (.t 10) 0),oP 14 (.ext (.t 10) 1),oP 15 (.ext (.t 10) 2),mV 4 13,mV 5 14,mV 6 15]
def r87_2:List COp:=[mV 16 6,oP 17 (.un .not (.t 16))]
def r87_3:List COp:=[oP 2 (.mov (.k (.vec [] 0 (some 0)))),oP 3 (.mov (.k (.bool false)))]
def r87_4:List COp:=[mV 18 5,mV 19 4,oP 20 (.call 77 [.t 18,.t 19]),mV 7 20]
def r87_5:List COp:=[mV 21 0,oP 22 (.len false (.t 21)),oP 23 (.mov (kI 0))]
def r87_6:List COp:=[oP 24 (.bin .lss (.t 23) (.t 22))]
def r87_7:List COp:=[mV 25 23,mV 8 25]
def r87_8:List COp:=[mV 26 0,mV 27 8,oP 28 (.idx 1 (.t 26) (.t 27)),oP 29 (.load false 1 (.t 28)),oP 30 (.len false (.t 29)),oP 31 (.mov (kI 0))]
def r87_9:List COp:=[oP 32 (.bin .lss (.t 31) (.t 30))]
def r87_10:List COp:=[mV 33 31,mV 9 33]
def r87_11:List COp:=[mV 34 7,mV 35 9,oP 36 (.idx 1 (.t 34) (.t 35)),oP 37 (.load false 1 (.t 36)),mV 38 8,mV 39 0,mV 40 8,oP 41 (.idx 1 (.t 39) (.t 40)),oP 42 (.load false 1 (.t 41)),mV 43 9,oP 44 (.idx 2 (.t 42) (.t 43)),oP 45 (.load true 2 (.t 44)),oP 46 (.call 76 [.t 45]),oP 47 (.idx 2 (.t 37) (.t 38)),sT (.store 2 (.t 47) (.t 46))]
def r87_12:List COp:=[oP 48 (.bin .add (.t 31) (kI 1)),mV 31 48]
def l87_1:CC:=(.seq (.reg r87_9 none) (.seq (.cond (.t 32) .skip (.exit 2)) (.seq (.block 3 (.seq (.reg r87_10 none) (.reg r87_11 (some [(3,8),(3,11),(3,12)])))) (.reg r87_12 none))))
def r87_13:List COp:=[oP 49 (.bin .add (.t 23) (kI 1)),mV 23 49]
def l87_0:CC:=(.seq (.reg r87_6 none) (.seq (.cond (.t 24) .skip (.exit 0)) (.seq (.block 1 (.seq (.reg r87_7 none) (.seq (.reg r87_8 none) (.block 2 (.loop l87_1))))) (.reg r87_13 none))))
def r87_14:List COp:=[mV 50 7,mV 2 50,oP 3 (.mov (.k (.bool true)))]
def c87:CC:=(.seq (.reg r87_0 none) (.seq (.reg r87_1 none) (.seq (.seq (.reg r87_2 none) (.cond (.t 17) (.seq (.reg r87_3 none) .ret) .skip)) (.seq (.reg r87_4 none) (.seq (.seq (.reg r87_5 none) (.block 0 (.loop l87_0))) (.seq (.reg r87_14 none) .ret))))))
theorem comp87:CmpC Tryz.prog G Tryz.f87=some c87:=by kernel_rfl
theorem res87:Tryz.f87.results.toList=[(.tmp 2),(.tmp 3)]:=by kernel_rfl
def r88_0:List COp:=[oP 4 (.mov (.k (.vec [] 0 (some 0)))),oP 5 (.mov (.k (.bool false)))]
def r88_1:List COp:=[mV 15 0,oP 16 (.call 85 [.t 15]),mV 14 16,oP 17 (.ext (.t 14) 0),oP 18 (.ext (.t 14) 1),oP 19 (.ext (.t 14) 2),mV 6 17,mV 7 18,mV 8 19]
def r88_2:List COp:=[mV 21 1,oP 22 (.call 87 [.t 21]),mV 20 22,oP 23 (.ext (.t 20) 0),oP 24 (.ext (.t 20) 1),mV 9 23,mV 10 24]
def r88_3:List COp:=[mV 25 8,oP 26 (.un .not (.t 25)),mV 27 26,gU 28 27 false (.mov (.t 10)),gU 29 27 false (.un .not (.t 28)),oP 30 (.pick (.t 27) (.k (.bool true)) (.t 29)),mV 31 30,gU 32 31 false (.mov (.t 1)),gU 33 31 false (.len false (.t 32)),gU 34 31 false (.mov (.t 7)),gU 35 31 false (.bin .neq (.t 33) (.t 34)),oP 36 (.pick (.t 31) (.k (.bool true)) (.t 35))]
def r88_4:List COp:=[oP 4 (.mov (.k (.vec [] 0 (some 0)))),oP 5 (.mov (.k (.bool false)))]
def r88_5:List COp:=[mV 37 0,oP 38 (.len false (.t 37)),mV 39 9,oP 40 (.len false (.t 39)),oP 41 (.call 77 [.t 38,.t 40]),mV 11 41]
def r88_6:List COp:=[mV 42 0,oP 43 (.len false (.t 42)),oP 44 (.mov (kI 0))]
def r88_7:List COp:=[oP 45 (.bin .lss (.t 44) (.t 43))]
def r88_8:List COp:=[mV 46 44,mV 12 46]
def r88_9:List COp:=[mV 47 9,oP 48 (.len false (.t 47)),oP 49 (.mov (kI 0))]
def r88_10:List COp:=[oP 50 (.bin .lss (.t 49) (.t 48))]
def r88_11:List COp:=[mV 51 49,mV 13 51]
def r88_12:List COp:=[mV 52 11,mV 53 12,oP 54 (.idx 1 (.t 52) (.t 53)),oP 55 (.load false 1 (.t 54)),mV 56 13,mV 57 0,mV 58 12,oP 59 (.idx 1 (.t 57) (.t 58)),oP 60 (.load false 1 (.t 59)),mV 61 9,mV 62 13,oP 63 (.idx 1 (.t 61) (.t 62)),oP 64 (.load false 1 (.t 63)),oP 65 (.call 132 [.t 60,.t 64]),oP 66 (.idx 2 (.t 55) (.t 56)),sT (.store 2 (.t 66) (.t 65))]
def r88_13:List COp:=[oP 67 (.bin .add (.t 49) (kI 1)),mV 49 67]
def l88_1:CC:=(.seq (.reg r88_10 none) (.seq (.cond (.t 50) .skip (.exit 2)) (.seq (.block 3 (.seq (.reg r88_11 none) (.reg r88_12 (some [(3,8),(3,12),(8,12),(3,13)])))) (.reg r88_13 none))))
def r88_14:List COp:=[oP 68 (.bin .add (.t 44) (kI 1)),mV 44 68]
def l88_0:CC:=(.seq (.reg r88_7 none) (.seq (.cond (.t 45) .skip (.exit 0)) (.seq (.block 1 (.seq (.reg r88_8 none) (.seq (.reg r88_9 none) (.block 2 (.loop l88_1))))) (.reg r88_14 none))))
def r88_15:List COp:=[mV 69 11,mV 4 69,oP 5 (.mov (.k (.bool true)))]
def c88:CC:=(.seq (.reg r88_0 none) (.seq (.reg r88_1 none) (.seq (.reg r88_2 none) (.seq (.seq (.reg r88_3 none) (.cond (.t 36) (.seq (.reg r88_4 none) .ret) .skip)) (.seq (.reg r88_5 none) (.seq (.seq (.reg r88_6 none) (.block 0 (.loop l88_0))) (.seq (.reg r88_15 none) .ret)))))))
theorem comp88:CmpC Tryz.prog G Tryz.f88=some c88:=by kernel_rfl
theorem res88:Tryz.f88.results.toList=[(.tmp 4),(.tmp 5)]:=by kernel_rfl
def r89_0:List COp:=[oP 2 (.mov (kI 0))]
def r89_1:List COp:=[mV 3 0,oP 4 (.nilck (.t 3)),oP 5 (.fld 1 (.t 4)),oP 6 (.load false 1 (.t 5)),mV 7 0,oP 8 (.nilck (.t 7)),oP 9 (.fld 0 (.t 8)),oP 10 (.load false 1 (.t 9)),oP 11 (.len false (.t 10)),oP 12 (.bin .geq (.t 6) (.t 11))]
def r89_2:List COp:=[oP 2 (.mov (kI 0))]
def r89_3:List COp:=[mV 13 0,oP 14 (.nilck (.t 13)),oP 15 (.fld 1 (.t 14)),oP 16 (.load false 1 (.t 15)),oP 17 (.bin .add (.t 16) (kI 1)),oP 18 (.nilck (.t 13)),oP 19 (.fld 1 (.t 18)),sT (.store 1 (.t 19) (.t 17))]
def r89_4:List COp:=[mV 20 0,oP 21 (.nilck (.t 20)),oP 22 (.fld 0 (.t 21)),oP 23 (.load false 1 (.t 22)),mV 24 0,oP 25 (.nilck (.t 24)),oP 26 (.fld 1 (.t 25)),oP 27 (.load false 1 (.t 26)),oP 28 (.bin .sub (.t 27) (kI 1)),oP 29 (.idx 1 (.t 23) (.t 28)),oP 30 (.load false 1 (.t 29)),oP 31 (.conv .i64 (.t 30)),mV 2 31]
def c89:CC:=(.seq (.reg r89_0 none) (.seq (.seq (.reg r89_1 (some [(3,7)])) (.cond (.t 12) (.seq (.reg r89_2 none) .ret) .skip)) (.seq (.reg r89_3 none) (.seq (.reg r89_4 (some [(3,7)])) .ret))))
theorem comp89:CmpC Tryz.prog G Tryz.f89=some c89:=by kernel_rfl
theorem res89:Tryz.f89.results.toList=[(.tmp 2)]:=by kernel_rfl
def r90_0:List COp:=[oP 2 (.mov (.k (.bool false)))]
def r90_1:List COp:=[mV 10 0,oP 11 (.len false (.t 10)),mV 3 11]
def r90_2:List COp:=[mV 12 3,oP 13 (.bin .lss (.t 12) (kI 1)),mV 14 13,gU 15 14 false (.mov (.t 3)),gU 16 14 false (.bin .gtr (.t 15) (kI 8)),oP 17 (.pick (.t 14) (.k (.bool true)) (.t 16))]
def r90_3:List COp:=[oP 2 (.mov (.k (.bool false)))]
def r90_4:List COp:=[mV 18 0,oP 19 (.len false (.t 18)),oP 20 (.mov (kI 0))]
def r90_5:List COp:=[oP 21 (.bin .lss (.t 20) (.t 19))]
def r90_6:List COp:=[oP 22 (.idx 1 (.t 18) (.t 20)),oP 23 (.load false 1 (.t 22)),mV 5 23]
def r90_7:List COp:=[mV 24 5,oP 25 (.len false (.t 24)),mV 26 3,oP 27 (.bin .neq (.t 25) (.t 26))]
def r90_8:List COp:=[oP 2 (.mov (.k (.bool false)))]
def r90_9:List COp:=[oP 28 (.bin .add (.t 20) (kI 1)),mV 20 28]
def l90_0:CC:=(.seq (.reg r90_5 none) (.seq (.cond (.t 21) .skip (.exit 0)) (.seq (.block 1 (.seq (.reg r90_6 none) (.seq (.reg r90_7 none) (.cond (.t 27) (.seq (.reg r90_8 none) .ret) .skip)))) (.reg r90_9 none))))
def r90_10:List COp:=[mV 29 0,oP 30 (.len false (.t 29)),oP 31 (.mov (kI 0))]
def r90_11:List COp:=[oP 32 (.bin .lss (.t 31) (.t 30))]
def r90_12:List COp:=[mV 33 31,oP 34 (.idx 1 (.t 29) (.t 31)),oP 35 (.load false 1 (.t 34)),mV 6 33,mV 7 35]
def r90_13:List COp:=[mV 36 7,oP 37 (.len false (.t 36)),oP 38 (.mov (kI 0))]
def r90_14:List COp:=[oP 39 (.bin .lss (.t 38) (.t 37))]
def r90_15:List COp:=[mV 40 38,oP 41 (.idx 1 (.t 36) (.t 38)),oP 42 (.load false 1 (.t 41)),mV 8 40,mV 9 42]
def r90_16:List COp:=[mV 43 9,mV 44 0,mV 45 8,oP 46 (.idx 1 (.t 44) (.t 45)),oP 47 (.load false 1 (.t 46)),mV 48 6,oP 49 (.idx 1 (.t 47) (.t 48)),oP 50 (.load false 1 (.t 49)),oP 51 (.bin .neq (.t 43) (.t 50)),mV 52 51,gU 53 52 false (.mov (.t 9)),gU 54 52 false (.bin .leq (.t 53) (.k (.int .i64 (-262144)))),oP 55 (.pick (.t 52) (.k (.bool true)) (.t 54)),mV 56 55,gU 57 56 false (.mov (.t 9)),gU 58 56 false (.bin .geq (.t 57) (kI 262144)),oP 59 (.pick (.t 56) (.k (.bool true)) (.t 58))]
def r90_17:List COp:=[oP 2 (.mov (.k (.bool false)))]
def r90_18:List COp:=[oP 60 (.bin .add (.t 38) (kI 1)),mV 38 60]
def l90_2:CC:=(.seq (.reg r90_14 none) (.seq (.cond (.t 39) .skip (.exit 4)) (.seq (.block 5 (.seq (.reg r90_15 none) (.seq (.reg r90_16 none) (.cond (.t 59) (.seq (.reg r90_17 none) .ret) .skip)))) (.reg r90_18 none))))
def r90_19:List COp:=[oP 61 (.bin .add (.t 31) (kI 1)),mV 31 61]
def l90_1:CC:=(.seq (.reg r90_11 none) (.seq (.cond (.t 32) .skip (.exit 2)) (.seq (.block 3 (.seq (.reg r90_12 none) (.seq (.reg r90_13 none) (.block 4 (.loop l90_2))))) (.reg r90_19 none))))
def r90_20:List COp:=[oP 2 (.mov (.k (.bool true)))]
def c90:CC:=(.seq (.reg r90_0 none) (.seq (.reg r90_1 none) (.seq (.seq (.reg r90_2 none) (.cond (.t 17) (.seq (.reg r90_3 none) .ret) .skip)) (.seq (.seq (.reg r90_4 none) (.block 0 (.loop l90_0))) (.seq (.seq (.reg r90_10 none) (.block 2 (.loop l90_1))) (.seq (.reg r90_20 none) .ret))))))
theorem comp90:CmpC Tryz.prog G Tryz.f90=some c90:=by kernel_rfl
theorem res90:Tryz.f90.results.toList=[(.tmp 2)]:=by kernel_rfl
def r91_0:List COp:=[oP 2 (.mov (.k (.bool false)))]
def r91_1:List COp:=[mV 6 0,oP 7 (.idx 1 (.t 6) (kI 0)),oP 8 (.load false 1 (.t 7)),oP 9 (.idx 1 (.t 8) (kI 0)),oP 10 (.load false 1 (.t 9)),mV 3 10]
def r91_2:List COp:=[mV 11 3,oP 12 (.bin .leq (.t 11) (kI 0)),mV 13 12,gU 14 13 false (.mov (.t 3)),gU 15 13 false (.bin .geq (.t 14) (kI 65536)),oP 16 (.pick (.t 13) (.k (.bool true)) (.t 15))]
def r91_3:List COp:=[oP 2 (.mov (.k (.bool false)))]
def r91_4:List COp:=[mV 17 0,oP 18 (.slice 1 (.t 17) (some (kI 1)) none none),oP 19 (.len false (.t 18)),oP 20 (.mov (kI 0))]
def r91_5:List COp:=[oP 21 (.bin .lss (.t 20) (.t 19))]
def r91_6:List COp:=[oP 22 (.idx 1 (.t 18) (.t 20)),oP 23 (.load false 1 (.t 22)),mV 5 23]
def r91_7:List COp:=[mV 24 5,oP 25 (.idx 1 (.t 24) (kI 0)),oP 26 (.load false 1 (.t 25)),oP 27 (.bin .mul (kI 2) (.t 26)),mV 28 3,oP 29 (.bin .gtr (.t 27) (.t 28)),mV 30 29,gU 31 30 false (.mov (.t 5)),gU 32 30 false (.idx 1 (.t 31) (kI 0)),gU 33 30 false (.load false 1 (.t 32)),gU 34 30 false (.bin .mul (.k (.int .i64 (-2))) (.t 33)),gU 35 30 false (.mov (.t 3)),gU 36 30 false (.bin .gtr (.t 34) (.t 35)),oP 37 (.pick (.t 30) (.k (.bool true)) (.t 36))]
def r91_8:List COp:=[oP 2 (.mov (.k (.bool false)))]
def r91_9:List COp:=[oP 38 (.bin .add (.t 20) (kI 1)),mV 20 38]
def l91_0:CC:=(.seq (.reg r91_5 none) (.seq (.cond (.t 21) .skip (.exit 0)) (.seq (.block 1 (.seq (.reg r91_6 none) (.seq (.reg r91_7 none) (.cond (.t 37) (.seq (.reg r91_8 none) .ret) .skip)))) (.reg r91_9 none))))
def r91_10:List COp:=[oP 2 (.mov (.k (.bool true)))]
def c91:CC:=(.seq (.reg r91_0 none) (.seq (.reg r91_1 none) (.seq (.seq (.reg r91_2 none) (.cond (.t 16) (.seq (.reg r91_3 none) .ret) .skip)) (.seq (.seq (.reg r91_4 none) (.block 0 (.loop l91_0))) (.seq (.reg r91_10 none) .ret)))))
theorem comp91:CmpC Tryz.prog G Tryz.f91=some c91:=by kernel_rfl
theorem res91:Tryz.f91.results.toList=[(.tmp 2)]:=by kernel_rfl
def r93_0:List COp:=[oP 2 (.mov (.k (.bool false)))]
def r93_1:List COp:=[mV 5 0,oP 6 (.len false (.t 5)),oP 7 (.bin .lss (.t 6) (kI 1)),mV 8 7,gU 9 8 false (.mov (.t 0)),gU 10 8 false (.len false (.t 9)),gU 11 8 false (.bin .gtr (.t 10) (kI 16)),oP 12 (.pick (.t 8) (.k (.bool true)) (.t 11)),mV 13 12,gU 14 13 false (.mov (.t 0)),gU 15 13 false (.idx 1 (.t 14) (kI 0)),gU 16 13 false (.load false 1 (.t 15)),gU 17 13 false (.len false (.t 16)),gU 18 13 false (.bin .lss (.t 17) (kI 1)),oP 19 (.pick (.t 13) (.k (.bool true)) (.t 18)),mV 20 19,gU 21 20 false (.mov (.t 0)),gU 22 20 false (.idx 1 (.t 21) (kI 0)),gU 23 20 false (.load false 1 (.t 22)),gU 24 20 false (.len false (.t 23)),gU 25 20 false (.bin .gtr (.t 24) (kI 16)),oP 26 (.pick (.t 20) (.k (.bool true)) (.t 25))]
def r93_2:List COp:=[oP 2 (.mov (.k (.bool false)))]
def r93_3:List COp:=[mV 27 0,oP 28 (.len false (.t 27)),oP 29 (.mov (kI 0))]
def r93_4:List COp:=[oP 30 (.bin .lss (.t 29) (.t 28))]
def r93_5:List COp:=[oP 31 (.idx 1 (.t 27) (.t 29)),oP 32 (.load false 1 (.t 31)),mV 4 32]
def r93_6:List COp:=[mV 33 4,oP 34 (.len false (.t 33)),mV 35 0,oP 36 (.idx 1 (.t 35) (kI 0)),oP 37 (.load false 1 (.t 36)),oP 38 (.len false (.t 37)),oP 39 (.bin .neq (.t 34) (.t 38))]
def r93_7:List COp:=[oP 2 (.mov (.k (.bool false)))]
def r93_8:List COp:=[oP 40 (.bin .add (.t 29) (kI 1)),mV 29 40]
def l93_0:CC:=(.seq (.reg r93_4 none) (.seq (.cond (.t 30) .skip (.exit 0)) (.seq (.block 1 (.seq (.reg r93_5 none) (.seq (.reg r93_6 none) (.cond (.t 39) (.seq (.reg r93_7 none) .ret) .skip)))) (.reg r93_8 none))))
def r93_9:List COp:=[oP 2 (.mov (.k (.bool true)))]
def c93:CC:=(.seq (.reg r93_0 none) (.seq (.seq (.reg r93_1 none) (.cond (.t 26) (.seq (.reg r93_2 none) .ret) .skip)) (.seq (.seq (.reg r93_3 none) (.block 0 (.loop l93_0))) (.seq (.reg r93_9 none) .ret))))
theorem comp93:CmpC Tryz.prog G Tryz.f93=some c93:=by kernel_rfl
theorem res93:Tryz.f93.results.toList=[(.tmp 2)]:=by kernel_rfl
def r94_0:List COp:=[oP 2 (.mov (kI 0))]
def r94_1:List COp:=[mV 3 0,oP 4 (.bin .lss (.t 3) (kI 2)),mV 5 4,gU 6 5 false (.mov (.t 0)),gU 7 5 false (.bin .gtr (.t 6) (kI 2147483647)),oP 8 (.pick (.t 5) (.k (.bool true)) (.t 7))]
def r94_2:List COp:=[oP 2 (.mov (kI 1))]
def r94_3:List COp:=[oP 2 (.mov (kI 0))]
def c94:CC:=(.seq (.reg r94_0 none) (.seq (.seq (.reg r94_1 none) (.cond (.t 8) (.seq (.reg r94_2 none) .ret) .skip)) (.seq (.reg r94_3 none) .ret)))
theorem comp94:CmpC Tryz.prog G Tryz.f94=some c94:=by kernel_rfl
theorem res94:Tryz.f94.results.toList=[(.tmp 2)]:=by kernel_rfl
def r95_0:List COp:=[oP 4 (.mov (.k (.vec [] 0 (some 0))))]
def r95_1:List COp:=[mV 10 0,oP 11 (.len false (.t 10)),oP 12 (.mksl 1 24 [(.vec [] 0 (some 0))] (.t 11) (.t 11)),mV 5 12]
def r95_2:List COp:=[mV 13 0,oP 14 (.len false (.t 13)),oP 15 (.mov (kI 0))]
def r95_3:List COp:=[oP 16 (.bin .lss (.t 15) (.t 14))]
def r95_4:List COp:=[mV 17 15,oP 18 (.idx 1 (.t 13) (.t 15)),oP 19 (.load false 1 (.t 18)),mV 6 17,mV 7 19]
def r95_5:List COp:=[mV 20 5,mV 21 6,mV 22 7,oP 23 (.len false (.t 22)),oP 24 (.mksl 1 8 [(.int .i64 0)] (.t 23) (.t 23)),oP 25 (.idx 1 (.t 20) (.t 21)),sT (.store 1 (.t 25) (.t 24))]
def r95_6:List COp:=[mV 26 7,oP 27 (.len false (.t 26)),oP 28 (.mov (kI 0))]
def r95_7:List COp:=[oP 29 (.bin .lss (.t 28) (.t 27))]
def r95_8:List COp:=[mV 30 28,oP 31 (.idx 1 (.t 26) (.t 28)),oP 32 (.load false 1 (.t 31)),mV 8 30,mV 9 32]
def r95_9:List COp:=[mV 33 5,mV 34 6,oP 35 (.idx 1 (.t 33) (.t 34)),oP 36 (.load false 1 (.t 35)),mV 37 8,mV 38 9,mV 39 1,oP 40 (.bin .rem (.t 38) (.t 39)),mV 41 1,oP 42 (.bin .add (.t 40) (.t 41)),mV 43 1,oP 44 (.bin .rem (.t 42) (.t 43)),oP 45 (.idx 1 (.t 36) (.t 37)),sT (.store 1 (.t 45) (.t 44))]
def r95_10:List COp:=[oP 46 (.bin .add (.t 28) (kI 1)),mV 28 46]
def l95_1:CC:=(.seq (.reg r95_7 none) (.seq (.cond (.t 29) .skip (.exit 2)) (.seq (.block 3 (.seq (.reg r95_8 none) (.reg r95_9 (some [])))) (.reg r95_10 none))))
def r95_11:List COp:=[oP 47 (.bin .add (.t 15) (kI 1)),mV 15 47]
def l95_0:CC:=(.seq (.reg r95_3 none) (.seq (.cond (.t 16) .skip (.exit 0)) (.seq (.block 1 (.seq (.reg r95_4 none) (.seq (.reg r95_5 none) (.seq (.reg r95_6 none) (.block 2 (.loop l95_1)))))) (.reg r95_11 none))))
def r95_12:List COp:=[mV 48 5,mV 4 48]
def c95:CC:=(.seq (.reg r95_0 none) (.seq (.reg r95_1 none) (.seq (.seq (.reg r95_2 none) (.block 0 (.loop l95_0))) (.seq (.reg r95_12 none) .ret))))
theorem comp95:CmpC Tryz.prog G Tryz.f95=some c95:=by kernel_rfl
theorem res95:Tryz.f95.results.toList=[(.tmp 4)]:=by kernel_rfl
def r115_0:List COp:=[oP 2 (.mov (.k (.vec [] 0 (some 0))))]
def r115_1:List COp:=[mV 4 0,oP 5 (.len false (.t 4)),mV 3 5]
def r115_2:List COp:=[mV 6 3,oP 7 (.bin .gtr (.t 6) (kI 0)),mV 8 7,gU 9 8 true (.mov (.t 0)),gU 10 8 true (.mov (.t 3)),gU 11 8 true (.bin .sub (.t 10) (kI 1)),gU 12 8 true (.idx 1 (.t 9) (.t 11)),gU 13 8 true (.load false 1 (.t 12)),gU 14 8 true (.bin .eql (.t 13) (.k (.int .u32 0))),oP 15 (.pick (.t 8) (.t 14) (.k (.bool false)))]
def r115_3:List COp:=[mV 16 3,oP 17 (.bin .sub (.t 16) (kI 1)),mV 3 17]
def l115_0:CC:=(.seq (.seq (.reg r115_2 none) (.cond (.t 15) .skip (.exit 0))) (.block 1 (.reg r115_3 none)))
def r115_4:List COp:=[mV 18 0,mV 19 3,oP 20 (.slice 1 (.t 18) none (some (.t 19)) none),oP 21 (.append 1 4 (.k (.vec [] 0 (some 0))) (.t 20)),mV 2 21]
def c115:CC:=(.seq (.reg r115_0 none) (.seq (.reg r115_1 none) (.seq (.block 0 (.loop l115_0)) (.seq (.reg r115_4 none) .ret))))
theorem comp115:CmpC Tryz.prog G Tryz.f115=some c115:=by kernel_rfl
theorem res115:Tryz.f115.results.toList=[(.tmp 2)]:=by kernel_rfl
def r116_0:List COp:=[oP 4 (.box (.k (.agg [(.bool false),(.vec [] 0 (some 0))])))]
def r116_1:List COp:=[mV 6 1,oP 7 (.call 115 [.t 6]),mV 5 7]
def r116_2:List COp:=[mV 8 0,mV 9 8,gU 10 9 true (.mov (.t 5)),gU 11 9 true (.len false (.t 10)),gU 12 9 true (.bin .gtr (.t 11) (kI 0)),oP 13 (.pick (.t 9) (.t 12) (.k (.bool false))),mV 14 5,oP 15 (.build [(.bool false),(.vec [] 0 (some 0))] [(0,(1,(.t 13))),(1,(1,(.t 14)))]),sT (.store 2 (.t 4) (.t 15))]
def c116:CC:=(.seq (.reg r116_0 none) (.seq (.reg r116_1 none) (.seq (.reg r116_2 none) .ret)))
theorem comp116:CmpC Tryz.prog G Tryz.f116=some c116:=by kernel_rfl
theorem res116:Tryz.f116.results.toList=[(.cell 4 37)]:=by kernel_rfl
def r117_0:List COp:=[oP 1 (.box (.t 0)),oP 2 (.box (.k (.agg [(.bool false),(.vec [] 0 (some 0))])))]
def r117_1:List COp:=[oP 3 (.fld 1 (.t 1)),oP 4 (.load false 1 (.t 3)),oP 5 (.call 116 [(.k (.bool false)),.t 4]),sT (.store 2 (.t 2) (.t 5))]
def c117:CC:=(.seq (.reg r117_0 none) (.seq (.reg r117_1 none) .ret))
theorem comp117:CmpC Tryz.prog G Tryz.f117=some c117:=by kernel_rfl
theorem res117:Tryz.f117.results.toList=[(.cell 2 37)]:=by kernel_rfl
def r118_0:List COp:=[oP 2 (.box (.t 0)),oP 3 (.box (.t 1)),oP 4 (.box (.k (.agg [(.bool false),(.vec [] 0 (some 0))])))]
def r118_1:List COp:=[oP 9 (.load true 2 (.t 2)),oP 10 (.load true 2 (.t 3)),oP 11 (.call 119 [.t 9,.t 10]),mV 8 11,oP 12 (.ext (.t 8) 0),oP 13 (.ext (.t 8) 1),oP 14 (.ext (.t 8) 2),oP 5 (.box (.k (.agg [(.bool false),(.vec [] 0 (some 0))]))),oP 6 (.box (.k (.agg [(.bool false),(.vec [] 0 (some 0))]))),sT (.store 2 (.t 5) (.t 12)),sT (.store 2 (.t 6) (.t 13)),mV 7 14]
def r118_2:List COp:=[oP 15 (.load true 2 (.t 6)),sT (.store 2 (.t 4) (.t 15))]
def c118:CC:=(.seq (.reg r118_0 none) (.seq (.reg r118_1 none) (.seq (.reg r118_2 none) .ret)))
theorem comp118:CmpC Tryz.prog G Tryz.f118=some c118:=by kernel_rfl
theorem res118:Tryz.f118.results.toList=[(.cell 4 37)]:=by kernel_rfl
def r119_0:List COp:=[oP 2 (.box (.t 0)),oP 3 (.box (.t 1)),oP 4 (.box (.k (.agg [(.bool false),(.vec [] 0 (some 0))]))),oP 5 (.box (.k (.agg [(.bool false),(.vec [] 0 (some 0))]))),oP 6 (.mov (.k (.bool false)))]
def r119_1:List COp:=[oP 13 (.fld 1 (.t 2)),oP 14 (.load false 1 (.t 13)),oP 15 (.call 115 [.t 14]),oP 16 (.fld 1 (.t 3)),oP 17 (.load false 1 (.t 16)),oP 18 (.call 115 [.t 17]),mV 7 15,mV 8 18]
def r119_2:List COp:=[mV 19 8,oP 20 (.len false (.t 19)),oP 21 (.bin .eql (.t 20) (kI 0))]
def r119_3:List COp:=[oP 22 (.build [(.bool false),(.vec [] 0 (some 0))] []),oP 23 (.build [(.bool false),(.vec [] 0 (some 0))] []),sT (.store 2 (.t 4) (.t 22)),sT (.store 2 (.t 5) (.t 23)),oP 6 (.mov (.k (.bool false)))]
def r119_4:List COp:=[mV 25 7,mV 26 8,oP 27 (.call 159 [.t 25,.t 26]),mV 24 27,oP 28 (.ext (.t 24) 0),oP 29 (.ext (.t 24) 1),mV 9 28,mV 10 29]
def r119_5:List COp:=[oP 30 (.fld 0 (.t 2)),oP 31 (.load false 1 (.t 30)),oP 32 (.fld 0 (.t 3)),oP 33 (.load false 1 (.t 32)),oP 34 (.beq true (.t 31) (.t 33)),mV 35 9,oP 36 (.call 116 [.t 34,.t 35]),oP 37 (.fld 0 (.t 2)),oP 38 (.load false 1 (.t 37)),mV 39 10,oP 40 (.call 116 [.t 38,.t 39]),oP 11 (.box (.k (.agg [(.bool false),(.vec [] 0 (some 0))]))),oP 12 (.box (.k (.agg [(.bool false),(.vec [] 0 (some 0))]))),sT (.store 2 (.t 11) (.t 36)),sT (.store 2 (.t 12) (.t 40))]
def r119_6:List COp:=[oP 41 (.load true 2 (.t 12)),oP 42 (.call 62 [.t 41]),oP 43 (.bin .lss (.t 42) (kI 0))]
def r119_7:List COp:=[oP 44 (.load true 2 (.t 12)),mV 45 8,oP 46 (.call 116 [(.k (.bool false)),.t 45]),oP 47 (.call 130 [.t 44,.t 46]),sT (.store 2 (.t 12) (.t 47))]
def r119_8:List COp:=[oP 48 (.load true 2 (.t 3)),oP 49 (.call 62 [.t 48]),oP 50 (.bin .lss (.t 49) (kI 0))]
def r119_9:List COp:=[oP 51 (.load true 2 (.t 11)),oP 52 (.call 27 [(kI 1)]),oP 53 (.call 130 [.t 51,.t 52]),oP 54 (.load true 2 (.t 12)),sT (.store 2 (.t 4) (.t 53)),sT (.store 2 (.t 5) (.t 54)),oP 6 (.mov (.k (.bool true)))]
def r119_10:List COp:=[oP 55 (.load true 2 (.t 11)),oP 56 (.call 27 [(kI 1)]),oP 57 (.call 122 [.t 55,.t 56]),oP 58 (.load true 2 (.t 12)),sT (.store 2 (.t 4) (.t 57)),sT (.store 2 (.t 5) (.t 58)),oP 6 (.mov (.k (.bool true)))]
def r119_11:List COp:=[oP 59 (.load true 2 (.t 11)),oP 60 (.load true 2 (.t 12)),sT (.store 2 (.t 4) (.t 59)),sT (.store 2 (.t 5) (.t 60)),oP 6 (.mov (.k (.bool true)))]
def c119:CC:=(.seq (.reg r119_0 none) (.seq (.reg r119_1 (some [(1,4),(2,4)])) (.seq (.seq (.reg r119_2 none) (.cond (.t 21) (.seq (.reg r119_3 none) .ret) .skip)) (.seq (.reg r119_4 none) (.seq (.reg r119_5 (some [(1,3),(1,8),(3,8),(6,8),(1,11),(3,11),(6,11),(8,11),(10,11),(1,12),(3,12),(6,12),(8,12),(10,12),(11,12)])) (.seq (.seq (.reg r119_6 none) (.cond (.t 43) (.seq (.reg r119_7 (some [(0,2)])) (.seq (.seq (.reg r119_8 none) (.cond (.t 50) (.seq (.reg r119_9 (some [(0,1),(0,3),(1,3),(2,3),(3,4)])) .ret) .skip)) (.seq (.reg r119_10 (some [(0,1),(0,3),(1,3),(2,3),(3,4)])) .ret))) .skip)) (.seq (.reg r119_11 (some [(0,1),(1,2)])) .ret)))))))
theorem comp119:CmpC Tryz.prog G Tryz.f119=some c119:=by kernel_rfl
theorem res119:Tryz.f119.results.toList=[(.cell 4 37),(.cell 5 37),(.tmp 6)]:=by kernel_rfl
def r121_0:List COp:=[oP 4 (.mov (kI 0))]
def r121_1:List COp:=[mV 6 0,oP 7 (.len false (.t 6)),mV 8 1,oP 9 (.len false (.t 8)),oP 10 (.bin .neq (.t 7) (.t 9))]
def r121_2:List COp:=[mV 11 0,oP 12 (.len false (.t 11)),mV 13 1,oP 14 (.len false (.t 13)),oP 15 (.bin .lss (.t 12) (.t 14))]
def r121_3:List COp:=[oP 4 (.mov (.k (.int .i64 (-1))))]
def r121_4:List COp:=[oP 4 (.mov (kI 1))]
def r121_5:List COp:=[mV 16 0,oP 17 (.len false (.t 16)),oP 18 (.bin .sub (.t 17) (kI 1)),mV 5 18]
def r121_6:List COp:=[mV 19 5,oP 20 (.bin .geq (.t 19) (kI 0))]
def r121_7:List COp:=[mV 23 0,mV 24 5,oP 25 (.idx 1 (.t 23) (.t 24)),oP 26 (.load false 1 (.t 25)),mV 27 1,mV 28 5,oP 29 (.idx 1 (.t 27) (.t 28)),oP 30 (.load false 1 (.t 29)),oP 31 (.bin .neq (.t 26) (.t 30))]
def r121_8:List COp:=[mV 32 0,mV 33 5,oP 34 (.idx 1 (.t 32) (.t 33)),oP 35 (.load false 1 (.t 34)),mV 36 1,mV 37 5,oP 38 (.idx 1 (.t 36) (.t 37)),oP 39 (.load false 1 (.t 38)),oP 40 (.bin .lss (.t 35) (.t 39))]
def r121_9:List COp:=[oP 4 (.mov (.k (.int .i64 (-1))))]
def r121_10:List COp:=[oP 4 (.mov (kI 1))]
def r121_11:List COp:=[mV 21 5,oP 22 (.bin .sub (.t 21) (kI 1)),mV 5 22]
def l121_0:CC:=(.seq (.seq (.reg r121_6 none) (.cond (.t 20) .skip (.exit 0))) (.seq (.block 1 (.seq (.reg r121_7 (some [(3,7)])) (.cond (.t 31) (.seq (.seq (.reg r121_8 (some [(3,7)])) (.cond (.t 40) (.seq (.reg r121_9 none) .ret) .skip)) (.seq (.reg r121_10 none) .ret)) .skip))) (.reg r121_11 none)))
def r121_12:List COp:=[oP 4 (.mov (kI 0))]
def c121:CC:=(.seq (.reg r121_0 none) (.seq (.seq (.reg r121_1 none) (.cond (.t 10) (.seq (.seq (.reg r121_2 none) (.cond (.t 15) (.seq (.reg r121_3 none) .ret) .skip)) (.seq (.reg r121_4 none) .ret)) .skip)) (.seq (.seq (.reg r121_5 none) (.block 0 (.loop l121_0))) (.seq (.reg r121_12 none) .ret))))
theorem comp121:CmpC Tryz.prog G Tryz.f121=some c121:=by kernel_rfl
theorem res121:Tryz.f121.results.toList=[(.tmp 4)]:=by kernel_rfl
def r122_0:List COp:=[oP 2 (.box (.t 0)),oP 3 (.box (.t 1)),oP 4 (.box (.k (.agg [(.bool false),(.vec [] 0 (some 0))])))]
def r122_1:List COp:=[oP 5 (.load true 2 (.t 2)),oP 6 (.load true 2 (.t 3)),oP 7 (.call 63 [.t 6]),oP 8 (.call 130 [.t 5,.t 7]),sT (.store 2 (.t 4) (.t 8))]
def c122:CC:=(.seq (.reg r122_0 none) (.seq (.reg r122_1 (some [(0,1),(0,2)])) .ret))
theorem comp122:CmpC Tryz.prog G Tryz.f122=some c122:=by kernel_rfl
theorem res122:Tryz.f122.results.toList=[(.cell 4 37)]:=by kernel_rfl
def r123_0:List COp:=[oP 2 (.box (.t 0)),oP 3 (.box (.t 1)),oP 4 (.box (.k (.agg [(.bool false),(.vec [] 0 (some 0))])))]
def r123_1:List COp:=[oP 11 (.fld 1 (.t 2)),oP 12 (.load false 1 (.t 11)),oP 13 (.len false (.t 12)),oP 14 (.fld 1 (.t 3)),oP 15 (.load false 1 (.t 14)),oP 16 (.len false (.t 15)),oP 17 (.bin .add (.t 13) (.t 16)),oP 18 (.mksl 1 4 [(.int .u32 0)] (.t 17) (.t 17)),mV 5 18]
def r123_2:List COp:=[oP 19 (.fld 1 (.t 2)),oP 20 (.load false 1 (.t 19)),oP 21 (.len false (.t 20)),oP 22 (.mov (kI 0))]
def r123_3:List COp:=[oP 23 (.bin .lss (.t 22) (.t 21))]
def r123_4:List COp:=[mV 24 22,oP 25 (.idx 1 (.t 20) (.t 22)),oP 26 (.load false 1 (.t 25)),mV 6 24,mV 7 26]
def r123_5:List COp:=[oP 8 (.mov (.k (.int .u64 0)))]
def r123_6:List COp:=[oP 27 (.fld 1 (.t 3)),oP 28 (.load false 1 (.t 27)),oP 29 (.len false (.t 28)),oP 30 (.mov (kI 0))]
def r123_7:List COp:=[oP 31 (.bin .lss (.t 30) (.t 29))]
def r123_8:List COp:=[mV 32 30,oP 33 (.idx 1 (.t 28) (.t 30)),oP 34 (.load false 1 (.t 33)),mV 9 32,mV 10 34]
def r123_9:List COp:=[mV 35 8,mV 36 7,oP 37 (.conv .u64 (.t 36)),mV 38 10,oP 39 (.conv .u64 (.t 38)),oP 40 (.bin .mul (.t 37) (.t 39)),mV 41 5,mV 42 6,mV 43 9,oP 44 (.bin .add (.t 42) (.t 43)),oP 45 (.idx 1 (.t 41) (.t 44)),oP 46 (.load false 1 (.t 45)),oP 47 (.conv .u64 (.t 46)),oP 48 (.bin .add (.t 40) (.t 47)),oP 49 (.bin .add (.t 35) (.t 48)),mV 8 49]
def r123_10:List COp:=[mV 50 5,mV 51 6,mV 52 9,oP 53 (.bin .add (.t 51) (.t 52)),mV 54 8,oP 55 (.conv .u32 (.t 54)),oP 56 (.idx 1 (.t 50) (.t 53)),sT (.store 1 (.t 56) (.t 55))]
def r123_11:List COp:=[mV 57 8,oP 58 (.bin .shr (.t 57) (.k (.int .u64 32))),mV 8 58]
def r123_12:List COp:=[oP 59 (.bin .add (.t 30) (kI 1)),mV 30 59]
def l123_1:CC:=(.seq (.reg r123_7 none) (.seq (.cond (.t 31) .skip (.exit 2)) (.seq (.block 3 (.seq (.reg r123_8 none) (.seq (.reg r123_9 none) (.seq (.reg r123_10 none) (.reg r123_11 none))))) (.reg r123_12 none))))
def r123_13:List COp:=[mV 60 5,mV 61 6,oP 62 (.fld 1 (.t 3)),oP 63 (.load false 1 (.t 62)),oP 64 (.len false (.t 63)),oP 65 (.bin .add (.t 61) (.t 64)),mV 66 8,oP 67 (.conv .u32 (.t 66)),oP 68 (.idx 1 (.t 60) (.t 65)),sT (.store 1 (.t 68) (.t 67))]
def r123_14:List COp:=[oP 69 (.bin .add (.t 22) (kI 1)),mV 22 69]
def l123_0:CC:=(.seq (.reg r123_3 none) (.seq (.cond (.t 23) .skip (.exit 0)) (.seq (.block 1 (.seq (.reg r123_4 none) (.seq (.reg r123_5 none) (.seq (.seq (.reg r123_6 none) (.block 2 (.loop l123_1))) (.reg r123_13 none))))) (.reg r123_14 none))))
def r123_15:List COp:=[oP 70 (.fld 0 (.t 2)),oP 71 (.load false 1 (.t 70)),oP 72 (.fld 0 (.t 3)),oP 73 (.load false 1 (.t 72)),oP 74 (.beq true (.t 71) (.t 73)),mV 75 5,oP 76 (.call 116 [.t 74,.t 75]),sT (.store 2 (.t 4) (.t 76))]
def c123:CC:=(.seq (.reg r123_0 none) (.seq (.reg r123_1 none) (.seq (.seq (.reg r123_2 none) (.block 0 (.loop l123_0))) (.seq (.reg r123_15 none) .ret))))
theorem comp123:CmpC Tryz.prog G Tryz.f123=some c123:=by kernel_rfl
theorem res123:Tryz.f123.results.toList=[(.cell 4 37)]:=by kernel_rfl
def r124_0:List COp:=[oP 6 (.mov (.k (.vec [] 0 (some 0))))]
def r124_1:List COp:=[oP 7 (.mov (.k (.vec [] 0 (some 0))))]
def r124_2:List COp:=[mV 13 1,oP 14 (.len false (.t 13)),oP 15 (.mov (kI 0))]
def r124_3:List COp:=[oP 16 (.bin .lss (.t 15) (.t 14))]
def r124_4:List COp:=[oP 17 (.idx 1 (.t 13) (.t 15)),oP 18 (.load false 1 (.t 17)),mV 9 18]
def r124_5:List COp:=[oP 10 (.mov (.k (.vec [] 0 (some 0))))]
def r124_6:List COp:=[mV 19 2,oP 20 (.len false (.t 19)),oP 21 (.mov (kI 0))]
def r124_7:List COp:=[oP 22 (.bin .lss (.t 21) (.t 20))]
def r124_8:List COp:=[oP 23 (.idx 1 (.t 19) (.t 21)),oP 24 (.load false 1 (.t 23)),mV 12 24]
def r124_9:List COp:=[mV 25 10,mV 26 0,mV 27 9,oP 28 (.idx 1 (.t 26) (.t 27)),oP 29 (.load false 1 (.t 28)),mV 30 12,oP 31 (.idx 2 (.t 29) (.t 30)),oP 32 (.load true 2 (.t 31)),oP 33 (.bsl 1 2 [(.bool false),(.vec [] 0 (some 0))] [(0,(2,(.t 32)))]),oP 34 (.append 2 32 (.t 25) (.t 33)),mV 10 34]
def r124_10:List COp:=[oP 35 (.bin .add (.t 21) (kI 1)),mV 21 35]
def l124_1:CC:=(.seq (.reg r124_7 none) (.seq (.cond (.t 22) .skip (.exit 2)) (.seq (.block 3 (.seq (.reg r124_8 none) (.reg r124_9 none))) (.reg r124_10 none))))
def r124_11:List COp:=[mV 36 7,mV 37 10,oP 38 (.bsl 1 1 [(.vec [] 0 (some 0))] [(0,(1,(.t 37)))]),oP 39 (.append 1 24 (.t 36) (.t 38)),mV 7 39]
def r124_12:List COp:=[oP 40 (.bin .add (.t 15) (kI 1)),mV 15 40]
def l124_0:CC:=(.seq (.reg r124_3 none) (.seq (.cond (.t 16) .skip (.exit 0)) (.seq (.block 1 (.seq (.reg r124_4 none) (.seq (.reg r124_5 none) (.seq (.seq (.reg r124_6 none) (.block 2 (.loop l124_1))) (.reg r124_11 none))))) (.reg r124_12 none))))
def r124_13:List COp:=[mV 41 7,mV 6 41]
def c124:CC:=(.seq (.reg r124_0 none) (.seq (.reg r124_1 none) (.seq (.seq (.reg r124_2 none) (.block 0 (.loop l124_0))) (.seq (.reg r124_13 none) .ret))))
theorem comp124:CmpC Tryz.prog G Tryz.f124=some c124:=by kernel_rfl
theorem res124:Tryz.f124.results.toList=[(.tmp 6)]:=by kernel_rfl
def r125_0:List COp:=[oP 4 (.mov (.k (.vec [] 0 (some 0))))]
def r125_1:List COp:=[oP 5 (.mov (.k (.vec [] 0 (some 0))))]
def r125_2:List COp:=[oP 6 (.mov (kI 0))]
def r125_3:List COp:=[mV 7 6,mV 8 0,oP 9 (.bin .lss (.t 7) (.t 8))]
def r125_4:List COp:=[mV 12 5,mV 13 6,oP 14 (.bsl 1 1 [(.int .i64 0)] [(0,(1,(.t 13)))]),oP 15 (.append 1 8 (.t 12) (.t 14)),mV 5 15]
def r125_5:List COp:=[mV 10 6,oP 11 (.bin .add (.t 10) (kI 1)),mV 6 11]
def l125_0:CC:=(.seq (.seq (.reg r125_3 none) (.cond (.t 9) .skip (.exit 0))) (.seq (.block 1 (.reg r125_4 none)) (.reg r125_5 none)))
def r125_6:List COp:=[mV 16 5,mV 17 1,oP 18 (.bsl 1 1 [(.int .i64 0)] [(0,(1,(.t 17)))]),oP 19 (.append 1 8 (.t 16) (.t 18)),mV 4 19]
def c125:CC:=(.seq (.reg r125_0 none) (.seq (.reg r125_1 none) (.seq (.seq (.reg r125_2 none) (.block 0 (.loop l125_0))) (.seq (.reg r125_6 none) .ret))))
theorem comp125:CmpC Tryz.prog G Tryz.f125=some c125:=by kernel_rfl
theorem res125:Tryz.f125.results.toList=[(.tmp 4)]:=by kernel_rfl
def r126_0:List COp:=[oP 1 (.box (.t 0)),oP 2 (.box (.k (.agg [(.bool false),(.vec [] 0 (some 0))])))]
def r126_1:List COp:=[oP 4 (.load true 4 (.t 1)),oP 5 (.call 129 [.t 4]),oP 3 (.box (.k (.agg [(.bool false),(.vec [] 0 (some 0)),(.bool false),(.vec [] 0 (some 0))]))),sT (.store 4 (.t 3) (.t 5))]
def r126_2:List COp:=[oP 6 (.fld 0 (.t 3)),oP 7 (.load true 2 (.t 6)),oP 8 (.fld 2 (.t 3)),oP 9 (.load true 2 (.t 8)),oP 10 (.call 65 [.t 7,.t 9]),sT (.store 2 (.t 2) (.t 10))]
def c126:CC:=(.seq (.reg r126_0 none) (.seq (.reg r126_1 none) (.seq (.reg r126_2 none) .ret)))
theorem comp126:CmpC Tryz.prog G Tryz.f126=some c126:=by kernel_rfl
theorem res126:Tryz.f126.results.toList=[(.cell 2 37)]:=by kernel_rfl
def r127_0:List COp:=[oP 2 (.box (.t 0)),oP 3 (.box (.t 1)),oP 4 (.box (.k (.agg [(.bool false),(.vec [] 0 (some 0)),(.bool false),(.vec [] 0 (some 0))])))]
def r127_1:List COp:=[oP 9 (.load true 4 (.t 2)),oP 10 (.call 129 [.t 9]),oP 11 (.load true 4 (.t 3)),oP 12 (.call 129 [.t 11]),oP 5 (.box (.k (.agg [(.bool false),(.vec [] 0 (some 0)),(.bool false),(.vec [] 0 (some 0))]))),oP 6 (.box (.k (.agg [(.bool false),(.vec [] 0 (some 0)),(.bool false),(.vec [] 0 (some 0))]))),sT (.store 4 (.t 5) (.t 10)),sT (.store 4 (.t 6) (.t 12))]
def r127_2:List COp:=[oP 14 (.fld 0 (.t 5)),oP 15 (.load true 2 (.t 14)),oP 16 (.fld 2 (.t 6)),oP 17 (.load true 2 (.t 16)),oP 18 (.call 123 [.t 15,.t 17]),oP 19 (.fld 0 (.t 6)),oP 20 (.load true 2 (.t 19)),oP 21 (.fld 2 (.t 5)),oP 22 (.load true 2 (.t 21)),oP 23 (.call 123 [.t 20,.t 22]),oP 24 (.call 130 [.t 18,.t 23]),oP 25 (.fld 2 (.t 5)),oP 26 (.load true 2 (.t 25)),oP 27 (.fld 2 (.t 6)),oP 28 (.load true 2 (.t 27)),oP 29 (.call 123 [.t 26,.t 28]),oP 30 (.call 26 [.t 24,.t 29]),mV 13 30,oP 31 (.ext (.t 13) 0),oP 32 (.ext (.t 13) 1),oP 7 (.box (.k (.agg [(.bool false),(.vec [] 0 (some 0)),(.bool false),(.vec [] 0 (some 0))]))),sT (.store 4 (.t 7) (.t 31)),mV 8 32]
def r127_3:List COp:=[oP 33 (.load true 4 (.t 7)),sT (.store 4 (.t 4) (.t 33))]
def c127:CC:=(.seq (.reg r127_0 none) (.seq (.reg r127_1 (some [(0,2),(1,2),(0,4),(1,4),(2,4),(3,4),(0,5),(1,5),(2,5),(3,5),(4,5)])) (.seq (.reg r127_2 (some [(1,3),(1,6),(3,6),(4,6),(1,8),(3,8),(4,8),(6,8),(1,12),(3,12),(4,12),(6,12),(8,12),(9,12),(10,12),(1,14),(3,14),(4,14),(6,14),(8,14),(9,14),(10,14),(12,14),(1,20),(3,20),(4,20),(6,20),(8,20),(9,20),(10,20),(12,20),(14,20),(15,20),(16,20)])) (.seq (.reg r127_3 none) .ret))))
theorem comp127:CmpC Tryz.prog G Tryz.f127=some c127:=by kernel_rfl
theorem res127:Tryz.f127.results.toList=[(.cell 4 39)]:=by kernel_rfl
def r128_0:List COp:=[oP 0 (.box (.k (.agg [(.bool false),(.vec [] 0 (some 0)),(.bool false),(.vec [] 0 (some 0))])))]
def r128_1:List COp:=[oP 1 (.call 27 [(kI 1)]),oP 2 (.call 27 [(kI 2)]),oP 3 (.build [(.bool false),(.vec [] 0 (some 0)),(.bool false),(.vec [] 0 (some 0))] [(0,(2,(.t 1))),(2,(2,(.t 2)))]),sT (.store 4 (.t 0) (.t 3))]
def c128:CC:=(.seq (.reg r128_0 none) (.seq (.reg r128_1 none) .ret))
theorem comp128:CmpC Tryz.prog G Tryz.f128=some c128:=by kernel_rfl
theorem res128:Tryz.f128.results.toList=[(.cell 0 39)]:=by kernel_rfl
def r129_0:List COp:=[oP 1 (.box (.t 0)),oP 2 (.box (.k (.agg [(.bool false),(.vec [] 0 (some 0)),(.bool false),(.vec [] 0 (some 0))])))]
def r129_1:List COp:=[oP 6 (.fld 0 (.t 1)),oP 7 (.load true 2 (.t 6)),oP 8 (.fld 2 (.t 1)),oP 9 (.load true 2 (.t 8)),oP 10 (.call 26 [.t 7,.t 9]),mV 5 10,oP 11 (.ext (.t 5) 0),oP 12 (.ext (.t 5) 1),oP 3 (.box (.k (.agg [(.bool false),(.vec [] 0 (some 0)),(.bool false),(.vec [] 0 (some 0))]))),sT (.store 4 (.t 3) (.t 11)),mV 4 12]
def r129_2:List COp:=[mV 13 4,oP 14 (.un .not (.t 13))]
def r129_3:List COp:=[oP 15 (.call 160 [(kI 0)]),sT (.store 4 (.t 2) (.t 15))]
def r129_4:List COp:=[oP 16 (.load true 4 (.t 3)),sT (.store 4 (.t 2) (.t 16))]
def c129:CC:=(.seq (.reg r129_0 none) (.seq (.reg r129_1 none) (.seq (.seq (.reg r129_2 none) (.cond (.t 14) (.seq (.reg r129_3 none) .ret) .skip)) (.seq (.reg r129_4 none) .ret))))
theorem comp129:CmpC Tryz.prog G Tryz.f129=some c129:=by kernel_rfl
theorem res129:Tryz.f129.results.toList=[(.cell 2 39)]:=by kernel_rfl
def r130_0:List COp:=[oP 2 (.box (.t 0)),oP 3 (.box (.t 1)),oP 4 (.box (.k (.agg [(.bool false),(.vec [] 0 (some 0))])))]
def r130_1:List COp:=[oP 7 (.fld 1 (.t 2)),oP 8 (.load false 1 (.t 7)),oP 9 (.call 115 [.t 8]),oP 10 (.fld 1 (.t 3)),oP 11 (.load false 1 (.t 10)),oP 12 (.call 115 [.t 11]),mV 5 9,mV 6 12]
def r130_2:List COp:=[oP 13 (.fld 0 (.t 2)),oP 14 (.load false 1 (.t 13)),oP 15 (.fld 0 (.t 3)),oP 16 (.load false 1 (.t 15)),oP 17 (.beq false (.t 14) (.t 16))]
def r130_3:List COp:=[oP 18 (.fld 0 (.t 2)),oP 19 (.load false 1 (.t 18)),mV 20 5,mV 21 6,oP 22 (.call 161 [.t 20,.t 21]),oP 23 (.call 116 [.t 19,.t 22]),sT (.store 2 (.t 4) (.t 23))]
def r130_4:List COp:=[mV 24 5,mV 25 6,oP 26 (.call 121 [.t 24,.t 25]),oP 27 (.bin .geq (.t 26) (kI 0))]
def r130_5:List COp:=[oP 28 (.fld 0 (.t 2)),oP 29 (.load false 1 (.t 28)),mV 30 5,mV 31 6,oP 32 (.call 162 [.t 30,.t 31]),oP 33 (.call 116 [.t 29,.t 32]),sT (.store 2 (.t 4) (.t 33))]
def r130_6:List COp:=[oP 34 (.fld 0 (.t 3)),oP 35 (.load false 1 (.t 34)),mV 36 6,mV 37 5,oP 38 (.call 162 [.t 36,.t 37]),oP 39 (.call 116 [.t 35,.t 38]),sT (.store 2 (.t 4) (.t 39))]
def c130:CC:=(.seq (.reg r130_0 none) (.seq (.reg r130_1 (some [(1,4),(2,4)])) (.seq (.seq (.reg r130_2 none) (.cond (.t 17) (.seq (.reg r130_3 (some [(1,4)])) .ret) .skip)) (.seq (.seq (.reg r130_4 none) (.cond (.t 27) (.seq (.reg r130_5 (some [(1,4)])) .ret) .skip)) (.seq (.reg r130_6 (some [(1,4)])) .ret)))))
theorem comp130:CmpC Tryz.prog G Tryz.f130=some c130:=by kernel_rfl
theorem res130:Tryz.f130.results.toList=[(.cell 4 37)]:=by kernel_rfl
def r131_0:List COp:=[oP 2 (.mov (.k (.int .u64 0)))]
def r131_1:List COp:=[oP 3 (.mov (.k (.int .u64 0)))]
def r131_2:List COp:=[oP 4 (.mov (kI 0))]
def r131_3:List COp:=[mV 5 4,mV 6 0,oP 7 (.len false (.t 6)),oP 8 (.bin .lss (.t 5) (.t 7)),mV 9 8,gU 10 9 true (.mov (.t 4)),gU 11 9 true (.bin .lss (.t 10) (kI 2)),oP 12 (.pick (.t 9) (.t 11) (.k (.bool false)))]
def r131_4:List COp:=[mV 15 3,mV 16 0,mV 17 4,oP 18 (.idx 1 (.t 16) (.t 17)),oP 19 (.load false 1 (.t 18)),oP 20 (.conv .u64 (.t 19)),mV 21 4,oP 22 (.bin .mul (kI 32) (.t 21)),oP 23 (.bin .shl (.t 20) (.t 22)),oP 24 (.bin .or (.t 15) (.t 23)),mV 3 24]
def r131_5:List COp:=[mV 13 4,oP 14 (.bin .add (.t 13) (kI 1)),mV 4 14]
def l131_0:CC:=(.seq (.seq (.reg r131_3 none) (.cond (.t 12) .skip (.exit 0))) (.seq (.block 1 (.reg r131_4 none)) (.reg r131_5 none)))
def r131_6:List COp:=[mV 25 3,mV 2 25]
def c131:CC:=(.seq (.reg r131_0 none) (.seq (.reg r131_1 none) (.seq (.seq (.reg r131_2 none) (.block 0 (.loop l131_0))) (.seq (.reg r131_6 none) .ret))))
theorem comp131:CmpC Tryz.prog G Tryz.f131=some c131:=by kernel_rfl
theorem res131:Tryz.f131.results.toList=[(.tmp 2)]:=by kernel_rfl
def r132_0:List COp:=[oP 4 (.box (.k (.agg [(.bool false),(.vec [] 0 (some 0))])))]
def r132_1:List COp:=[oP 7 (.build [(.bool false),(.vec [] 0 (some 0))] []),oP 5 (.box (.k (.agg [(.bool false),(.vec [] 0 (some 0))]))),sT (.store 2 (.t 5) (.t 7))]
def r132_2:List COp:=[mV 8 0,oP 9 (.len false (.t 8)),oP 10 (.mov (kI 0))]
def r132_3:List COp:=[oP 11 (.bin .lss (.t 10) (.t 9))]
def r132_4:List COp:=[mV 12 10,mV 6 12]
def r132_5:List COp:=[oP 13 (.load true 2 (.t 5)),mV 14 0,mV 15 6,oP 16 (.idx 2 (.t 14) (.t 15)),oP 17 (.load true 2 (.t 16)),mV 18 1,mV 19 6,oP 20 (.idx 2 (.t 18) (.t 19)),oP 21 (.load true 2 (.t 20)),oP 22 (.call 123 [.t 17,.t 21]),oP 23 (.call 130 [.t 13,.t 22]),sT (.store 2 (.t 5) (.t 23))]
def r132_6:List COp:=[oP 24 (.bin .add (.t 10) (kI 1)),mV 10 24]
def l132_0:CC:=(.seq (.reg r132_3 none) (.seq (.cond (.t 11) .skip (.exit 0)) (.seq (.block 1 (.seq (.reg r132_4 none) (.reg r132_5 (some [(0,4),(0,8),(4,8),(0,9)])))) (.reg r132_6 none))))
def r132_7:List COp:=[oP 25 (.load true 2 (.t 5)),sT (.store 2 (.t 4) (.t 25))]
def c132:CC:=(.seq (.reg r132_0 none) (.seq (.reg r132_1 none) (.seq (.seq (.reg r132_2 none) (.block 0 (.loop l132_0))) (.seq (.reg r132_7 none) .ret))))
theorem comp132:CmpC Tryz.prog G Tryz.f132=some c132:=by kernel_rfl
theorem res132:Tryz.f132.results.toList=[(.cell 4 37)]:=by kernel_rfl
def r159_0:List COp:=[oP 4 (.mov (.k (.vec [] 0 (some 0)))),oP 5 (.mov (.k (.vec [] 0 (some 0))))]
def r159_1:List COp:=[mV 9 0,oP 10 (.len false (.t 9)),oP 11 (.bin .leq (.t 10) (kI 2)),mV 12 11,gU 13 12 true (.mov (.t 1)),gU 14 12 true (.len false (.t 13)),gU 15 12 true (.bin .leq (.t 14) (kI 2)),oP 16 (.pick (.t 12) (.t 15) (.k (.bool false)))]
def r159_2:List COp:=[mV 17 0,oP 18 (.call 131 [.t 17]),mV 19 1,oP 20 (.call 131 [.t 19]),mV 6 18,mV 7 20]
def r159_3:List COp:=[mV 21 6,mV 22 7,oP 23 (.bin .quo (.t 21) (.t 22)),oP 24 (.call 66 [(.k (.bool false)),.t 23]),oP 25 (.part false 1 1 (.t 24)),mV 26 6,mV 27 7,oP 28 (.bin .rem (.t 26) (.t 27)),oP 29 (.call 66 [(.k (.bool false)),.t 28]),oP 30 (.part false 1 1 (.t 29)),mV 4 25,mV 5 30]
def r159_4:List COp:=[mV 31 0,oP 32 (.len false (.t 31)),oP 33 (.mksl 1 4 [(.int .u32 0)] (.t 32) (.t 32)),mV 4 33]
def r159_5:List COp:=[mV 34 0,oP 35 (.len false (.t 34)),oP 36 (.bin .mul (kI 32) (.t 35)),oP 37 (.bin .sub (.t 36) (kI 1)),mV 8 37]
def r159_6:List COp:=[mV 38 8,oP 39 (.bin .geq (.t 38) (kI 0))]
def r159_7:List COp:=[mV 42 5,mV 43 0,mV 44 8,oP 45 (.bin .quo (.t 44) (kI 32)),oP 46 (.idx 1 (.t 43) (.t 45)),oP 47 (.load false 1 (.t 46)),mV 48 8,oP 49 (.bin .rem (.t 48) (kI 32)),oP 50 (.bin .shr (.t 47) (.t 49)),oP 51 (.bin .and (.t 50) (.k (.int .u32 1))),oP 52 (.call 176 [.t 42,.t 51]),oP 53 (.call 115 [.t 52]),mV 5 53]
def r159_8:List COp:=[mV 54 5,mV 55 1,oP 56 (.call 121 [.t 54,.t 55]),oP 57 (.bin .geq (.t 56) (kI 0))]
def r159_9:List COp:=[mV 58 5,mV 59 1,oP 60 (.call 162 [.t 58,.t 59]),oP 61 (.call 115 [.t 60]),mV 5 61]
def r159_10:List COp:=[mV 62 4,mV 63 8,oP 64 (.bin .quo (.t 63) (kI 32)),oP 65 (.idx 1 (.t 62) (.t 64)),oP 66 (.load false 1 (.t 65)),mV 67 8,oP 68 (.bin .rem (.t 67) (kI 32)),oP 69 (.bin .shl (.k (.int .u32 1)) (.t 68)),oP 70 (.bin .or (.t 66) (.t 69)),oP 71 (.idx 1 (.t 62) (.t 64)),sT (.store 1 (.t 71) (.t 70))]
def r159_11:List COp:=[mV 40 8,oP 41 (.bin .sub (.t 40) (kI 1)),mV 8 41]
def l159_0:CC:=(.seq (.seq (.reg r159_6 none) (.cond (.t 39) .skip (.exit 0))) (.seq (.block 1 (.seq (.reg r159_7 none) (.seq (.reg r159_8 none) (.cond (.t 57) (.seq (.reg r159_9 none) (.reg r159_10 (some []))) .skip)))) (.reg r159_11 none)))
def r159_12:List COp:=[mV 72 4,oP 73 (.call 115 [.t 72]),mV 74 5,mV 4 73,mV 5 74]
def c159:CC:=(.seq (.reg r159_0 none) (.seq (.seq (.reg r159_1 none) (.cond (.t 16) (.seq (.reg r159_2 none) (.seq (.reg r159_3 (some [])) .ret)) .skip)) (.seq (.reg r159_4 none) (.seq (.seq (.reg r159_5 none) (.block 0 (.loop l159_0))) (.seq (.reg r159_12 none) .ret)))))
theorem comp159:CmpC Tryz.prog G Tryz.f159=some c159:=by kernel_rfl
theorem res159:Tryz.f159.results.toList=[(.tmp 4),(.tmp 5)]:=by kernel_rfl
def r161_0:List COp:=[oP 4 (.mov (.k (.vec [] 0 (some 0))))]
def r161_1:List COp:=[oP 5 (.mov (.k (.vec [] 0 (some 0))))]
def r161_2:List COp:=[oP 6 (.mov (.k (.int .u64 0)))]
def r161_3:List COp:=[oP 7 (.mov (kI 0))]
def r161_4:List COp:=[mV 8 7,mV 9 0,oP 10 (.len false (.t 9)),oP 11 (.bin .lss (.t 8) (.t 10)),mV 12 11,gU 13 12 false (.mov (.t 7)),gU 14 12 false (.mov (.t 1)),gU 15 12 false (.len false (.t 14)),gU 16 12 false (.bin .lss (.t 13) (.t 15)),oP 17 (.pick (.t 12) (.k (.bool true)) (.t 16))]
def r161_5:List COp:=[mV 20 7,mV 21 0,oP 22 (.len false (.t 21)),oP 23 (.bin .lss (.t 20) (.t 22))]
def r161_6:List COp:=[mV 24 6,mV 25 0,mV 26 7,oP 27 (.idx 1 (.t 25) (.t 26)),oP 28 (.load false 1 (.t 27)),oP 29 (.conv .u64 (.t 28)),oP 30 (.bin .add (.t 24) (.t 29)),mV 6 30]
def r161_7:List COp:=[mV 31 7,mV 32 1,oP 33 (.len false (.t 32)),oP 34 (.bin .lss (.t 31) (.t 33))]
def r161_8:List COp:=[mV 35 6,mV 36 1,mV 37 7,oP 38 (.idx 1 (.t 36) (.t 37)),oP 39 (.load false 1 (.t 38)),oP 40 (.conv .u64 (.t 39)),oP 41 (.bin .add (.t 35) (.t 40)),mV 6 41]
def r161_9:List COp:=[mV 42 5,mV 43 6,oP 44 (.conv .u32 (.t 43)),oP 45 (.bsl 1 1 [(.int .u32 0)] [(0,(1,(.t 44)))]),oP 46 (.append 1 4 (.t 42) (.t 45)),mV 5 46]
def r161_10:List COp:=[mV 47 6,oP 48 (.bin .shr (.t 47) (.k (.int .u64 32))),mV 6 48]
def r161_11:List COp:=[mV 18 7,oP 19 (.bin .add (.t 18) (kI 1)),mV 7 19]
def l161_0:CC:=(.seq (.seq (.reg r161_4 none) (.cond (.t 17) .skip (.exit 0))) (.seq (.block 1 (.seq (.seq (.reg r161_5 none) (.cond (.t 23) (.reg r161_6 none) .skip)) (.seq (.seq (.reg r161_7 none) (.cond (.t 34) (.reg r161_8 none) .skip)) (.seq (.reg r161_9 none) (.reg r161_10 none))))) (.reg r161_11 none)))
def r161_12:List COp:=[mV 49 5,mV 50 6,oP 51 (.conv .u32 (.t 50)),oP 52 (.bsl 1 1 [(.int .u32 0)] [(0,(1,(.t 51)))]),oP 53 (.append 1 4 (.t 49) (.t 52)),mV 4 53]
def c161:CC:=(.seq (.reg r161_0 none) (.seq (.reg r161_1 none) (.seq (.reg r161_2 none) (.seq (.seq (.reg r161_3 none) (.block 0 (.loop l161_0))) (.seq (.reg r161_12 none) .ret)))))
theorem comp161:CmpC Tryz.prog G Tryz.f161=some c161:=by kernel_rfl
theorem res161:Tryz.f161.results.toList=[(.tmp 4)]:=by kernel_rfl
def r162_0:List COp:=[oP 4 (.mov (.k (.vec [] 0 (some 0))))]
def r162_1:List COp:=[oP 5 (.mov (.k (.vec [] 0 (some 0))))]
def r162_2:List COp:=[oP 6 (.mov (.k (.int .u64 0)))]
def r162_3:List COp:=[oP 7 (.mov (kI 0))]
def r162_4:List COp:=[mV 9 7,mV 10 0,oP 11 (.len false (.t 10)),oP 12 (.bin .lss (.t 9) (.t 11))]
def r162_5:List COp:=[mV 15 6,mV 8 15]
def r162_6:List COp:=[mV 16 7,mV 17 1,oP 18 (.len false (.t 17)),oP 19 (.bin .lss (.t 16) (.t 18))]
def r162_7:List COp:=[mV 20 8,mV 21 1,mV 22 7,oP 23 (.idx 1 (.t 21) (.t 22)),oP 24 (.load false 1 (.t 23)),oP 25 (.conv .u64 (.t 24)),oP 26 (.bin .add (.t 20) (.t 25)),mV 8 26]
def r162_8:List COp:=[mV 27 5,mV 28 0,mV 29 7,oP 30 (.idx 1 (.t 28) (.t 29)),oP 31 (.load false 1 (.t 30)),oP 32 (.conv .u64 (.t 31)),mV 33 8,oP 34 (.bin .sub (.t 32) (.t 33)),oP 35 (.conv .u32 (.t 34)),oP 36 (.bsl 1 1 [(.int .u32 0)] [(0,(1,(.t 35)))]),oP 37 (.append 1 4 (.t 27) (.t 36)),mV 5 37]
def r162_9:List COp:=[oP 6 (.mov (.k (.int .u64 0)))]
def r162_10:List COp:=[mV 38 0,mV 39 7,oP 40 (.idx 1 (.t 38) (.t 39)),oP 41 (.load false 1 (.t 40)),oP 42 (.conv .u64 (.t 41)),mV 43 8,oP 44 (.bin .lss (.t 42) (.t 43))]
def r162_11:List COp:=[oP 6 (.mov (.k (.int .u64 1)))]
def r162_12:List COp:=[mV 13 7,oP 14 (.bin .add (.t 13) (kI 1)),mV 7 14]
def l162_0:CC:=(.seq (.seq (.reg r162_4 none) (.cond (.t 12) .skip (.exit 0))) (.seq (.block 1 (.seq (.reg r162_5 none) (.seq (.seq (.reg r162_6 none) (.cond (.t 19) (.reg r162_7 none) .skip)) (.seq (.reg r162_8 none) (.seq (.reg r162_9 none) (.seq (.reg r162_10 none) (.cond (.t 44) (.reg r162_11 none) .skip))))))) (.reg r162_12 none)))
def r162_13:List COp:=[mV 45 5,mV 4 45]
def c162:CC:=(.seq (.reg r162_0 none) (.seq (.reg r162_1 none) (.seq (.reg r162_2 none) (.seq (.seq (.reg r162_3 none) (.block 0 (.loop l162_0))) (.seq (.reg r162_13 none) .ret)))))
theorem comp162:CmpC Tryz.prog G Tryz.f162=some c162:=by kernel_rfl
theorem res162:Tryz.f162.results.toList=[(.tmp 4)]:=by kernel_rfl
def r176_0:List COp:=[oP 4 (.mov (.k (.vec [] 0 (some 0))))]
def r176_1:List COp:=[oP 5 (.mov (.k (.vec [] 0 (some 0))))]
def r176_2:List COp:=[mV 8 0,oP 9 (.len false (.t 8)),oP 10 (.mov (kI 0))]
def r176_3:List COp:=[oP 11 (.bin .lss (.t 10) (.t 9))]
def r176_4:List COp:=[oP 12 (.idx 1 (.t 8) (.t 10)),oP 13 (.load false 1 (.t 12)),mV 7 13]
def r176_5:List COp:=[mV 14 5,mV 15 7,oP 16 (.bin .shl (.t 15) (.k (.int .u64 1))),mV 17 1,oP 18 (.bin .or (.t 16) (.t 17)),oP 19 (.bsl 1 1 [(.int .u32 0)] [(0,(1,(.t 18)))]),oP 20 (.append 1 4 (.t 14) (.t 19)),mV 5 20]
def r176_6:List COp:=[mV 21 7,oP 22 (.bin .shr (.t 21) (.k (.int .u64 31))),mV 1 22]
def r176_7:List COp:=[oP 23 (.bin .add (.t 10) (kI 1)),mV 10 23]
def l176_0:CC:=(.seq (.reg r176_3 none) (.seq (.cond (.t 11) .skip (.exit 0)) (.seq (.block 1 (.seq (.reg r176_4 none) (.seq (.reg r176_5 none) (.reg r176_6 none)))) (.reg r176_7 none))))
def r176_8:List COp:=[mV 24 5,mV 25 1,oP 26 (.bsl 1 1 [(.int .u32 0)] [(0,(1,(.t 25)))]),oP 27 (.append 1 4 (.t 24) (.t 26)),mV 4 27]
def c176:CC:=(.seq (.reg r176_0 none) (.seq (.reg r176_1 none) (.seq (.seq (.reg r176_2 none) (.block 0 (.loop l176_0))) (.seq (.reg r176_8 none) .ret))))
theorem comp176:CmpC Tryz.prog G Tryz.f176=some c176:=by kernel_rfl
theorem res176:Tryz.f176.results.toList=[(.tmp 4)]:=by kernel_rfl
theorem nt5:Tryz.f5.ntmps=18:=by kernel_rfl
theorem nt6:Tryz.f6.ntmps=41:=by kernel_rfl
theorem nt13:Tryz.f13.ntmps=49:=by kernel_rfl
theorem nt14:Tryz.f14.ntmps=11:=by kernel_rfl
theorem nt15:Tryz.f15.ntmps=74:=by kernel_rfl
theorem nt16:Tryz.f16.ntmps=15:=by kernel_rfl
theorem nt17:Tryz.f17.ntmps=17:=by kernel_rfl
theorem nt18:Tryz.f18.ntmps=92:=by kernel_rfl
theorem nt26:Tryz.f26.ntmps=28:=by kernel_rfl
theorem nt27:Tryz.f27.ntmps=12:=by kernel_rfl
theorem nt32:Tryz.f32.ntmps=25:=by kernel_rfl
theorem nt33:Tryz.f33.ntmps=8:=by kernel_rfl
theorem nt34:Tryz.f34.ntmps=38:=by kernel_rfl
theorem nt35:Tryz.f35.ntmps=29:=by kernel_rfl
theorem nt36:Tryz.f36.ntmps=83:=by kernel_rfl
theorem nt37:Tryz.f37.ntmps=63:=by kernel_rfl
theorem nt38:Tryz.f38.ntmps=17:=by kernel_rfl
theorem nt39:Tryz.f39.ntmps=14:=by kernel_rfl
theorem nt40:Tryz.f40.ntmps=78:=by kernel_rfl
theorem nt41:Tryz.f41.ntmps=45:=by kernel_rfl
theorem nt42:Tryz.f42.ntmps=57:=by kernel_rfl
theorem nt43:Tryz.f43.ntmps=11:=by kernel_rfl
theorem nt44:Tryz.f44.ntmps=33:=by kernel_rfl
theorem nt45:Tryz.f45.ntmps=16:=by kernel_rfl
theorem nt46:Tryz.f46.ntmps=118:=by kernel_rfl
theorem nt48:Tryz.f48.ntmps=18:=by kernel_rfl
theorem nt62:Tryz.f62.ntmps=12:=by kernel_rfl
theorem nt63:Tryz.f63.ntmps=9:=by kernel_rfl
theorem nt64:Tryz.f64.ntmps=19:=by kernel_rfl
theorem nt65:Tryz.f65.ntmps=16:=by kernel_rfl
theorem nt66:Tryz.f66.ntmps=13:=by kernel_rfl
theorem nt71:Tryz.f71.ntmps=21:=by kernel_rfl
theorem nt72:Tryz.f72.ntmps=32:=by kernel_rfl
theorem nt73:Tryz.f73.ntmps=29:=by kernel_rfl
theorem nt74:Tryz.f74.ntmps=26:=by kernel_rfl
theorem nt75:Tryz.f75.ntmps=125:=by kernel_rfl
theorem nt76:Tryz.f76.ntmps=8:=by kernel_rfl
theorem nt77:Tryz.f77.ntmps=21:=by kernel_rfl
theorem nt78:Tryz.f78.ntmps=33:=by kernel_rfl
theorem nt79:Tryz.f79.ntmps=22:=by kernel_rfl
theorem nt80:Tryz.f80.ntmps=7:=by kernel_rfl
theorem nt81:Tryz.f81.ntmps=9:=by kernel_rfl
theorem nt82:Tryz.f82.ntmps=34:=by kernel_rfl
theorem nt83:Tryz.f83.ntmps=13:=by kernel_rfl
theorem nt84:Tryz.f84.ntmps=41:=by kernel_rfl
theorem nt85:Tryz.f85.ntmps=45:=by kernel_rfl
theorem nt86:Tryz.f86.ntmps=35:=by kernel_rfl
theorem nt87:Tryz.f87.ntmps=51:=by kernel_rfl
theorem nt88:Tryz.f88.ntmps=70:=by kernel_rfl
theorem nt89:Tryz.f89.ntmps=32:=by kernel_rfl
theorem nt90:Tryz.f90.ntmps=62:=by kernel_rfl
theorem nt91:Tryz.f91.ntmps=39:=by kernel_rfl
theorem nt93:Tryz.f93.ntmps=41:=by kernel_rfl
theorem nt94:Tryz.f94.ntmps=9:=by kernel_rfl
theorem nt95:Tryz.f95.ntmps=49:=by kernel_rfl
theorem nt115:Tryz.f115.ntmps=22:=by kernel_rfl
theorem nt116:Tryz.f116.ntmps=16:=by kernel_rfl
theorem nt117:Tryz.f117.ntmps=6:=by kernel_rfl
theorem nt118:Tryz.f118.ntmps=16:=by kernel_rfl
theorem nt119:Tryz.f119.ntmps=61:=by kernel_rfl
theorem nt121:Tryz.f121.ntmps=41:=by kernel_rfl
theorem nt122:Tryz.f122.ntmps=9:=by kernel_rfl
theorem nt123:Tryz.f123.ntmps=77:=by kernel_rfl
theorem nt124:Tryz.f124.ntmps=42:=by kernel_rfl
theorem nt125:Tryz.f125.ntmps=20:=by kernel_rfl
theorem nt126:Tryz.f126.ntmps=11:=by kernel_rfl
theorem nt127:Tryz.f127.ntmps=34:=by kernel_rfl
theorem nt128:Tryz.f128.ntmps=4:=by kernel_rfl
theorem nt129:Tryz.f129.ntmps=17:=by kernel_rfl
theorem nt130:Tryz.f130.ntmps=40:=by kernel_rfl
theorem nt131:Tryz.f131.ntmps=26:=by kernel_rfl
theorem nt132:Tryz.f132.ntmps=26:=by kernel_rfl
theorem nt159:Tryz.f159.ntmps=75:=by kernel_rfl
theorem nt161:Tryz.f161.ntmps=54:=by kernel_rfl
theorem nt162:Tryz.f162.ntmps=46:=by kernel_rfl
theorem nt176:Tryz.f176.ntmps=28:=by kernel_rfl
open Go.Limb
def u32s (l:List Nat):List AV:=l.map fun (n:Nat)=>AV.int .u32 (n:Int)
theorem u32s_len (l:List Nat):(u32s l).length=l.length:=by simp [u32s]
theorem u32s_getD (l:List Nat) (i:Nat) (h:i<l.length) (d:AV):(u32s l).getD i d= .int .u32 ((l.getD i 0:Nat):Int):=by
 simp [u32s,h]
theorem u32s_take (l:List Nat) (n:Nat):(u32s l).take n=u32s (l.take n):=by simp [u32s,List.map_take]
theorem u32s_set (l:List Nat) (i a:Nat):(u32s l).set i (.int .u32 (a:Int))=u32s (l.set i a):=by simp [u32s,List.map_set]
theorem u32s_closed (l:List Nat):AV.closed.closedL (u32s l)=true:=by
 induction l with
 | nil=>rfl
 | cons d l ih=>exact ih
theorem u32s_frz (l:List Nat) (m d:Nat) (H:Heap):(u32s l).mapM (frzI m H (d+1))=some (u32s l):=by
 refine frz_flat (fun a ha=>?_)
 simp only [u32s,List.mem_map] at ha
 obtain ⟨n,_,rfl⟩:=ha
 rfl
theorem w64 {a:Int} (h1: -9223372036854775808≤a) (h2:a<9223372036854775808):IntKind.i64.wrap a=a:=by
 simp [IntKind.wrap,IntKind.bits,IntKind.signed]
 omega
def IsInt (z:Int) (a:AV):Prop:= ∃l c,Canon l∧l.length≤1100∧val l=z.natAbs∧a= .agg [.bool (decide (z<0)),.vec (u32s l) l.length c]
theorem appendA_v0 {n0 fr n sz bytes:Nat} {H:Heap} {cs ds:List AV} {c c':Option Nat}:appendA n0 fr H sz bytes (.vec cs n c) (.vec ds 0 c')=some (.vec cs n c,[],[]):=by
 simp [appendA,lenA,elems,need]
theorem appendA_nv {n0 fr m sz bytes:Nat} {H:Heap} {ds:List AV} {c':Option Nat} (hm:0<m) (hl:m*sz≤ds.length) (h1:4*m*bytes≤281474976710656) (h2:m<4611686018427387904):
  appendA n0 fr H sz bytes (.vec [] 0 (some 0)) (.vec ds m c')=some (.sl fr 0 m sz none,[(fr,some (ds.take (m*sz)))],[]):=by
 have e1:m≠0:=by omega
 have e2:4*(0+m)*bytes≤2^48:=by rw [qO];exact h1
 have e3:0+m<2^62:=by rw [qO];exact h2
 simp only [appendA,lenA,elems,need,Option.bind_some,qA,hl,and_self,if_true,e1,if_false,Nat.zero_mul,Nat.zero_le,e2,e3,List.take_nil,List.nil_append,true_and]
 simp only [qO]
theorem fin_mag {H:Heap} {id n:Nat} {c:Option Nat} {l:List Nat} (hb:getB H id=some (u32s l)) (hn:n=l.length):AL.Fin 0 (.sl id 0 n 1 c) H (.vec (u32s l) n c) []:=by
 refine .freeze 2 _ _ _ ?_ (by intro i cs h;omega)
 have e:=u32s_frz l 0 0 H
 rw [frzI]
 simp only [Nat.not_lt_zero,if_false,hb,need,qO,qI,hn,u32s_len,qA,if_true,List.drop_zero]
 rw [qZ (by rw [u32s_len];omega),e]
 rfl
theorem zTrim (l:List Nat) (c:Option Nat) (hl:l.length<16777216):∃c',Ret Tryz.prog G 115 [.vec (u32s l) l.length c] [] (.vec (u32s (trimL l)) (trimL l).length c') []:=by
 have key:∀{E:Env} {Q:Post},E 0= .vec (u32s l) l.length c→E 3= .int .i64 (l.length:Nat)→(∀E',E' 0= .vec (u32s l) l.length c→E' 3= .int .i64 (trimN l l.length:Nat)→Q (.exit 0) E' [])→W Tryz.prog G 0 22 (.loop l115_0) E [] Q:=by
  intro E Q h0 h3 hQ
  refine W_loop (fun k E H=>k≤l.length∧trimN l k=trimN l l.length∧E 0= .vec (u32s l) l.length c∧E 3= .int .i64 (k:Nat)∧H=[]) (n:=l.length) ⟨by omega,rfl,h0,h3,rfl⟩ ?_
  rintro k E H ⟨hk,ht,h0,h3,rfl⟩
  refine wpC_sound mixed ?_
  cases k with
  | zero=>
   simp only [l115_0,r115_2,SS,forall_const,reduceCtorEq,reduceIte,qQ,h3,Int.natCast_zero,show decide ((0:Int)<0)=false from rfl]
   refine hQ _ ?_ ?_<;>simp only [upd_app,qQ,if_false, *]
   rw [←ht];rfl
  | succ k=>
   have g:=u32s_getD l k (by omega) AV.junk
   have w1:IntKind.i64.wrap (((k+1:Nat):Int)-1)=(k:Nat):=by rw [show ((k+1:Nat):Int)-1=(k:Nat) by omega];exact w64 (by omega) (by omega)
   have d1:decide ((0:Int)<((k+1:Nat):Int))=true:=decide_eq_true (by omega)
   simp only [l115_0,r115_2,r115_3,SS,forall_const,reduceCtorEq,reduceIte,qQ,h0,h3,d1,w1,g,qL,u32s_len]
   refine ⟨⟨by omega,by omega⟩,by omega,fun hz=>?_,fun hz=>?_⟩
   ·have hz:l.getD k 0=0:=by omega
    refine ⟨k,_,_,by omega,⟨by omega,?_,?_,?_,rfl⟩,.refl⟩
    ·rw [←ht,trimN,if_pos hz]
    ·simp only [upd_app,qQ,if_false, *]
    ·simp only [upd_app,qQ,reduceIte,if_false, *]
   ·have hz:l.getD k 0≠0:=by omega
    refine hQ _ ?_ ?_
    ·simp only [upd_app,qQ,if_false, *]
    ·simp only [upd_app,qQ,if_false, *]
     rw [←ht,trimN,if_neg hz]
 have hle:=trimN_le l l.length
 have hsl:((u32s l).drop (0*1)).take ((trimN l l.length-0)*1)=u32s (trimL l):=by
  simp only [List.drop_zero,qI,Nat.sub_zero,u32s_take];rfl
 rcases Nat.eq_zero_or_pos (trimN l l.length) with h0 | h0
 ·have e:trimL l=[]:=by unfold trimL;rw [h0];rfl
  refine ⟨some 0,?_⟩
  refine Ret_of mixed Tryz.func115 comp115 _ 22 res115 nt115 (by simp) (by simp) ?_
  simp only [c115,r115_0,r115_1,SS,reduceCtorEq,reduceIte,qQ]
  refine key (by simp only [upd_app,argsE_app,qS,qQ,if_false, *]) (by simp only [upd_app,argsE_app,qE,qQ,reduceIte,if_false, *]) (fun E' h0' h3'=>?_)
  simp only [r115_4,SS,reduceCtorEq,reduceIte,qQ,h0',h3',qL,u32s_len]
  refine ⟨by omega,⟨by omega,by omega,by omega⟩,?_⟩
  rw [e,h0,Nat.zero_sub,appendA_v0]
  exact ⟨.inl trivial,_,rfl,.drop _ _ rfl (by intro i cs h;omega)⟩
 ·have hlen:=trimL_len l
  refine ⟨none,?_⟩
  refine Ret_of mixed Tryz.func115 comp115 _ 22 res115 nt115 (by simp) (by simp) ?_
  simp only [c115,r115_0,r115_1,SS,reduceCtorEq,reduceIte,qQ]
  refine key (by simp only [upd_app,argsE_app,qS,qQ,if_false, *]) (by simp only [upd_app,argsE_app,qE,qQ,reduceIte,if_false, *]) (fun E' h0' h3'=>?_)
  simp only [r115_4,SS,reduceCtorEq,reduceIte,qQ,h0',h3',qL,u32s_len]
  refine ⟨by omega,⟨by omega,by omega,by omega⟩,?_⟩
  rw [Nat.sub_zero,u32s_take,appendA_nv h0 (by rw [u32s_len,qI];exact Nat.le_of_eq hlen.symm) (by omega) (by omega)]
  refine ⟨.inl trivial,_,rfl,?_⟩
  have e1:(u32s (l.take (trimN l l.length))).take (trimN l l.length*1)=u32s (trimL l):=by
   rw [qI,qZ (by rw [u32s_len];exact Nat.le_of_eq hlen)];rfl
  rw [e1,←hlen]
  exact fin_mag rfl rfl
def sgnZ (s:Bool) (n:Nat):Int:=if s then -(n:Int) else n
theorem sgnZ_abs (s:Bool) (n:Nat):(sgnZ s n).natAbs=n:=by unfold sgnZ;split<;>omega
theorem zMake (s:Bool) (l:List Nat) (c:Option Nat) (hd:Dig l) (hl:l.length<1048576) (hfit:val l<BIG):∃v,IsInt (sgnZ s (val l)) v∧Ret Tryz.prog G 116 [.bool s,.vec (u32s l) l.length c] [] v []:=by
 obtain ⟨c',ht⟩:=zTrim l c (by omega)
 have hlen:(trimL l).length≤l.length:=by rw [trimL_len];exact trimN_le _ _
 have hneg:decide (sgnZ s (val l)<0)=(if s=true then decide ((0:Int)<((trimL l).length:Nat)) else false):=by
  cases s
  ·simp [sgnZ]
  ·have h1:=val_zero (trimL_canon hd)
   rw [val_trimL] at h1
   simp only [sgnZ,if_true]
   by_cases h0:trimL l=[]
   ·rw [h0] at h1 ⊢
    have:val l=0:=h1.2 rfl
    simp [this]
   ·have:val l≠0:=fun e=>h0 (h1.1 e)
    have:0<(trimL l).length:=List.length_pos_iff.2 h0
    rw [decide_eq_true (by omega),decide_eq_true (by omega)]
 refine ⟨_,⟨trimL l,c',trimL_canon hd,canon_len (trimL_canon hd) (by rw [val_trimL];exact hfit),by rw [val_trimL,sgnZ_abs],rfl⟩,?_⟩
 rw [hneg]
 refine Ret_of mixed Tryz.func116 comp116 _ 16 res116 nt116 (by simp) (by simp) ?_
 simp only [c116,r116_0,r116_1,SS,reduceCtorEq,reduceIte,qQ]
 refine callA_pure ht ?_
 cases s
 ·simp only [r116_2,SS,forall_const,reduceCtorEq,reduceIte,qK,qQ,qJ]
  exact ⟨.inl trivial,_,rfl,.drop _ _ rfl (by intro i cs h;omega)⟩
 ·simp only [r116_2,SS,forall_const,reduceCtorEq,reduceIte,qK,qQ,qJ]
  exact ⟨.inl trivial,_,rfl,.drop _ _ rfl (by intro i cs h;omega)⟩
theorem zNormalize {z:Int} {a:AV} (h:IsInt z a):∃v,IsInt z v∧Ret Tryz.prog G 76 [a] [] v []:=by
 obtain ⟨l,c,hc,hl,hv,rfl⟩:=h
 obtain ⟨v,hv1,hr⟩:=zMake (decide (z<0)) l c hc.1 (by omega) (len_fits hc.1 hl)
 have e:sgnZ (decide (z<0)) (val l)=z:=by
  rw [hv];unfold sgnZ;simp only [decide_eq_true_eq];split<;>omega
 rw [e] at hv1
 obtain ⟨l',c',_,_,_,rfl⟩:=hv1
 refine ⟨_,⟨l',c',by assumption,by assumption,by assumption,rfl⟩,?_⟩
 refine Ret_of mixed Tryz.func76 comp76 _ 8 res76 nt76 (by simp) (by simp) ?_
 simp only [c76,r76_0,r76_1,SS,forall_const,reduceCtorEq,reduceIte,qK,qQ,qJ]
 refine callA_pure hr ?_
 simp only [SS,reduceIte,qK,qQ,qJ]
 exact ⟨.inl trivial,_,rfl,.drop _ _ rfl (by intro i cs h;omega)⟩
theorem zNeg {z:Int} {a:AV} (h:IsInt z a):∃v,IsInt (-z) v∧Ret Tryz.prog G 63 [a] [] v []:=by
 obtain ⟨l,c,hc,hl,hv,rfl⟩:=h
 obtain ⟨v,hv1,hr⟩:=zMake (!decide (z<0)) l c hc.1 (by omega) (len_fits hc.1 hl)
 have e:sgnZ (!decide (z<0)) (val l)= -z:=by
  rw [hv];unfold sgnZ;simp only [Bool.not_eq_true',decide_eq_false_iff_not];split<;>omega
 rw [e] at hv1
 obtain ⟨l',c',_,_,_,rfl⟩:=hv1
 refine ⟨_,⟨l',c',by assumption,by assumption,by assumption,rfl⟩,?_⟩
 refine Ret_of mixed Tryz.func63 comp63 _ 9 res63 nt63 (by simp) (by simp) ?_
 simp only [c63,r63_0,r63_1,SS,forall_const,reduceCtorEq,reduceIte,qK,qQ,qJ]
 refine callA_pure hr ?_
 simp only [SS,reduceIte,qK,qQ,qJ]
 exact ⟨.inl trivial,_,rfl,.drop _ _ rfl (by intro i cs h;omega)⟩
theorem zAbs {z:Int} {a:AV} (h:IsInt z a):∃v,IsInt (z.natAbs:Int) v∧Ret Tryz.prog G 117 [a] [] v []:=by
 obtain ⟨l,c,hc,hl,hv,rfl⟩:=h
 obtain ⟨v,hv1,hr⟩:=zMake false l c hc.1 (by omega) (len_fits hc.1 hl)
 have e:sgnZ false (val l)=(z.natAbs:Int):=by rw [hv];rfl
 rw [e] at hv1
 obtain ⟨l',c',_,_,_,rfl⟩:=hv1
 refine ⟨_,⟨l',c',by assumption,by assumption,by assumption,rfl⟩,?_⟩
 refine Ret_of mixed Tryz.func117 comp117 _ 6 res117 nt117 (by simp) (by simp) ?_
 simp only [c117,r117_0,r117_1,SS,forall_const,reduceCtorEq,reduceIte,qK,qQ,qJ]
 refine callA_pure hr ?_
 simp only [SS,reduceIte,qK,qQ,qJ]
 exact ⟨.inl trivial,_,rfl,.drop _ _ rfl (by intro i cs h;omega)⟩
theorem zSign {z:Int} {a:AV} (h:IsInt z a):Ret Tryz.prog G 62 [a] [] (.int .i64 z.sign) []:=by
 obtain ⟨l,c,hc,hl,hv,rfl⟩:=h
 obtain ⟨c',ht⟩:=zTrim l c (by omega)
 have h1:=val_zero (trimL_canon hc.1)
 rw [val_trimL,hv] at h1
 refine Ret_of mixed Tryz.func62 comp62 _ 12 res62 nt62 (by simp) (by simp) ?_
 simp only [c62,r62_0,r62_1,SS,forall_const,reduceCtorEq,reduceIte,qK,qQ,qJ]
 refine callA_pure ht ?_
 simp only [SS,reduceIte,qQ]
 refine ⟨fun h0=>?_,fun h0=>?_⟩
 ·have:z=0:=by
   have:=h1.2 (List.length_eq_zero_iff.1 (by omega))
   omega
  subst this
  simp only [r62_2,SS]
  exact ⟨.inl trivial,_,rfl,.drop _ _ rfl (by intro i cs h;omega)⟩
 ·have:z≠0:=by
   intro e
   have:=h1.1 (by omega)
   rw [this] at h0
   simp at h0
  simp only [r62_3,SS,forall_const,reduceIte,qK,qQ,qJ]
  refine ⟨fun h2=>?_,fun h2=>?_⟩
  ·rw [Int.sign_eq_neg_one_of_neg h2]
   simp only [r62_4,SS]
   exact ⟨.inl trivial,_,rfl,.drop _ _ rfl (by intro i cs h;omega)⟩
  ·rw [Int.sign_eq_one_of_pos (by omega)]
   simp only [r62_5,SS]
   exact ⟨.inl trivial,_,rfl,.drop _ _ rfl (by intro i cs h;omega)⟩
end Go.Proofs.YtenboapacjlmoaaGreatDoor
