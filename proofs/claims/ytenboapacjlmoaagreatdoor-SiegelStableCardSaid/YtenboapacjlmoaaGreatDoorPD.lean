/- A part of the proof. -/
import Derived.Test.YtenboapacjlmoaaGreatDoorPC
import Derived.Test.YtenboapacjlmoaaGreatDoorAL1
namespace Go.Det
open Nat renaming le_refl → qV, lt_or_ge → qB, add_zero → xY, add_sub_cancel → xU, le_of_not_lt → yD
open Int renaming mul_le_mul_of_nonneg_left → qZ, mul_le_mul_of_nonneg_right → qJ, mul_nonneg → qY, eq_of_mul_eq_mul_left → qA, le_of_mul_le_mul_left → qC, add_zero → qD, mul_nonneg_of_nonpos_of_nonpos → qR, mul_comm → xQ, mul_pos → xW, le_trans → xG, le_refl → xN, pow_succ → yK
set_option linter.unusedSimpArgs false
set_option linter.unusedVariables false
theorem stg_row {a:Nat→Row} {k j c:Nat} (hj:j<k):stg a k j c=0:=by
 unfold stg bord
 have hm:a j∈rowsK a k:=by simp only [rowsK,List.mem_map,List.mem_range];exact ⟨j,hj,rfl⟩
 exact alt_mem' (det_lin _) (det_alt _) (L2:=[]) hm
def addG (a:Nat→Row) (i j:Nat) (c:Int):Nat→Row:=fun s t=>a s t+(if s=i then c*a j t else 0)+(if t=i then c*a s j else 0)+(if s=i∧t=i then c*c*a j j else 0)
theorem add_low {a:Nat→Row} {i j:Nat} {c:Int} (hji:j<i) (hp:∀t,t≤i→lead a t≠0):∀k,k≤i→(∀t,t≤k→lead (addG a i j c) t=lead a t)∧
  ∀s t,stg (addG a i j c) k s t=stg a k s t+(if s=i then c*stg a k j t else 0)+(if t=i then c*stg a k s j else 0)+(if s=i∧t=i then c*c*stg a k j j else 0):=by
 intro k
 induction k with
 | zero=>
  intro _
  refine ⟨fun t ht=>?_,fun s t=>?_⟩
  ·have:t=0:=Nat.le_zero.1 ht
   subst this;rfl
  ·simp only [stg_zero];rfl
 | succ k ih=>
  intro hk
  obtain ⟨h1,h2⟩:=ih (by omega)
  have hki:k≠i:=by omega
  have hl:lead (addG a i j c) (k+1)=lead a (k+1):=by
   rw [lead_stg,h2,if_neg hki,if_neg hki,if_neg (fun e=>hki e.1),lead_stg];omega
  refine ⟨fun t ht=>?_,fun s t=>?_⟩
  ·rcases qB t (k+1) with e | e
   ·exact h1 t (by omega)
   ·have:t=k+1:=by omega
    rw [this];exact hl
  ·have hne:∀t,t≤k→lead (addG a i j c) t≠0:=fun t ht=>by rw [h1 t ht];exact hp t (by omega)
   have hne0:∀t,t≤k→lead a t≠0:=fun t ht=>hp t (by omega)
   have e:=stg_rec hne s t
   rw [h1 k (qV _),hl,h2 s t,h2 s k,h2 k t] at e
   simp only [hki,and_false,false_and,if_false,qD] at e
   have r1:=stg_rec hne0 s t
   have r2:=stg_rec hne0 j t
   have r3:=stg_rec hne0 s j
   have r4:=stg_rec hne0 j j
   refine qA (hp k (by omega)) ?_
   rw [e]
   by_cases hs:s=i
   ·by_cases ht:t=i
    ·subst hs ht
     simp only [and_self,if_true]
     grind
    ·simp only [hs,ht,if_true,if_false,and_false]
     subst hs
     grind
   ·by_cases ht:t=i
    ·simp only [hs,ht,if_true,if_false,false_and]
     subst ht
     grind
    ·simp only [hs,ht,if_false,false_and]
     grind
theorem add_high {a:Nat→Row} {i j n:Nat} {c:Int} (hji:j<i) (hp:∀t,t≤n→lead a t≠0) (hin:i≤n):∀m,i+m≤n→(∀t,t≤i+m→lead (addG a i j c) t=lead a t)∧∀s t,stg (addG a i j c) (i+m) s t=stg a (i+m) s t:=by
 intro m
 induction m with
 | zero=>
  intro _
  obtain ⟨h1,h2⟩:=add_low (c:=c) hji (fun t ht=>hp t (by omega)) i (qV _)
  refine ⟨h1,fun s t=>?_⟩
  have z1:∀t,stg a i j t=0:=fun t=>stg_row hji
  have z2:∀s,stg a i s j=0:=fun s=>stg_low (fun t ht=>hp t (by omega)) s j hji
  rw [xY,h2,z1,z1,z2]
  simp
 | succ m ih=>
  intro hm
  obtain ⟨h1,h2⟩:=ih (by omega)
  have hl:lead (addG a i j c) (i+m+1)=lead a (i+m+1):=by rw [lead_stg,h2,lead_stg]
  refine ⟨fun t ht=>?_,fun s t=>?_⟩
  ·rcases qB t (i+m+1) with e | e
   ·exact h1 t (by omega)
   ·have:t=i+m+1:=by omega
    rw [this];exact hl
  ·have hne:∀t,t≤i+m→lead (addG a i j c) t≠0:=fun t ht=>by rw [h1 t ht];exact hp t (by omega)
   have hne0:∀t,t≤i+m→lead a t≠0:=fun t ht=>hp t (by omega)
   have e:=stg_rec hne s t
   rw [h1 _ (qV _),hl,h2,h2,h2,←stg_rec hne0 s t] at e
   exact qA (hne0 _ (qV _)) e
theorem add_lead {a:Nat→Row} {i j n:Nat} {c:Int} (hji:j<i) (hin:i<n) (hp:∀t,t≤n→lead a t≠0) {t:Nat} (ht:t≤n):lead (addG a i j c) t=lead a t:=by
 have:=(add_high (c:=c) hji hp (by omega) (n-i) (by omega)).1 t (by omega)
 exact this
theorem add_lam {a:Nat→Row} {i j n:Nat} {c:Int} (hji:j<i) (hin:i<n) (hp:∀t,t≤n→lead a t≠0) {s t:Nat} (hts:t<s) (hs:s<n):
  stg (addG a i j c) t s t=stg a t s t+if s=i then (if t≤j then c*stg a t j t else 0) else 0:=by
 rcases qB t i with hlt | hge
 ·rw [(add_low (c:=c) hji (fun t ht=>hp t (by omega)) t (by omega)).2 s t]
  rw [if_neg (show ¬t=i by omega),if_neg (show ¬(s=i∧t=i) by omega)]
  by_cases e:s=i
  ·rw [if_pos e,if_pos e]
   by_cases h:t≤j
   ·rw [if_pos h];omega
   ·rw [if_neg h,stg_row (show j<t by omega)];simp
  ·rw [if_neg e,if_neg e];omega
 ·obtain ⟨m,rfl⟩:∃m,t=i+m:=⟨t-i,by omega⟩
  rw [(add_high (c:=c) hji hp (by omega) m (by omega)).2 s (i+m),if_neg (by omega)];omega
def sw (p:Nat) (s:Nat):Nat:=if s=p then p+1 else if s=p+1 then p else s
theorem sw_ne {p s:Nat} (h1:s≠p) (h2:s≠p+1):sw p s=s:=by unfold sw;rw [if_neg h1,if_neg h2]
theorem sw_p {p:Nat}:sw p p=p+1:=by unfold sw;rw [if_pos rfl]
theorem sw_q {p:Nat}:sw p (p+1)=p:=by unfold sw;rw [if_neg (by omega),if_pos rfl]
def swG (a:Nat→Row) (p:Nat):Nat→Row:=fun s t=>a (sw p s) (sw p t)
theorem sw_low {a:Nat→Row} {p:Nat} (hp:∀t,t≤p→lead a t≠0):∀k,k≤p→(∀t,t≤k→lead (swG a p) t=lead a t)∧∀s t,stg (swG a p) k s t=stg a k (sw p s) (sw p t):=by
 intro k
 induction k with
 | zero=>
  intro _
  refine ⟨fun t ht=>?_,fun s t=>by simp only [stg_zero];rfl⟩
  have:t=0:=Nat.le_zero.1 ht
  subst this;rfl
 | succ k ih=>
  intro hk
  obtain ⟨h1,h2⟩:=ih (by omega)
  have hkk:sw p k=k:=sw_ne (by omega) (by omega)
  have hl:lead (swG a p) (k+1)=lead a (k+1):=by rw [lead_stg,h2,hkk,lead_stg]
  refine ⟨fun t ht=>?_,fun s t=>?_⟩
  ·rcases qB t (k+1) with e | e
   ·exact h1 t (by omega)
   ·have:t=k+1:=by omega
    rw [this];exact hl
  ·have hne:∀t,t≤k→lead (swG a p) t≠0:=fun t ht=>by rw [h1 t ht];exact hp t (by omega)
   have hne0:∀t,t≤k→lead a t≠0:=fun t ht=>hp t (by omega)
   have e:=stg_rec hne s t
   rw [h1 k (qV _),hl,h2,h2,h2,hkk,←stg_rec hne0] at e
   exact qA (hp k (by omega)) e
theorem sw_mid {a:Nat→Row} {n p:Nat} (hs:∀i j,i<n→j<n→a i j=a j i) (hpn:p+1<n) (hp:∀t,t≤p+1→lead a t≠0):
  lead a (p+1)*lead (swG a p) (p+1)=lead a p*lead a (p+2)+stg a p (p+1) p*stg a p (p+1) p:=by
 have h2:=(sw_low (fun t ht=>hp t (by omega)) p (qV _)).2
 have r:=stg_rec (a:=a) (k:=p) (fun t ht=>hp t (by omega)) (p+1) (p+1)
 have sy:=stg_sym hs p (by omega) (fun t ht=>hp t (by omega)) p (p+1) (by omega) hpn (qV _) (by omega)
 rw [lead_stg (swG a p) p,h2,sw_p,lead_stg a (p+1)]
 rw [sy] at r
 omega
theorem dd (d U V W Z:Int):d*d*(U*V-W*Z)=d*U*(d*V)-d*W*(d*Z):=by grind
theorem det3a (a11 a12 a21 a22 a1t a2t as1 as2 ast:Int):(a11*a22-a21*a12)*(a11*ast-as1*a1t)-(a11*as2-as1*a12)*(a11*a2t-a21*a1t)=a11*(a11*(a22*ast-as2*a2t)-a12*(a21*ast-as1*a2t)+a1t*(a21*as2-as1*a22)):=by grind
theorem det3b (a11 a12 a21 a22 a1t a2t as1 as2 ast:Int):(a11*a22-a21*a12)*(a22*ast-as2*a2t)-(a22*as1-as2*a21)*(a22*a1t-a12*a2t)=a22*(a11*(a22*ast-as2*a2t)-a12*(a21*ast-as1*a2t)+a1t*(a21*as2-as1*a22)):=by grind
theorem mlc (u d x:Int):u*(d*d*x)=d*d*(u*x):=by grind
theorem sw_high {a:Nat→Row} {n p:Nat} (hs:∀i j,i<n→j<n→a i j=a j i) (hpn:p+1<n) (hp:∀t,t≤n→lead a t≠0) (hm:lead (swG a p) (p+1)≠0):
  ∀m,p+2+m≤n→(∀t,t≤p+2+m→t≠p+1→lead (swG a p) t=lead a t)∧∀s t,stg (swG a p) (p+2+m) s t=stg a (p+2+m) (sw p s) (sw p t):=by
 have ne0:∀{k},k≤n→∀t,t≤k→lead a t≠0:=fun hk t ht=>hp t (by omega)
 obtain ⟨l1,l2⟩:=sw_low (a:=a) (p:=p) (ne0 (by omega)) p (qV _)
 have np:∀t,t≤p→lead (swG a p) t≠0:=fun t ht=>by rw [l1 t ht];exact hp t (by omega)
 have np1:∀t,t≤p+1→lead (swG a p) t≠0:=fun t ht=>by
  rcases qB t (p+1) with e | e
  ·exact np t (by omega)
  ·have:t=p+1:=by omega
   rw [this];exact hm
 have e1:lead (swG a p) (p+1)=stg a p (p+1) (p+1):=by rw [lead_stg,l2,sw_p]
 have dp:lead a (p+1)=stg a p p p:=lead_stg a p
 have A:∀s t,lead a p*stg a (p+1) s t=stg a p p p*stg a p s t-stg a p s p*stg a p p t:=fun s t=>by rw [←dp];exact stg_rec (ne0 (by omega)) s t
 have B:∀s t,lead a p*stg (swG a p) (p+1) s t=stg a p (p+1) (p+1)*stg a p (sw p s) (sw p t)-stg a p (sw p s) (p+1)*stg a p (p+1) (sw p t):=fun s t=>by
  have:=stg_rec np s t
  rw [l1 p (qV _),e1,l2,l2,l2,sw_p] at this
  exact this
 have q2:lead (swG a p) (p+2)=lead a (p+2):=by
  rw [lead_stg (swG a p) (p+1),lead_stg a (p+1)]
  refine qA (hp p (by omega)) ?_
  rw [A,B,sw_q]
  grind
 intro m
 induction m with
 | zero=>
  intro _
  refine ⟨fun t ht hne=>?_,fun s t=>?_⟩
  ·rcases qB t (p+1) with e | e
   ·exact l1 t (by omega)
   ·have:t=p+2:=by omega
    rw [this];exact q2
  ·have ra:=stg_rec (a:=a) (k:=p+1) (ne0 (by omega)) (sw p s) (sw p t)
   have rb:=stg_rec np1 s t
   rw [q2,e1] at rb
   rw [dp] at ra
   have x1:=A (sw p s) (sw p t)
   have x2:=A (sw p s) (p+1)
   have x3:=A (p+1) (sw p t)
   have x4:=A (p+1) (p+1)
   have y1:=B s t
   have y2:=B s (p+1)
   have y3:=B (p+1) t
   rw [sw_q] at y2 y3
   have hd2:=lead_stg a (p+1)
   rw [hd2] at ra rb
   have key:lead a p*lead a p*stg (swG a p) (p+2) s t=lead a p*lead a p*stg a (p+2) (sw p s) (sw p t):=by
    have ka:stg a p p p*(lead a p*lead a p*stg a (p+1+1) (sw p s) (sw p t))=stg a p p p*(stg a p p p*(stg a p (p+1) (p+1)*stg a p (sw p s) (sw p t)-stg a p (sw p s) (p+1)*stg a p (p+1) (sw p t))-stg a p p (p+1)*(stg a p (p+1) p*stg a p (sw p s) (sw p t)-stg a p (sw p s) p*stg a p (p+1) (sw p t))+stg a p p (sw p t)*(stg a p (p+1) p*stg a p (sw p s) (p+1)-stg a p (sw p s) p*stg a p (p+1) (p+1))):=by
     rw [mlc,ra,dd,x1,x2,x3,x4,det3a]
    have kb:stg a p (p+1) (p+1)*(lead a p*lead a p*stg (swG a p) (p+1+1) s t)=stg a p (p+1) (p+1)*(stg a p p p*(stg a p (p+1) (p+1)*stg a p (sw p s) (sw p t)-stg a p (sw p s) (p+1)*stg a p (p+1) (sw p t))-stg a p p (p+1)*(stg a p (p+1) p*stg a p (sw p s) (sw p t)-stg a p (sw p s) p*stg a p (p+1) (sw p t))+stg a p p (sw p t)*(stg a p (p+1) p*stg a p (sw p s) (p+1)-stg a p (sw p s) p*stg a p (p+1) (p+1))):=by
     rw [mlc,rb,dd,x4,y1,y2,y3,det3b]
    have n1:stg a p p p≠0:=by rw [←dp];exact hp (p+1) (by omega)
    have n2:stg a p (p+1) (p+1)≠0:=by rw [←e1];exact hm
    exact (qA n2 kb).trans (qA n1 ka).symm
   have h0:=hp p (by omega)
   exact qA (Int.mul_ne_zero h0 h0) key
 | succ m ih=>
  intro hm'
  obtain ⟨h1,h2⟩:=ih (by omega)
  have hk:sw p (p+2+m)=p+2+m:=sw_ne (by omega) (by omega)
  have hl:lead (swG a p) (p+2+m+1)=lead a (p+2+m+1):=by rw [lead_stg,h2,hk,lead_stg]
  refine ⟨fun t ht hne=>?_,fun s t=>?_⟩
  ·rcases qB t (p+2+m+1) with e | e
   ·exact h1 t (by omega) hne
   ·have:t=p+2+m+1:=by omega
    rw [this];exact hl
  ·have hne:∀t,t≤p+2+m→lead (swG a p) t≠0:=fun t ht=>by
    rcases qB t (p+2) with e | e
    ·exact np1 t (by omega)
    ·rw [h1 t ht (by omega)];exact hp t (by omega)
   have e:=stg_rec hne s t
   rw [h1 _ (qV _) (by omega),hl,h2,h2,h2,hk,←stg_rec (ne0 (by omega))] at e
   exact qA (hp _ (by omega)) e
theorem sw_lead {a:Nat→Row} {n p:Nat} (hs:∀i j,i<n→j<n→a i j=a j i) (hpn:p+1<n) (hp:∀t,t≤n→0<lead a t) (hlov:¬3*(lead a (p+1)*lead a (p+1))≤4*(lead a p*lead a (p+2)+stg a p (p+1) p*stg a p (p+1) p)):
  (∀t,t≤n→t≠p+1→lead (swG a p) t=lead a t)∧0<lead (swG a p) (p+1)∧lead (swG a p) (p+1)<lead a (p+1):=by
 have hne:∀t,t≤n→lead a t≠0:=fun t ht=>by have:=hp t ht;omega
 have mid:=sw_mid hs hpn (fun t ht=>hne t (by omega))
 have p0:=hp p (by omega)
 have p1:=hp (p+1) (by omega)
 have p2:=hp (p+2) (by omega)
 have m1:=xW p0 p2
 have m2:0≤stg a p (p+1) p*stg a p (p+1) p:=by
  rcases Int.le_total 0 (stg a p (p+1) p) with h | h
  ·exact qY h h
  ·exact qR h h
 have pm:0<lead (swG a p) (p+1):=by
  have:0<lead a (p+1)*lead (swG a p) (p+1):=by omega
  rcases (by omega:lead (swG a p) (p+1)≤0∨0<lead (swG a p) (p+1)) with h | h
  ·have:=qZ h (show 0≤lead a (p+1) by omega)
   omega
  ·exact h
 refine ⟨fun t ht hne2=>?_,pm,?_⟩
 ·rcases qB t (p+2) with e | e
  ·exact (sw_low (fun t ht=>hne t (by omega)) p (qV _)).1 t (by omega)
  ·exact (sw_high hs hpn hne (by omega) (n-(p+2)) (by omega)).1 t (by omega) hne2
 ·have h1:lead a (p+1)*lead (swG a p) (p+1)<lead a (p+1)*lead a (p+1):=by
   have:=xW p1 p1
   omega
  exact Int.lt_of_mul_lt_mul_left h1 (by omega)
structure Pos (n:Nat) (D:Int) (a:Nat→Row):Prop where
 sym:∀i j,i<n→j<n→a i j=a j i
 pos:∀k,k≤n→0<lead a k
 le:∀k,k≤n→lead a k≤D
section
variable {n:Nat} {D:Int} {a:Nat→Row}
theorem Pos.ne (h:Pos n D a) {k:Nat} (hk:k≤n):∀t,t≤k→lead a t≠0:=fun t ht=>by have:=h.pos t (by omega);omega
theorem Pos.sq (h:Pos n D a) {s k:Nat} (hs:s<n) (hk:k<s):lead a k*stg a (k+1) s s=lead a (k+1)*stg a k s s-stg a k s k*stg a k s k:=by
 have e:=stg_rec (h.ne (k:=k) (by omega)) s s
 rw [stg_sym h.sym k (by omega) (h.ne (by omega)) k s (by omega) hs (qV _) (by omega)] at e
 exact e
theorem sq_nonneg (x:Int):0≤x*x:=by
 rcases Int.le_total 0 x with h | h
 ·exact qY h h
 ·exact qR h h
theorem pos_of_mul {x y:Int} (hx:0<x) (h:0<x*y):0<y:=by
 rcases (by omega:y≤0∨0<y) with h2 | h2
 ·have:=qZ h2 (show 0≤x by omega)
  omega
 ·exact h2
theorem Pos.diag (h:Pos n D a) {s:Nat} (hs:s<n):∀m k,k+m=s→0<stg a k s s:=by
 intro m
 induction m with
 | zero=>
  intro k hk
  have:k=s:=by omega
  subst this
  rw [←lead_stg];exact h.pos _ (by omega)
 | succ m ih=>
  intro k hk
  have e:=h.sq hs (show k<s by omega)
  have h1:=ih (k+1) (by omega)
  have h2:=xW (h.pos k (by omega)) h1
  have h3:=sq_nonneg (stg a k s k)
  exact pos_of_mul (h.pos (k+1) (by omega)) (by omega)
theorem Pos.down (h:Pos n D a) {s:Nat} (hs:s<n):∀k,k≤s→stg a k s s≤lead a k*a s s:=by
 intro k
 induction k with
 | zero=>intro _;rw [stg_zero,lead_zero];omega
 | succ k ih=>
  intro hk
  have e:=h.sq hs (show k<s by omega)
  have h3:=sq_nonneg (stg a k s k)
  have h1:=qZ (ih (by omega)) (show 0≤lead a (k+1) by have:=h.pos (k+1) (by omega);omega)
  have h2:lead a k*stg a (k+1) s s≤lead a k*(lead a (k+1)*a s s):=by
   have:lead a (k+1)*(lead a k*a s s)=lead a k*(lead a (k+1)*a s s):=by grind
   omega
  exact qC h2 (h.pos k (by omega))
theorem Pos.lam_sq (h:Pos n D a) {s k:Nat} (hs:s<n) (hk:k<s):stg a k s k*stg a k s k≤lead a (k+1)*(lead a k*a s s):=by
 have e:=h.sq hs hk
 have h1:=xW (h.pos k (by omega)) (h.diag hs (s-(k+1)) (k+1) (by omega))
 have h2:=qZ (h.down hs k (by omega)) (show 0≤lead a (k+1) by have:=h.pos (k+1) (by omega);omega)
 omega
theorem abs_le_of_sq {x m:Int} (hm:0≤m) (h:x*x≤m*m):x≤m∧ -m≤x:=by
 constructor
 ·rcases (by omega:x≤m∨m<x) with h1 | h1
  ·exact h1
  ·have h2:=qZ (show m+1≤x by omega) (show 0≤x by omega)
   have h3:=qJ (show m+1≤x by omega) (show 0≤m+1 by omega)
   have e1:(m+1)*(m+1)=m*m+2*m+1:=by grind
   have e2:x*(m+1)=(m+1)*x:=xQ _ _
   omega
 ·rcases (by omega: -m≤x∨x< -m) with h1 | h1
  ·exact h1
  ·have h2:=qZ (show m+1≤ -x by omega) (show 0≤ -x by omega)
   have h3:=qJ (show m+1≤ -x by omega) (show 0≤m+1 by omega)
   have e1:(m+1)*(m+1)=m*m+2*m+1:=by grind
   have e2: -x*(m+1)=(m+1)* -x:=xQ _ _
   have e3: -x* -x=x*x:=by grind
   omega
theorem Pos.one (h:Pos n D a):1≤D:=by have:=h.le 0 (by omega);rw [lead_zero] at this;omega
theorem Pos.lam_le (h:Pos n D a) {s k:Nat} {K:Int} (hs:s<n) (hk:k<s) (hK:a s s≤K) (hK1:1≤K):stg a k s k≤lead a (k+1)*(K*D)∧ -(lead a (k+1)*(K*D))≤stg a k s k:=by
 have p1:=h.pos (k+1) (by omega)
 have p0:=h.pos k (by omega)
 have l0:=h.le k (by omega)
 have hD:=h.one
 have hKD:1≤K*D:=by have:=qZ hD (show 0≤K by omega);omega
 refine abs_le_of_sq (qY (by omega) (by omega)) ?_
 have q:=h.lam_sq hs hk
 have q1:lead a k*a s s≤D*K:=by
  have m1:=qZ hK (show 0≤lead a k by omega)
  have m2:=qJ l0 (show 0≤K by omega)
  omega
 have q2:=qZ q1 (show 0≤lead a (k+1) by omega)
 have c:D*K=K*D:=xQ _ _
 have q3:lead a (k+1)*(K*D)≤(lead a (k+1)*(K*D))*(lead a (k+1)*(K*D)):=by
  have z:1≤lead a (k+1)*(K*D):=by have:=qZ hKD (show 0≤lead a (k+1) by omega);omega
  have:=qZ z (show 0≤lead a (k+1)*(K*D) by omega)
  omega
 rw [c] at q2
 omega
theorem Pos.norm_le (h:Pos n D a) {s:Nat} (hs:s<n) {m:Int} (hl:∀k,k<s→stg a k s k≤lead a (k+1)*m∧ -(lead a (k+1)*m)≤stg a k s k):∀c k,k+c=s→stg a k s s≤lead a k*(D+(c:Int)*(D*(m*m))):=by
 intro c
 induction c with
 | zero=>
  intro k hk
  have:k=s:=by omega
  subst this
  rw [←lead_stg]
  have h1:=h.le (k+1) (by omega)
  have h0:=h.pos k (by omega)
  have:=qJ (show (1:Int)≤lead a k by omega) (show 0≤D by have:=h.one;omega)
  have e:lead a k*(D+((0:Nat):Int)*(D*(m*m)))=lead a k*D:=by simp
  omega
 | succ c ih=>
  intro k hk
  have e:=h.sq hs (show k<s by omega)
  have i1:=ih (k+1) (by omega)
  obtain ⟨l1,l2⟩:=hl k (by omega)
  have q:=sq_le l1 l2
  have p0:=h.pos k (by omega)
  have p1:=h.pos (k+1) (by omega)
  have d1:=h.le (k+1) (by omega)
  have m1:=qZ i1 (show 0≤lead a k by omega)
  have mm:=sq_nonneg m
  have x1:lead a (k+1)*(lead a (k+1)*(m*m))≤lead a (k+1)*(lead a k*(D*(m*m))):=by
   refine qZ ?_ (by omega)
   have y1:=qJ d1 mm
   have y2:=qJ (show (1:Int)≤lead a k by omega) (qY (show 0≤D by omega) mm)
   omega
  have z:lead a (k+1)*stg a k s s≤lead a (k+1)*(lead a k*(D+((c+1:Nat):Int)*(D*(m*m)))):=by
   have e1:lead a (k+1)*m*(lead a (k+1)*m)=lead a (k+1)*(lead a (k+1)*(m*m)):=by grind
   have e2:lead a k*(lead a (k+1)*(D+(c:Int)*(D*(m*m))))=lead a (k+1)*(lead a k*(D+(c:Int)*(D*(m*m)))):=by grind
   have e3:lead a (k+1)*(lead a k*(D+((c+1:Nat):Int)*(D*(m*m))))=lead a (k+1)*(lead a k*(D+(c:Int)*(D*(m*m))))+lead a (k+1)*(lead a k*(D*(m*m))):=by
    have:((c+1:Nat):Int)=(c:Int)+1:=by omega
    rw [this];grind
   omega
  exact qC z p1
theorem Pos.norm (h:Pos n D a) {s:Nat} (hs:s<n) {m:Int} (hl:∀k,k<s→stg a k s k≤lead a (k+1)*m∧ -(lead a (k+1)*m)≤stg a k s k):a s s≤D+(s:Int)*(D*(m*m)):=by
 have:=h.norm_le hs hl s 0 (by omega)
 rw [stg_zero,lead_zero] at this
 omega
theorem Pos.entry (h:Pos n D a) {s t:Nat} (hs:s<n) (ht:t≤s):∀m k,k+m=t→2*stg a k s t≤stg a k s s+stg a k t t∧ -(2*stg a k s t)≤stg a k s s+stg a k t t:=by
 intro m
 induction m with
 | zero=>
  intro k hk
  have hkt:k=t:=by omega
  subst hkt
  rcases qB k s with h1 | h1
  ·have e:=h.sq hs h1
   have p:=xW (h.pos k (by omega)) (h.diag hs (s-(k+1)) (k+1) (by omega))
   have d:=lead_stg a k
   rw [d] at e
   have p1:=h.diag hs (s-k) k (by omega)
   have p2:0<stg a k k k:=by rw [←d];exact h.pos _ (by omega)
   have q:2*stg a k s k*(2*stg a k s k)≤(stg a k s s+stg a k k k)*(stg a k s s+stg a k k k):=by
    have w:=sq_nonneg (stg a k s s-stg a k k k)
    have e1:(stg a k s s-stg a k k k)*(stg a k s s-stg a k k k)=(stg a k s s+stg a k k k)*(stg a k s s+stg a k k k)-4*(stg a k k k*stg a k s s):=by grind
    have e2:2*stg a k s k*(2*stg a k s k)=4*(stg a k s k*stg a k s k):=by grind
    omega
   have:=abs_le_of_sq (by omega) q
   omega
  ·have:k=s:=by omega
   subst this
   have:=h.diag hs 0 k (by omega)
   omega
 | succ m ih=>
  intro k hk
  obtain ⟨i1,i2⟩:=ih (k+1) (by omega)
  have e1:=h.sq hs (show k<s by omega)
  have e2:=h.sq (show t<n by omega) (show k<t by omega)
  have hn:=h.ne (k:=k) (by omega)
  have e3:=stg_rec hn s t
  rw [stg_sym h.sym k (by omega) hn k t (by omega) (by omega) (qV _) (by omega)] at e3
  have p0:=h.pos k (by omega)
  have p1:=h.pos (k+1) (by omega)
  have w1:=sq_nonneg (stg a k s k-stg a k t k)
  have w2:=sq_nonneg (stg a k s k+stg a k t k)
  have f1:(stg a k s k-stg a k t k)*(stg a k s k-stg a k t k)=stg a k s k*stg a k s k+stg a k t k*stg a k t k-2*(stg a k s k*stg a k t k):=by grind
  have f2:(stg a k s k+stg a k t k)*(stg a k s k+stg a k t k)=stg a k s k*stg a k s k+stg a k t k*stg a k t k+2*(stg a k s k*stg a k t k):=by grind
  have m1:=qZ i1 (show 0≤lead a k by omega)
  have m2:=qZ i2 (show 0≤lead a k by omega)
  have g1:lead a k*(2*stg a (k+1) s t)=2*(lead a k*stg a (k+1) s t):=by grind
  have g2:lead a k*(-(2*stg a (k+1) s t))= -(2*(lead a k*stg a (k+1) s t)):=by grind
  have g3:lead a k*(stg a (k+1) s s+stg a (k+1) t t)=lead a k*stg a (k+1) s s+lead a k*stg a (k+1) t t:=by grind
  have c1:lead a (k+1)*(2*stg a k s t)≤lead a (k+1)*(stg a k s s+stg a k t t):=by
   have h1:lead a (k+1)*(2*stg a k s t)=2*(lead a (k+1)*stg a k s t):=by grind
   have h2:lead a (k+1)*(stg a k s s+stg a k t t)=lead a (k+1)*stg a k s s+lead a (k+1)*stg a k t t:=by grind
   omega
  have c2:lead a (k+1)*(-(2*stg a k s t))≤lead a (k+1)*(stg a k s s+stg a k t t):=by
   have h1:lead a (k+1)*(-(2*stg a k s t))= -(2*(lead a (k+1)*stg a k s t)):=by grind
   have h2:lead a (k+1)*(stg a k s s+stg a k t t)=lead a (k+1)*stg a k s s+lead a (k+1)*stg a k t t:=by grind
   omega
  exact ⟨qC c1 p1,qC c2 p1⟩
theorem Pos.bound (h:Pos n D a) {K:Int} (hK:∀s,s<n→a s s≤K) {s t:Nat} (hs:s<n) (ht:t<n):a s t≤K∧ -K≤a s t:=by
 have key:∀s t,s<n→t≤s→a s t≤K∧ -K≤a s t:=by
  intro s t hs ht
  have:=h.entry hs ht t 0 (by omega)
  simp only [stg_zero] at this
  have:=hK s hs
  have:=hK t (by omega)
  omega
 rcases Nat.le_total t s with h1 | h1
 ·exact key s t hs h1
 ·rw [h.sym s t hs ht];exact key t s ht h1
end
def SZ (a:Nat→Row) (i j:Nat):Prop:=2*stg a j i j≤lead a (j+1)∧ -(2*stg a j i j)≤lead a (j+1)
def LV (a:Nat→Row) (i:Nat):Prop:=3*(lead a i*lead a i)≤4*(lead a (i-1)*lead a (i+1)+stg a (i-1) i (i-1)*stg a (i-1) i (i-1))
def OKr (a:Nat→Row) (i:Nat):Prop:=(∀j,j<i→SZ a i j)∧(0<i→LV a i)
structure CurA (n:Nat) (a:Nat→Row) (i j:Nat):Prop where
 hi:i<n
 hj:j<i
 pre:∀s,s<i→OKr a s
 up:∀l,j<l→l<i→SZ a i l
 no:¬SZ a i j
structure CurS (n:Nat) (a:Nat→Row) (i:Nat):Prop where
 hi:i<n
 h0:0<i
 pre:∀s,s<i→OKr a s
 up:∀l,l<i→SZ a i l
 no:¬LV a i
structure Good (n:Nat) (D K:Int) (a:Nat→Row):Prop where
 cA:∀i j,CurA n a i j→(∀s,s<n→s≠i→a s s≤K)∧∀l,l≤j→stg a l i l≤lead a (l+1)*(2^(i-1-j)*(K*D))∧ -(lead a (l+1)*(2^(i-1-j)*(K*D)))≤stg a l i l
 cS:∀i,CurS n a i→∀s,s<n→a s s≤K
 cE:(∀i,i<n→OKr a i)→∀s,s<n→a s s≤K
section
variable {n:Nat} {D K:Int} {a:Nat→Row}
theorem pow_pos2 (e:Nat):(1:Int)≤2^e:=by
 induction e with
 | zero=>decide
 | succ e ih=>rw [yK];omega
theorem pow_mono2 {e f:Nat} (h:e≤f):(2:Int)^e≤2^f:=by
 induction f with
 | zero=>have:e=0:=by omega
         subst this;exact xN _
 | succ f ih=>
  rcases qB e (f+1) with h1 | h1
  ·have:=ih (by omega)
   have:=pow_pos2 f
   rw [yK];omega
  ·have:e=f+1:=by omega
   rw [this];exact xN _
theorem good_all (h:Pos n D a) (hK:1≤K) (ha:∀s,s<n→a s s≤K):Good n D K a:=by
 refine ⟨fun i j c=>⟨fun s hs _=>ha s hs,fun l hl=>?_⟩,fun _ _=>ha,fun _=>ha⟩
 have:=h.lam_le c.hi (show l<i by have:=c.hj;omega) (ha i c.hi) hK
 have p:=h.pos (l+1) (by have:=c.hj;have:=c.hi;omega)
 have hKD:0≤K*D:=qY (by omega) (by have:=h.one;omega)
 have q:lead a (l+1)*(K*D)≤lead a (l+1)*(2^(i-1-j)*(K*D)):=by
  refine qZ ?_ (by omega)
  have:=qJ (pow_pos2 (i-1-j)) hKD
  omega
 omega
theorem ok_norm (h:Pos n D a) (h8:n≤8) (hKD:8*D≤K) {s:Nat} (hs:s<n) (hz:∀l,l<s→SZ a s l):a s s≤K:=by
 have:=h.norm hs (m:=1) (fun k hk=>by
  obtain ⟨z1,z2⟩:=hz k hk
  have:=h.pos (k+1) (by omega)
  omega)
 have e:(D:Int)*(1*1)=D:=by omega
 rw [e] at this
 have hD:=h.one
 have:(s:Int)*D≤7*D:=qJ (by omega) (by omega)
 omega
theorem add_pos {i j:Nat} {c:Int} (h:Pos n D a) (hi:i<n) (hj:j<i):Pos n D (addG a i j c):=by
 have hn:=h.ne (k:=n) (qV _)
 refine ⟨fun s t hs ht=>?_,fun k hk=>by rw [add_lead hj hi hn hk];exact h.pos k hk,fun k hk=>by rw [add_lead hj hi hn hk];exact h.le k hk⟩
 unfold addG
 rw [h.sym s t hs ht,h.sym j t (by omega) ht,h.sym s j hs (by omega)]
 have e:(s=i∧t=i)↔(t=i∧s=i):=And.comm
 simp only [e]
 omega
theorem good_add {i j:Nat} {c:Int} (h:Pos n D a) (h8:n≤8) (hK:1≤K) (hKD:8*D≤K) (hc:CurA n a i j) (hg:Good n D K a) (hz:2*(stg a j i j+c*lead a (j+1))≤lead a (j+1)∧ -(2*(stg a j i j+c*lead a (j+1)))≤lead a (j+1)):
  (c≤2^(i-1-j)*(K*D)∧ -(2^(i-1-j)*(K*D))≤c)∧Pos n D (addG a i j c)∧Good n D K (addG a i j c)∧
   (∀i' j',CurA n (addG a i j c) i' j'→i≤i'∧(i'=i→j'<j))∧∀i',CurS n (addG a i j c) i'→i≤i':=by
 have hi:=hc.hi
 have hj:=hc.hj
 have hn:=h.ne (k:=n) (qV _)
 have hp':=add_pos (c:=c) h hi hj
 obtain ⟨g1,g2⟩:=hg.cA i j hc
 have hM:1≤2^(i-1-j)*(K*D):=by
  have h1:=pow_pos2 (i-1-j)
  have h2:1≤K*D:=by have:=qZ h.one (show 0≤K by omega);omega
  have:=qZ h2 (show (0:Int)≤2^(i-1-j) by omega)
  omega
 have hcb:c≤2^(i-1-j)*(K*D)∧ -(2^(i-1-j)*(K*D))≤c:=by
  obtain ⟨b1,b2⟩:=g2 j (qV _)
  have p:=h.pos (j+1) (by omega)
  generalize 2^(i-1-j)*(K*D)=M at*
  generalize lead a (j+1)=d at*
  have t1:d*(2*c)≤d*(2*M+1):=by
   have e1:d*(2*c)=2*(c*d):=by grind
   have e2:d*(2*M+1)=2*(d*M)+d:=by grind
   omega
  have t2:d*(-(2*c))≤d*(2*M+1):=by
   have e1:d*(-(2*c))= -(2*(c*d)):=by grind
   have e2:d*(2*M+1)=2*(d*M)+d:=by grind
   omega
  have u1:=qC t1 p
  have u2:=qC t2 p
  omega
 have lam:∀s t,t<s→s<n→stg (addG a i j c) t s t=stg a t s t+if s=i then (if t≤j then c*stg a t j t else 0) else 0:=fun s t h1 h2=>add_lam hj hi hn h1 h2
 have ld:∀t,t≤n→lead (addG a i j c) t=lead a t:=fun t ht=>add_lead hj hi hn ht
 have szk:∀s l,l<s→s<n→s≠i→(SZ (addG a i j c) s l↔SZ a s l):=fun s l h1 h2 h3=>by
  unfold SZ
  rw [lam s l h1 h2,if_neg h3,ld _ (by omega),qD]
 have lvk:∀s,0<s→s<n→s≠i→(LV (addG a i j c) s↔LV a s):=fun s h1 h2 h3=>by
  unfold LV
  rw [lam s (s-1) (by omega) h2,if_neg h3,ld _ (by omega),ld _ (by omega),ld _ (by omega),qD]
 have dg:∀s,s≠i→(addG a i j c) s s=a s s:=fun s hs=>by
  unfold addG
  rw [if_neg hs,if_neg hs,if_neg (fun e=>hs e.1)];omega
 have low:∀i' j',CurA n (addG a i j c) i' j'→i≤i'∧(i'=i→j'<j):=by
  intro i' j' hc'
  refine ⟨yD fun hlt=>?_,fun e=>?_⟩
  ·have:=(hc.pre i' hlt).1 j' hc'.hj
   exact hc'.no ((szk i' j' hc'.hj hc'.hi (by omega)).2 this)
  ·subst e
   refine Nat.lt_of_not_le fun hle=>?_
   have hj':=hc'.hj
   apply hc'.no
   unfold SZ
   rw [lam i' j' hj' hi,if_pos rfl,ld _ (by omega)]
   rcases qB j j' with h1 | h1
   ·rw [if_neg (by omega),qD];exact hc.up j' h1 hj'
   ·have:j'=j:=by omega
    subst this
    rw [if_pos (qV _),←lead_stg]
    exact hz
 have lowS:∀i',CurS n (addG a i j c) i'→i≤i':=by
  intro i' hc'
  refine yD fun hlt=>?_
  have:=(hc.pre i' hlt).2 hc'.h0
  exact hc'.no ((lvk i' hc'.h0 hc'.hi (by omega)).2 this)
 have done:(∀l,l<i→SZ (addG a i j c) i l)→∀s,s<n→(addG a i j c) s s≤K:=by
  intro hz' s hs
  by_cases e:s=i
  ·subst e;exact ok_norm hp' h8 hKD hs hz'
  ·rw [dg s e];exact g1 s hs e
 refine ⟨hcb,hp',⟨fun i' j' hc'=>?_,fun i' hc'=>?_,fun hall=>done (hall i hi).1⟩,low,lowS⟩
 ·obtain ⟨l1,l2⟩:=low i' j' hc'
  by_cases e:i'=i
  ·subst e
   have hlt:=l2 rfl
   refine ⟨fun s hs hne=>by rw [dg s hne];exact g1 s hs hne,fun l hl=>?_⟩
   obtain ⟨b1,b2⟩:=g2 l (by omega)
   obtain ⟨z1,z2⟩:=(hc.pre j hj).1 l (by omega)
   have p:=h.pos (l+1) (by omega)
   rw [lam i' l (by omega) hi,if_pos rfl,if_pos (by omega),ld _ (by omega)]
   have m:=mul_abs hcb.1 hcb.2 z1 (by omega)
   have e2:c*(2*stg a l j l)=2*(c*stg a l j l):=by grind
   rw [e2] at m
   have pw:(2:Int)^(i'-1-j)*2≤2^(i'-1-j'):=by
    rw [←yK];exact pow_mono2 (by omega)
   have hKD0:0≤K*D:=qY (by omega) (by have:=h.one;omega)
   have pw2:=qJ pw hKD0
   have pw3:=qZ pw2 (show 0≤lead a (l+1) by omega)
   have e3:lead a (l+1)*(2^(i'-1-j)*2*(K*D))=2*(lead a (l+1)*(2^(i'-1-j)*(K*D))):=by grind
   have e4:2^(i'-1-j)*(K*D)*lead a (l+1)=lead a (l+1)*(2^(i'-1-j)*(K*D)):=xQ _ _
   have pp:=qY (show 0≤lead a (l+1) by omega) (show 0≤2^(i'-1-j)*(K*D) by omega)
   rw [e3] at pw3
   rw [e4] at m
   omega
  ·have hlt:i<i':=by omega
   have hall:=done (hc'.pre i hlt).1
   exact (good_all hp' hK hall).cA i' j' hc'
 ·have l1:=lowS i' hc'
  by_cases e:i'=i
  ·subst e;exact done hc'.up
  ·exact done (hc'.pre i (by omega)).1
theorem sw_lt {p s:Nat} (hp:p+1<n) (hs:s<n):sw p s<n:=by
 unfold sw
 split
 ·omega
 ·split<;>omega
theorem good_sw {i:Nat} (h:Pos n D a) (hK:1≤K) (hc:CurS n a i) (hg:Good n D K a):Pos n D (swG a (i-1))∧Good n D K (swG a (i-1))∧(∀t,t≤n→t≠i→lead (swG a (i-1)) t=lead a t)∧lead (swG a (i-1)) i<lead a i:=by
 have hi:=hc.hi
 have h0:=hc.h0
 obtain ⟨p,rfl⟩:∃p,i=p+1:=⟨i-1,by omega⟩
 simp only [xU]
 have hno:=hc.no
 unfold LV at hno
 simp only [xU] at hno
 obtain ⟨s1,s2,s3⟩:=sw_lead h.sym hi h.pos hno
 have hP:Pos n D (swG a p):=by
  refine ⟨fun s t hs ht=>h.sym _ _ (sw_lt hi hs) (sw_lt hi ht),fun k hk=>?_,fun k hk=>?_⟩
  ·by_cases e:k=p+1
   ·rw [e];exact s2
   ·rw [s1 k hk e];exact h.pos k hk
  ·by_cases e:k=p+1
   ·rw [e];have:=h.le (p+1) (by omega);omega
   ·rw [s1 k hk e];exact h.le k hk
 exact ⟨hP,good_all hP hK (fun s hs=>hg.cS _ hc _ (sw_lt hi hs)),s1,s3⟩
def prodL (a:Nat→Row):Nat→Nat
 | 0=>1
 | k+1=>prodL a k*(lead a (k+1)).toNat
theorem prod_congr {b:Nat→Row}:∀k,(∀t,t≤k→lead b t=lead a t)→prodL b k=prodL a k:=by
 intro k
 induction k with
 | zero=>intro _;rfl
 | succ k ih=>intro h;simp only [prodL];rw [ih (fun t ht=>h t (by omega)),h (k+1) (qV _)]
theorem prod_pos:∀k,(∀t,t≤k→0<lead a t)→0<prodL a k:=by
 intro k
 induction k with
 | zero=>intro _;exact Nat.one_pos
 | succ k ih=>
  intro h
  have:=h (k+1) (qV _)
  exact Nat.mul_pos (ih (fun t ht=>h t (by omega))) (by omega)
theorem prod_lt {b:Nat→Row} {i:Nat} (h0:0<i) (hl:lead b i<lead a i) (hb:0<lead b i):∀k,i≤k→(∀t,t≤k→t≠i→lead b t=lead a t)→(∀t,t≤k→0<lead a t)→prodL b k<prodL a k:=by
 intro k
 induction k with
 | zero=>intro h1;omega
 | succ k ih=>
  intro h1 h2 h3
  simp only [prodL]
  by_cases e:i=k+1
  ·subst e
   rw [prod_congr k (fun t ht=>h2 t (by omega) (by omega))]
   have:=prod_pos k (fun t ht=>h3 t (by omega))
   exact Nat.mul_lt_mul_of_pos_left (by omega) this
  ·rw [h2 (k+1) (qV _) (fun x=>e x.symm)]
   have:=h3 (k+1) (qV _)
   exact Nat.mul_lt_mul_of_pos_right (ih (by omega) (fun t ht hne=>h2 t (by omega) hne) (fun t ht=>h3 t (by omega))) (by omega)
def bigK (D K:Int):Int:=D+8*(D*((2^7*(K*D))*(2^7*(K*D))))
theorem good_norm (h:Pos n D a) (h8:n≤8) (hK:1≤K) (hg:Good n D K a) (hcase:(∃i j,CurA n a i j)∨(∃i,CurS n a i)∨∀i,i<n→OKr a i) {s:Nat} (hs:s<n):a s s≤bigK D K:=by
 have hD:=h.one
 have h1:1≤K*D:=by have:=qZ hD (show 0≤K by omega);omega
 have hm:K*D≤2^7*(K*D):=by omega
 have hmm:2^7*(K*D)≤(2^7*(K*D))*(2^7*(K*D)):=by
  have:=qZ (show 1≤2^7*(K*D) by omega) (show 0≤2^7*(K*D) by omega)
  omega
 have hK2:K≤K*D:=by have:=qZ hD (show 0≤K by omega);omega
 have hDm:(2^7*(K*D))*(2^7*(K*D))≤D*((2^7*(K*D))*(2^7*(K*D))):=by
  have:=qJ hD (show 0≤(2^7*(K*D))*(2^7*(K*D)) by omega)
  omega
 have hKB:K≤bigK D K:=by unfold bigK;omega
 rcases hcase with ⟨i,j,hc⟩ | ⟨i,hc⟩ | hall
 ·obtain ⟨g1,g2⟩:=hg.cA i j hc
  by_cases e:s=i
  ·subst e
   have:=h.norm hs (m:=2^7*(K*D)) (fun k hk=>by
    have p:=h.pos (k+1) (by omega)
    have q:lead a (k+1)≤lead a (k+1)*(2^7*(K*D)):=by
     have:=qZ (show 1≤2^7*(K*D) by omega) (show 0≤lead a (k+1) by omega)
     omega
    rcases qB j k with h2 | h2
    ·obtain ⟨z1,z2⟩:=hc.up k h2 hk
     omega
    ·obtain ⟨b1,b2⟩:=g2 k h2
     have w:(2:Int)^(s-1-j)≤2^7:=pow_mono2 (by omega)
     have w2:=qJ w (show 0≤K*D by omega)
     have w3:=qZ w2 (show 0≤lead a (k+1) by omega)
     omega)
   have f:(s:Int)*(D*((2^7*(K*D))*(2^7*(K*D))))≤8*(D*((2^7*(K*D))*(2^7*(K*D)))):=qJ (by omega) (by omega)
   unfold bigK
   omega
  ·exact xG (g1 s hs e) hKB
 ·exact xG (hg.cS i hc s hs) hKB
 ·exact xG (hg.cE hall s hs) hKB
end
theorem sumR_add (f g:Nat→Int) (n:Nat):sumR (fun i=>f i+g i) n=sumR f n+sumR g n:=by
 induction n with
 | zero=>rfl
 | succ n ih=>simp only [sumR,ih];omega
theorem sumR_mul (c:Int) (f:Nat→Int) (n:Nat):sumR (fun i=>c*f i) n=c*sumR f n:=by
 induction n with
 | zero=>simp [sumR]
 | succ n ih=>simp only [sumR,ih];grind
theorem sumR_one {f:Nat→Int} {n k:Nat} (hk:k<n) (h:∀t,t<n→t≠k→f t=0):sumR f n=f k:=by
 induction n with
 | zero=>omega
 | succ n ih=>
  simp only [sumR]
  by_cases e:k=n
  ·subst e
   rw [sumR_zero (fun t ht=>h t (by omega) (by omega))];omega
  ·rw [ih (by omega) (fun t ht hne=>h t (by omega) hne),h n (by omega) (fun x=>e x.symm)];omega
theorem sumR_abs {f:Nat→Int} {n:Nat} {c:Int} (h:∀t,t<n→f t≤c∧ -c≤f t):sumR f n≤n*c∧ -(n*c)≤sumR f n:=by
 induction n with
 | zero=>simp [sumR]
 | succ n ih=>
  obtain ⟨h1,h2⟩:=ih (fun t ht=>h t (by omega))
  obtain ⟨h3,h4⟩:=h n (by omega)
  simp only [sumR]
  have e:((n+1:Nat):Int)*c=(n:Int)*c+c:=by rw [show ((n+1:Nat):Int)=(n:Int)+1 by omega];grind
  omega
def linK (a:Nat→Row) (n k s:Nat) (v:Nat→Int):Int:=sumR (fun t=>stg a k s t*v t) n
def quaK (a:Nat→Row) (n k:Nat) (v:Nat→Int):Int:=sumR (fun s=>linK a n k s v*v s) n
section
variable {n:Nat} {D:Int} {a:Nat→Row}
theorem lin_rec (h:Pos n D a) {k s:Nat} (hk:k<n) (v:Nat→Int):lead a k*linK a n (k+1) s v=lead a (k+1)*linK a n k s v-stg a k s k*linK a n k k v:=by
 unfold linK
 rw [←sumR_mul,←sumR_mul,←sumR_mul]
 have e:sumR (fun i=>lead a k*(stg a (k+1) s i*v i)) n=sumR (fun i=>lead a (k+1)*(stg a k s i*v i)+(-1)*(stg a k s k*(stg a k k i*v i))) n:=by
  refine sumR_congr fun i _=>?_
  have r:=stg_rec (h.ne (k:=k) (by omega)) s i
  have:lead a k*(stg a (k+1) s i*v i)=(lead a k*stg a (k+1) s i)*v i:=by grind
  rw [this,r];grind
 rw [e,sumR_add,sumR_mul (-1)]
 omega
theorem qua_rec (h:Pos n D a) {k:Nat} (hk:k<n) (v:Nat→Int):lead a k*quaK a n (k+1) v=lead a (k+1)*quaK a n k v-linK a n k k v*linK a n k k v:=by
 unfold quaK
 rw [←sumR_mul,←sumR_mul]
 have hl:linK a n k k v*linK a n k k v=sumR (fun s=>linK a n k k v*(stg a k s k*v s)) n:=by
  rw [sumR_mul]
  congr 1
  unfold linK
  refine sumR_congr fun s hs=>?_
  rcases qB s k with h1 | h1
  ·rw [stg_row h1,stg_low (h.ne (k:=k) (by omega)) k s h1]
  ·rw [stg_sym h.sym k hk (h.ne (by omega)) k s hk hs (qV _) h1]
 have e:sumR (fun i=>lead a k*(linK a n (k+1) i v*v i)) n=sumR (fun i=>lead a (k+1)*(linK a n k i v*v i)+(-1)*(linK a n k k v*(stg a k i k*v i))) n:=by
  refine sumR_congr fun i _=>?_
  have r:=lin_rec h (s:=i) hk v
  have:lead a k*(linK a n (k+1) i v*v i)=(lead a k*linK a n (k+1) i v)*v i:=by grind
  rw [this,r];grind
 rw [e,sumR_add,sumR_mul (-1),hl]
 omega
theorem qua_top (v:Nat→Int):quaK a n n v=0:=by
 unfold quaK
 refine sumR_zero fun s hs=>?_
 have:linK a n n s v=0:=by
  unfold linK
  exact sumR_zero fun t _=>by rw [stg_row hs];simp
 rw [this];simp
theorem qua_nonneg (h:Pos n D a) (v:Nat→Int):∀m k,k+m=n→0≤quaK a n k v:=by
 intro m
 induction m with
 | zero=>
  intro k hk
  have:k=n:=by omega
  subst this
  rw [qua_top];exact xN _
 | succ m ih=>
  intro k hk
  have e:=qua_rec h (show k<n by omega) v
  have h1:=qY (show 0≤lead a k by have:=h.pos k (by omega);omega) (ih (k+1) (by omega))
  have h2:=sq_nonneg (linK a n k k v)
  have h3:0≤lead a (k+1)*quaK a n k v:=by omega
  rcases (by omega:quaK a n k v<0∨0≤quaK a n k v) with h4 | h4
  ·have:=xW (h.pos (k+1) (by omega)) (show 0< -quaK a n k v by omega)
   have e2:lead a (k+1)* -quaK a n k v= -(lead a (k+1)*quaK a n k v):=by grind
   omega
  ·exact h4
theorem qua_down (h:Pos n D a) (v:Nat→Int):∀k,k≤n→quaK a n k v≤lead a k*quaK a n 0 v:=by
 intro k
 induction k with
 | zero=>intro _;rw [lead_zero];omega
 | succ k ih=>
  intro hk
  have e:=qua_rec h (show k<n by omega) v
  have h2:=sq_nonneg (linK a n k k v)
  have h1:=qZ (ih (by omega)) (show 0≤lead a (k+1) by have:=h.pos (k+1) (by omega);omega)
  have h3:lead a k*quaK a n (k+1) v≤lead a k*(lead a (k+1)*quaK a n 0 v):=by
   have:lead a (k+1)*(lead a k*quaK a n 0 v)=lead a k*(lead a (k+1)*quaK a n 0 v):=by grind
   omega
  exact qC h3 (h.pos k (by omega))
theorem lin_bound (h:Pos n D a) (v:Nat→Int) {Q:Int} (hQ:quaK a n 0 v≤Q) {k:Nat} (hk:k<n):linK a n k k v≤D*(Q+1)∧ -(D*(Q+1))≤linK a n k k v:=by
 have q0:=qua_nonneg h v n 0 (by omega)
 have hD:=h.one
 refine abs_le_of_sq (qY (by omega) (by omega)) ?_
 have e:=qua_rec h hk v
 have h1:=qY (show 0≤lead a k by have:=h.pos k (by omega);omega) (qua_nonneg h v (n-(k+1)) (k+1) (by omega))
 have p1:=h.pos (k+1) (by omega)
 have p0:=h.pos k (by omega)
 have l1:=h.le (k+1) (by omega)
 have l0:=h.le k (by omega)
 have m1:=qZ (qua_down h v k (by omega)) (show 0≤lead a (k+1) by omega)
 have m2:lead a k*quaK a n 0 v≤D*Q:=by
  have x1:=qZ hQ (show 0≤lead a k by omega)
  have x2:=qJ l0 (show 0≤Q by omega)
  omega
 have m3:lead a (k+1)*(lead a k*quaK a n 0 v)≤D*(D*Q):=by
  have x1:=qZ m2 (show 0≤lead a (k+1) by omega)
  have x2:=qJ l1 (show 0≤D*Q from qY (by omega) (by omega))
  omega
 have m4:D*(D*Q)≤D*(Q+1)*(D*(Q+1)):=by
  have e1:D*(Q+1)*(D*(Q+1))=D*(D*Q)+D*D*(Q*Q+Q+1):=by grind
  have:=qY (qY (show 0≤D by omega) (show 0≤D by omega)) (show 0≤Q*Q+Q+1 by have:=sq_nonneg Q;omega)
  omega
 omega
def vecB (D K Q:Int):Nat→Int
 | 0=>D*(Q+1)
 | m+1=>D*(Q+1)+8*(D*K*vecB D K Q m)
theorem vecB_nonneg {K Q:Int} (hD:1≤D) (hK:0≤K) (hQ:0≤Q):∀m,0≤vecB D K Q m:=by
 intro m
 induction m with
 | zero=>exact qY (by omega) (by omega)
 | succ m ih=>
  have h1:=qY (show 0≤D by omega) (show 0≤Q+1 by omega)
  have h2:=qY (qY (show 0≤D by omega) hK) ih
  simp only [vecB];omega
theorem vecB_mono {K Q:Int} (hD:1≤D) (hK:1≤K) (hQ:0≤Q):∀m,vecB D K Q m≤vecB D K Q (m+1):=by
 intro m
 have h0:=vecB_nonneg hD (show 0≤K by omega) hQ m
 have h1:=qY (show 0≤D by omega) (show 0≤Q+1 by omega)
 have h2:1≤D*K:=by have:=qZ hK (show 0≤D by omega);omega
 have h3:=qJ h2 h0
 simp only [vecB]
 omega
theorem vecB_le {K Q:Int} (hD:1≤D) (hK:1≤K) (hQ:0≤Q):∀c m,vecB D K Q m≤vecB D K Q (m+c):=by
 intro c
 induction c with
 | zero=>intro m;exact xN _
 | succ c ih=>intro m;exact xG (ih m) (vecB_mono hD hK hQ (m+c))
theorem vec_bound (h:Pos n D a) (h8:n≤8) {K:Int} (hK:1≤K) (ha:∀s,s<n→a s s≤K) (v:Nat→Int) {Q:Int} (hQ:quaK a n 0 v≤Q):∀m k,k+m+1=n→v k≤vecB D K Q m∧ -(vecB D K Q m)≤v k:=by
 have hD:=h.one
 have hQ0:0≤Q:=by have:=qua_nonneg h v n 0 (by omega);omega
 intro m
 induction m using Nat.strongRecOn with
 | ind m ih=>
 intro k hk
 obtain ⟨b1,b2⟩:=lin_bound h v hQ (show k<n by omega)
 have rest:∃x,linK a n k k v=lead a (k+1)*v k+x∧x≤(if m=0 then 0 else 8*(D*K*vecB D K Q (m-1)))∧ -(if m=0 then 0 else 8*(D*K*vecB D K Q (m-1)))≤x:=by
  refine ⟨sumR (fun t=>if t=k then 0 else stg a k k t*v t) n,?_,?_⟩
  ·have e:linK a n k k v=sumR (fun t=>(if t=k then stg a k k k*v k else 0)+(if t=k then 0 else stg a k k t*v t)) n:=by
    unfold linK
    refine sumR_congr fun t _=>?_
    split
    ·rename_i e;rw [e];omega
    ·omega
   rw [e,sumR_add,sumR_one (k:=k) (by omega) (fun t _ hne=>if_neg hne),if_pos rfl,lead_stg]
  ·by_cases hm:m=0
   ·rw [if_pos hm]
    have:sumR (fun t=>if t=k then 0 else stg a k k t*v t) n=0:=sumR_zero fun t ht=>by
     split
     ·rfl
     ·rw [stg_low (h.ne (k:=k) (by omega)) k t (by omega)];simp
    rw [this];omega
   ·rw [if_neg hm]
    have hb:=vecB_nonneg hD (show 0≤K by omega) hQ0 (m-1)
    have hDK:0≤D*K:=qY (by omega) (by omega)
    have:=sumR_abs (f:=fun t=>if t=k then 0 else stg a k k t*v t) (n:=n) (c:=D*K*vecB D K Q (m-1)) (fun t ht=>by
     have hz:=qY hDK hb
     split
     ·omega
     ·rename_i hne
      rcases qB t k with h1 | h1
      ·rw [stg_low (h.ne (k:=k) (by omega)) k t h1];omega
      ·obtain ⟨v1,v2⟩:=ih (n-1-t) (by omega) t (by omega)
       have vm:=vecB_le hD hK hQ0 (m-1-(n-1-t)) (n-1-t)
       have em:n-1-t+(m-1-(n-1-t))=m-1:=by omega
       rw [em] at vm
       have en:=h.entry ht (show k≤t by omega) 0 k (by omega)
       have sy:=stg_sym h.sym k (by omega) (h.ne (by omega)) k t (by omega) ht (qV _) (by omega)
       have d1:=h.down ht k (by omega)
       have d2:=h.down (show k<n by omega) k (qV _)
       have p0:=h.pos k (by omega)
       have l0:=h.le k (by omega)
       have f:∀s,s<n→lead a k*a s s≤D*K:=fun s hs=>by
        have x1:=qZ (ha s hs) (show 0≤lead a k by omega)
        have x2:=qJ l0 (show 0≤K by omega)
        omega
       have f1:=f t ht
       have f2:=f k (by omega)
       rw [sy]
       exact mul_abs (by omega) (by omega) (by omega) (by omega))
    have e8:(n:Int)*(D*K*vecB D K Q (m-1))≤8*(D*K*vecB D K Q (m-1)):=qJ (by omega) (qY hDK hb)
    omega
 obtain ⟨x,e,x1,x2⟩:=rest
 have p1:=h.pos (k+1) (by omega)
 have key:∀{w:Int},lead a (k+1)*v k≤w→ -w≤lead a (k+1)*v k→v k≤w∧ -w≤v k:=by
  intro w h1 h2
  rcases (by omega:v k≤0∨0<v k) with h3 | h3
  ·have:=qJ (show (1:Int)≤lead a (k+1) by omega) (show 0≤ -v k by omega)
   have e2:lead a (k+1)* -v k= -(lead a (k+1)*v k):=by grind
   have:=qY (show 0≤lead a (k+1) by omega) (show 0≤ -v k by omega)
   omega
  ·have:=qJ (show (1:Int)≤lead a (k+1) by omega) (show 0≤v k by omega)
   omega
 by_cases hm:m=0
 ·subst hm
  simp only [if_true] at x1 x2
  simp only [vecB]
  exact key (by omega) (by omega)
 ·obtain ⟨m',rfl⟩:∃m',m=m'+1:=⟨m-1,by omega⟩
  rw [if_neg (by omega)] at x1 x2
  simp only [xU] at x1 x2
  simp only [vecB]
  exact key (by omega) (by omega)
theorem vec_all (h:Pos n D a) (h8:n≤8) {K:Int} (hK:1≤K) (ha:∀s,s<n→a s s≤K) (v:Nat→Int) {Q:Int} (hQ:quaK a n 0 v≤Q) {k:Nat} (hk:k<n):v k≤vecB D K Q 7∧ -(vecB D K Q 7)≤v k:=by
 have hQ0:0≤Q:=by have:=qua_nonneg h v n 0 (by omega);omega
 obtain ⟨h1,h2⟩:=vec_bound h h8 hK ha v hQ (n-1-k) k (by omega)
 have:=vecB_le h.one hK hQ0 (7-(n-1-k)) (n-1-k)
 have e:n-1-k+(7-(n-1-k))=7:=by omega
 rw [e] at this
 omega
def gramT (a:Nat→Row) (n:Nat) (T:Nat→Nat→Int):Nat→Row:=fun s t=>sumR (fun x=>sumR (fun y=>a x y*T y t) n*T x s) n
theorem gramT_norm (T:Nat→Nat→Int) (s:Nat):gramT a n T s s=quaK a n 0 (fun x=>T x s):=by
 unfold gramT quaK linK
 refine sumR_congr fun x _=>?_
 congr 1
 exact sumR_congr fun y _=>by rw [stg_zero]
theorem gramT_add (T:Nat→Nat→Int) (i j:Nat) (c:Int):gramT a n (fun x s=>T x s+if s=i then c*T x j else 0)=addG (gramT a n T) i j c:=by
 funext s t
 have col:∀x t,sumR (fun y=>a x y*(T y t+if t=i then c*T y j else 0)) n=sumR (fun y=>a x y*T y t) n+if t=i then c*sumR (fun y=>a x y*T y j) n else 0:=by
  intro x t
  split
  ·rw [←sumR_mul,←sumR_add];exact sumR_congr fun y _=>by grind
  ·rw [qD];exact sumR_congr fun y _=>by rw [qD]
 show sumR (fun x=>sumR (fun y=>a x y*(T y t+if t=i then c*T y j else 0)) n*(T x s+if s=i then c*T x j else 0)) n=_
 have e1:sumR (fun x=>sumR (fun y=>a x y*(T y t+if t=i then c*T y j else 0)) n*(T x s+if s=i then c*T x j else 0)) n=
   sumR (fun x=>(sumR (fun y=>a x y*T y t) n+if t=i then c*sumR (fun y=>a x y*T y j) n else 0)*(T x s+if s=i then c*T x j else 0)) n:=
  sumR_congr fun x _=>by rw [col]
 rw [e1]
 unfold addG gramT
 by_cases hs:s=i
 ·by_cases ht:t=i
  ·simp only [hs,ht,if_true,and_self]
   rw [←sumR_mul,←sumR_mul,←sumR_mul,←sumR_add,←sumR_add,←sumR_add]
   exact sumR_congr fun x _=>by grind
  ·simp only [hs,ht,if_true,if_false,and_false,qD]
   rw [←sumR_mul,←sumR_add]
   exact sumR_congr fun x _=>by grind
 ·by_cases ht:t=i
  ·simp only [hs,ht,if_true,if_false,false_and,qD]
   rw [←sumR_mul,←sumR_add]
   exact sumR_congr fun x _=>by grind
  ·simp only [hs,ht,if_false,false_and,qD]
end
end Go.Det
namespace Go.Proofs.YtenboapacjlmoaaGreatDoor
open Nat renaming lt_or_ge → qB
open List renaming getD_eq_getElem?_getD → qX, getElem?_eq_getElem → qK, ext_getElem → qL, getElem?_eq_none → xM
open Int renaming add_zero → qD, mul_comm → xQ
set_option linter.unusedSimpArgs false
set_option linter.unusedVariables false
open Go Go.AL Go.Det
def mkM (n:Nat) (f:Nat→Nat→Int):List (List Int):=(List.range n).map fun i=>(List.range n).map fun j=>f i j
theorem mkM_shp (n:Nat) (f:Nat→Nat→Int):Shp n (mkM n f):=by
 refine ⟨by simp [mkM],fun i hi=>?_⟩
 rw [qX];simp [mkM,hi]
theorem ent_mk {n:Nat} {f:Nat→Nat→Int} {i j:Nat} (hi:i<n) (hj:j<n):ent (mkM n f) i j=f i j:=by
 unfold ent
 simp [mkM,qX,hi,hj]
theorem Shp.out {n:Nat} {M:List (List Int)} (h:Shp n M) {i j:Nat} (hij:n≤i∨n≤j):ent M i j=0:=by
 unfold ent
 rcases qB i n with h1 | h1
 ·rw [qX,xM (by rw [h.row i h1];omega)];rfl
 ·have:M.getD i []=[]:=by rw [qX,xM (by rw [h.len];exact h1)];rfl
  rw [this];rfl
theorem shp_ext {n:Nat} {M M':List (List Int)} (h:Shp n M) (h':Shp n M') (he:∀i j,i<n→j<n→ent M i j=ent M' i j):M=M':=by
 refine qL (h.len.trans h'.len.symm) fun i hi hi'=>?_
 have e1:M.getD i []=M[i]:=by rw [qX,qK hi];rfl
 have e2:M'.getD i []=M'[i]:=by rw [qX,qK hi'];rfl
 have hin:i<n:=by rw [←h.len];exact hi
 have l1:=h.row i hin
 have l2:=h'.row i hin
 rw [e1] at l1
 rw [e2] at l2
 refine qL (l1.trans l2.symm) fun j hj hj'=>?_
 have:=he i j hin (by omega)
 unfold ent at this
 rw [e1,e2,qX,qX,qK hj,qK hj'] at this
 simpa using this
def mulM (n:Nat) (A B:List (List Int)):List (List Int):=mkM n fun i j=>sumR (fun k=>ent A i k*ent B k j) n
def trM (n:Nat) (A:List (List Int)):List (List Int):=mkM n fun i j=>ent A j i
def idM (n:Nat):List (List Int):=mkM n fun i j=>if i=j then 1 else 0
def cgM (n:Nat) (G U:List (List Int)):List (List Int):=mulM n (mulM n (trM n U) G) U
def addU (n i j:Nat) (c:Int):List (List Int):=setM (idM n) j i c
theorem id_shp (n:Nat):Shp n (idM n):=mkM_shp n _
theorem mul_shp (n:Nat) (A B:List (List Int)):Shp n (mulM n A B):=mkM_shp n _
theorem cg_shp (n:Nat) (G U:List (List Int)):Shp n (cgM n G U):=mkM_shp n _
theorem id_ent {n i j:Nat} (hi:i<n) (hj:j<n):ent (idM n) i j=if i=j then 1 else 0:=ent_mk hi hj
theorem addU_shp {n i j:Nat} {c:Int} (hj:j<n):Shp n (addU n i j c):=(mkM_shp n _).set hj
theorem addU_ent {n i j x s:Nat} {c:Int} (hij:i≠j) (hi:i<n) (hj:j<n) (hx:x<n) (hs:s<n):ent (addU n i j c) x s=(if x=s then 1 else 0)+(if s=i∧x=j then c else 0):=by
 unfold addU
 rw [(id_shp n).ent_set hj hi]
 by_cases h:x=j∧s=i
 ·have h1:¬x=s:=by omega
  have h2:s=i∧x=j:=⟨h.2,h.1⟩
  rw [if_pos h,if_neg h1,if_pos h2];omega
 ·have h2:¬(s=i∧x=j):=fun e=>h ⟨e.2,e.1⟩
  rw [if_neg h,if_neg h2]
  rw [id_ent hx hs];omega
theorem sum_addU {n i j s:Nat} {c:Int} (hij:i≠j) (hi:i<n) (hj:j<n) (hs:s<n) (f:Nat→Int):sumR (fun x=>f x*ent (addU n i j c) x s) n=f s+if s=i then c*f j else 0:=by
 have e:sumR (fun x=>f x*ent (addU n i j c) x s) n=sumR (fun x=>(if x=s then f s else 0)+(if x=j then (if s=i then c*f j else 0) else 0)) n:=by
  refine sumR_congr fun x hx=>?_
  rw [addU_ent hij hi hj hx hs]
  by_cases h1:x=s
  ·by_cases h2:s=i
   ·have h3:x≠j:=by omega
    rw [if_pos h1,if_neg (by omega),if_pos h1,if_neg h3,h1];omega
   ·rw [if_pos h1,if_neg (by omega),if_pos h1,if_neg h2,h1]
    split<;>omega
  ·by_cases h2:x=j
   ·by_cases h3:s=i
    ·rw [if_neg h1,if_pos ⟨h3,h2⟩,if_neg h1,if_pos h2,if_pos h3,h2];grind
    ·rw [if_neg h1,if_neg (by omega),if_neg h1,if_pos h2,if_neg h3];omega
   ·rw [if_neg h1,if_neg (by omega),if_neg h1,if_neg h2];omega
 rw [e,sumR_add,sumR_one hs (fun t _ hne=>if_neg hne),if_pos rfl,sumR_one hj (fun t _ hne=>if_neg hne),if_pos rfl]
theorem cg_add {n i j:Nat} {c:Int} {M:List (List Int)} (h:Shp n M) (hij:i≠j) (hi:i<n) (hj:j<n):rowF (cgM n M (addU n i j c))=addG (rowF M) i j c:=by
 funext s t
 show ent (cgM n M (addU n i j c)) s t=addG (rowF M) i j c s t
 by_cases hs:s<n
 ·by_cases ht:t<n
  ·unfold cgM mulM
   rw [ent_mk hs ht]
   have e:sumR (fun k=>ent (mkM n fun i_1 j_1=>sumR (fun k=>ent (trM n (addU n i j c)) i_1 k*ent M k j_1) n) s k*ent (addU n i j c) k t) n=
     sumR (fun k=>(ent M s k+if s=i then c*ent M j k else 0)*ent (addU n i j c) k t) n:=by
    refine sumR_congr fun k hk=>?_
    rw [ent_mk hs hk]
    congr 1
    have e2:sumR (fun x=>ent (trM n (addU n i j c)) s x*ent M x k) n=sumR (fun x=>ent M x k*ent (addU n i j c) x s) n:=by
     refine sumR_congr fun x hx=>?_
     unfold trM
     rw [ent_mk hs hx,xQ]
    rw [e2,sum_addU hij hi hj hs]
   rw [e,sum_addU hij hi hj ht]
   unfold addG rowF
   by_cases h1:s=i
   ·by_cases h2:t=i
    ·simp only [h1,h2,if_true,and_self];grind
    ·simp only [h1,h2,if_true,if_false,and_false,qD]
   ·by_cases h2:t=i
    ·simp only [h1,h2,if_true,if_false,false_and,qD]
    ·simp only [h1,h2,if_false,false_and,qD]
  ·rw [(cg_shp n _ _).out (.inr (by omega))]
   unfold addG rowF
   have z:∀x,ent M x t=0:=fun x=>h.out (.inr (by omega))
   rw [z,z,if_neg (show ¬t=i by omega),if_neg (show ¬(s=i∧t=i) by omega)]
   split<;>omega
 ·rw [(cg_shp n _ _).out (.inl (by omega))]
  unfold addG rowF
  have z:∀x,ent M s x=0:=fun x=>h.out (.inl (by omega))
  rw [z,z,if_neg (show ¬s=i by omega),if_neg (show ¬(s=i∧t=i) by omega)]
  split<;>omega
theorem sw_sw (p s:Nat):sw p (sw p s)=s:=by
 by_cases h1:s=p
 ·rw [h1,sw_p,sw_q]
 ·by_cases h2:s=p+1
  ·rw [h2,sw_q,sw_p]
  ·rw [sw_ne h1 h2,sw_ne h1 h2]
theorem sw_eq {p x s:Nat}:sw p x=s↔x=sw p s:=by
 constructor
 ·intro h;rw [←h,sw_sw]
 ·intro h;rw [h,sw_sw]
theorem swU_ent {n p x s:Nat} (hp:p+1<n) (hx:x<n) (hs:s<n):ent (swapM (idM n) (p+1) p) x s=if x=sw p s then 1 else 0:=by
 rw [(swap_shp (id_shp n) hp (by omega)).2]
 show ent (idM n) (sw p x) s=_
 rw [id_ent (sw_lt hp hx) hs]
 by_cases h:sw p x=s
 ·rw [if_pos h,if_pos (sw_eq.1 h)]
 ·rw [if_neg h,if_neg (fun e=>h (sw_eq.2 e))]
theorem sum_swU {n p s:Nat} (hp:p+1<n) (hs:s<n) (f:Nat→Int):sumR (fun x=>f x*ent (swapM (idM n) (p+1) p) x s) n=f (sw p s):=by
 have e:sumR (fun x=>f x*ent (swapM (idM n) (p+1) p) x s) n=sumR (fun x=>if x=sw p s then f (sw p s) else 0) n:=by
  refine sumR_congr fun x hx=>?_
  rw [swU_ent hp hx hs]
  split
  ·rename_i e;rw [e];omega
  ·omega
 rw [e,sumR_one (sw_lt hp hs) (fun t _ hne=>if_neg hne),if_pos rfl]
theorem cg_sw {n p:Nat} {M:List (List Int)} (h:Shp n M) (hp:p+1<n):rowF (cgM n M (swapM (idM n) (p+1) p))=swG (rowF M) p:=by
 funext s t
 show ent (cgM n M (swapM (idM n) (p+1) p)) s t=ent M (sw p s) (sw p t)
 by_cases hs:s<n
 ·by_cases ht:t<n
  ·unfold cgM mulM
   rw [ent_mk hs ht]
   have e:sumR (fun k=>ent (mkM n fun i_1 j_1=>sumR (fun k=>ent (trM n (swapM (idM n) (p+1) p)) i_1 k*ent M k j_1) n) s k*ent (swapM (idM n) (p+1) p) k t) n=sumR (fun k=>ent M (sw p s) k*ent (swapM (idM n) (p+1) p) k t) n:=by
    refine sumR_congr fun k hk=>?_
    rw [ent_mk hs hk]
    congr 1
    have e2:sumR (fun x=>ent (trM n (swapM (idM n) (p+1) p)) s x*ent M x k) n=sumR (fun x=>ent M x k*ent (swapM (idM n) (p+1) p) x s) n:=by
     refine sumR_congr fun x hx=>?_
     unfold trM
     rw [ent_mk hs hx,xQ]
    rw [e2,sum_swU hp hs]
   rw [e,sum_swU hp ht]
  ·have hne:sw p t=t:=sw_ne (by omega) (by omega)
   rw [(cg_shp n _ _).out (.inr (by omega)),hne,h.out (.inr (by omega))]
 ·have hne:sw p s=s:=sw_ne (by omega) (by omega)
  rw [(cg_shp n _ _).out (.inl (by omega)),hne,h.out (.inl (by omega))]
theorem mul_add {n i j x s:Nat} {c:Int} {T:List (List Int)} (hij:i≠j) (hi:i<n) (hj:j<n) (hx:x<n) (hs:s<n):ent (mulM n T (addU n i j c)) x s=ent T x s+if s=i then c*ent T x j else 0:=by
 unfold mulM
 rw [ent_mk hx hs,sum_addU hij hi hj hs]
theorem mul_sw {n p x s:Nat} {T:List (List Int)} (hp:p+1<n) (hx:x<n) (hs:s<n):ent (mulM n T (swapM (idM n) (p+1) p)) x s=ent T x (sw p s):=by
 unfold mulM
 rw [ent_mk hx hs,sum_swU hp hs]
end Go.Proofs.YtenboapacjlmoaaGreatDoor
namespace Go.Proofs.YtenboapacjlmoaaGreatDoor
open Nat renaming reduceEqDiff → qQ, sub_self → xH
open List renaming getD_eq_getElem?_getD → qX, getElem?_eq_getElem → qK, getD_cons_succ → qW, getElem?_set_self → qE, getElem?_append_right → qG, getD_cons_zero → qI, ext_getElem → qL, take_of_length_le → qN, set_append_right → qO, getElem?_set_ne → xV, set_set → yW, take_add_one → yV, getElem_set → yE, length_take → yG
open Int renaming toNat_natCast → qU, toNat_zero → xX, tmod_lt_of_pos → xT, lt_tmod_of_pos → yQ, emod_lt_of_pos → yX, emod_nonneg → yO
set_option linter.unusedSimpArgs false
set_option linter.unusedVariables false
open Go Go.AL Go.Proofs Go.Limb
set_option maxRecDepth 100000
theorem tmod_pos {x m:Int} (hm:0<m):Int.tmod (Int.tmod x m+m) m=x%m:=by
 have h1:=xT x hm
 have h2:=yQ x hm
 have h3:0≤Int.tmod x m+m:=by omega
 rw [Int.tmod_eq_emod_of_nonneg h3,Int.add_emod_right]
 have h4:=Int.mul_tdiv_add_tmod x m
 have h5:Int.tmod x m=x+m*(-(Int.tdiv x m)):=by rw [Int.mul_neg];omega
 rw [h5,Int.add_mul_emod_self_left]
theorem moCheck {m:Int} (hm:2≤m∧m≤2147483647):Ret Tryz.prog G 94 [.int .i64 m] [] (.int .i64 0) []:=by
 have d1:decide (m<2)=false:=decide_eq_false (by omega)
 have d2:decide (2147483647<m)=false:=decide_eq_false (by omega)
 refine Ret_of mixed Tryz.func94 comp94 _ 9 res94 nt94 (by simp) (by simp) ?_
 simp only [c94,r94_0,r94_1,SS,forall_const,reduceCtorEq,reduceIte,qQ,d1,d2]
 simp only [r94_3,SS]
 exact ⟨.inl trivial,_,rfl,.drop _ _ rfl (by intro i cs h;omega)⟩
theorem moValid {n:Nat} {M:List (List Int)} {a:AV} (h:ImV M a) (hS:Shp n M) (hn:1≤n∧n≤8):Ret Tryz.prog G 93 [a] [] (.bool true) []:=by
 obtain ⟨rows,c,rfl,hl,hr⟩:=h.val
 have hlen:=hS.len
 obtain ⟨c0,he0⟩:=hr 0 (by omega)
 have hc0:=hS.row 0 (by omega)
 have d1:decide ((n:Int)<1)=false:=decide_eq_false (by omega)
 have d2:decide ((16:Int)<(n:Nat))=false:=decide_eq_false (by omega)
 refine Ret_of mixed Tryz.func93 comp93 _ 41 res93 nt93 (by simp) (by simp) ?_
 simp only [c93,r93_0,r93_1,SS,forall_const,reduceCtorEq,reduceIte,qQ,he0,hc0,hl,hlen,xX,d1,d2]
 refine ⟨⟨by omega,by omega⟩,by omega,⟨by omega,by omega⟩,by omega,?_⟩
 simp only [r93_3,SS,reduceCtorEq,reduceIte,qQ]
 refine W_loop (fun k E H=>∃i,i+k=n∧E 0= .vec rows n c∧E 27= .vec rows n c∧E 28= .int .i64 (n:Nat)∧E 29= .int .i64 (i:Nat)∧H=[]) (n:=n) ⟨0,by omega,by simp only [upd_app,argsE_app,qI,qQ,if_false],by simp only [upd_app,argsE_app,qW,qQ,reduceIte,if_false],by simp only [upd_app,argsE_app,qW,qQ,reduceIte,if_false],by simp only [upd_app,argsE_app,qW,qQ,reduceIte,if_false];rfl,rfl⟩ ?_
 rintro k E H ⟨i,hik,e0,e27,e28,e29,rfl⟩
 refine wpC_sound mixed ?_
 simp only [l93_0,r93_4,SS,reduceCtorEq,reduceIte,e28,e29]
 refine ⟨fun hlt=>?_,fun hge=>?_⟩
 ·obtain ⟨k,rfl⟩:∃k',k=k'+1:=⟨k-1,by omega⟩
  obtain ⟨ci,hei⟩:=hr i (by omega)
  have hci:=hS.row i (by omega)
  have w5:IntKind.i64.wrap ((i:Int)+1)=((i+1:Nat):Int):=by rw [show (i:Int)+1=((i+1:Nat):Int) by omega];exact w64 (by omega) (by omega)
  simp only [r93_5,r93_6,SS,forall_const,reduceCtorEq,reduceIte,qQ,e0,e27,e29,qU,xX,he0,hc0,hei,hci,hl,hlen]
  refine ⟨⟨by omega,by omega⟩,by omega,⟨by omega,by omega⟩,by omega,fun hne=>absurd rfl hne,fun _=>?_⟩
  simp only [r93_8,SS,reduceIte,qQ,e29,w5]
  refine ⟨k,_,_,by omega,⟨i+1,by omega,?_,?_,?_,?_,rfl⟩,.refl⟩<;>simp only [upd_app,qQ,reduceIte,if_false, *]
 ·simp only [r93_9,SS]
  exact ⟨.inl trivial,_,rfl,.drop _ _ rfl (by intro i cs h;omega)⟩
def modM (n:Nat) (M:List (List Int)) (m:Int):List (List Int):=mkM n fun i j=>ent M i j%m
theorem moRes_in {n:Nat} {M:List (List Int)} {rows:List AV} {c:Option Nat} (hn:1≤n∧n≤8) (hS:Shp n M) (hf:∀i j,In64 (ent M i j)) {m:Int} (hm:2≤m∧m≤2147483647) {i:Nat} (hi:i<n) {ci:Option Nat} {rs:List (List Int)} (hrl:rs.length=i+1) (hr0:(rs.getD i []).length=n) {E:Env} {Q:Post}
  (e0:E 0= .vec rows n c) (e1:E 1= .int .i64 m) (e5:E 5= .sl 0 0 n 1 (some n)) (e6:E 6= .int .i64 (i:Nat)) (e13:E 13= .vec rows n c) (e14:E 14= .int .i64 (n:Nat)) (e15:E 15= .int .i64 (i:Nat)) (e26:E 26= .vec (i64z (M.getD i [])) n ci) (e27:E 27= .int .i64 (n:Nat)) (e28:E 28= .int .i64 0)
  (hQ:∀E' r,r.length=n→(∀j,j<n→r.getD j 0=ent M i j%m)→E' 0= .vec rows n c→E' 1= .int .i64 m→E' 5= .sl 0 0 n 1 (some n)→E' 13= .vec rows n c→E' 14= .int .i64 (n:Nat)→E' 15= .int .i64 (i:Nat)→Q (.exit 2) E' (bH n n (rs.set i r))):
  W Tryz.prog G 0 49 (.loop l95_1) E (bH n n rs) Q:=by
 refine W_loop (fun k E H=>∃j r,j+k=n∧r.length=n∧(∀t,t<j→r.getD t 0=ent M i t%m)∧H=bH n n (rs.set i r)∧E 0= .vec rows n c∧E 1= .int .i64 m∧E 5= .sl 0 0 n 1 (some n)∧E 6= .int .i64 (i:Nat)∧E 13= .vec rows n c∧E 14= .int .i64 (n:Nat)∧E 15= .int .i64 (i:Nat)∧
  E 26= .vec (i64z (M.getD i [])) n ci∧E 27= .int .i64 (n:Nat)∧E 28= .int .i64 (j:Nat)) (n:=n)
  ⟨0,rs.getD i [],by omega,hr0,fun t ht=>absurd ht (by omega),?_,e0,e1,e5,e6,e13,e14,e15,e26,e27,e28⟩ ?_
 ·congr 1
  refine qL (by simp) fun t h1 h2=>?_
  rw [yE]
  split
  ·rename_i e;subst e;rw [qX,qK h1];rfl
  ·rfl
 clear e0 e1 e5 e6 e13 e14 e15 e26 e27 e28 E
 rintro k E H ⟨j,r,hjk,hrm,hr,rfl,e0,e1,e5,e6,e13,e14,e15,e26,e27,e28⟩
 refine wpC_sound mixed ?_
 simp only [l95_1,r95_7,SS,reduceIte,e27,e28]
 refine ⟨fun hlt=>?_,fun hge=>?_⟩
 ·obtain ⟨k,rfl⟩:∃k',k=k'+1:=⟨k-1,by omega⟩
  have hj:j<n:=by omega
  have lM:=hS.row i hi
  have g1:(i64z (M.getD i [])).getD j .junk= .int .i64 (ent M i j):=i64z_getD _ j (by omega) _
  have w5:IntKind.i64.wrap ((j:Int)+1)=((j+1:Nat):Int):=by rw [show (j:Int)+1=((j+1:Nat):Int) by omega];exact w64 (by omega) (by omega)
  have hset:(rs.set i r).length=i+1:=by simp [hrl]
  have gr:=bH_row (N:=n) (n:=n) (i:=i) (rows:=rs.set i r) (by omega)
  have gri:(rs.set i r).getD i []=r:=by rw [qX,qE (by omega)];rfl
  rw [gri] at gr
  have go:getB (bH n n (rs.set i r)) 0=some (outS n n (i+1)):=by rw [bH_outer,hset]
  have gol:=outS_len (N:=n) (n:=n) (i:=i+1) (by omega)
  have gog:=outS_get (N:=n) (n:=n) (i:=i+1) (k:=i) (by omega)
  have h1:=xT (ent M i j) (show 0<m by omega)
  have h2:=yQ (ent M i j) (show 0<m by omega)
  have h3:=yO (ent M i j) (show m≠0 by omega)
  have h4:=yX (ent M i j) (show 0<m by omega)
  have t1:=tmod_pos (x:=ent M i j) (show 0<m by omega)
  have w1:IntKind.i64.wrap (Int.tmod (ent M i j) m)=Int.tmod (ent M i j) m:=w64 (by omega) (by omega)
  have w2:IntKind.i64.wrap (Int.tmod (ent M i j) m+m)=Int.tmod (ent M i j) m+m:=w64 (by omega) (by omega)
  have w3:IntKind.i64.wrap (ent M i j%m)=ent M i j%m:=w64 (by omega) (by omega)
  simp only [r95_8,r95_9,SS,forall_const,reduceIte,qQ,e1,e5,e6,e26,e28,qU,go,gol,gog,lM,g1,i64z_len,w2,t1,gr,hrm,i64z_set]
  refine ⟨⟨by omega,by omega⟩,by omega,⟨by omega,by omega⟩,by omega,by omega,by omega,⟨by omega,by omega⟩,by omega,rfl,?_⟩
  simp only [r95_10,SS,reduceIte,qQ,e28,w5,bH_set]
  refine ⟨k,_,_,by omega,⟨j+1,r.set j (ent M i j%m),by omega,by simp [hrm],fun t ht=>?_,?_,?_,?_,?_,?_,?_,?_,?_,?_,?_,?_⟩,.refl⟩
  ·rw [qX]
   rcases (by omega:t<j∨t=j) with e | e
   ·rw [xV (by omega),←qX];exact hr t e
   ·rw [e,qE (by omega)];rfl
  ·rw [yW]
  all_goals simp only [upd_app,qQ,reduceIte,if_false, *]
 ·have hjm:j=n:=by omega
  subst hjm
  exact hQ _ r hrm hr (by simp only [upd_app,qQ,if_false,e0]) (by simp only [upd_app,qQ,if_false,e1]) (by simp only [upd_app,qQ,if_false,e5]) (by simp only [upd_app,qQ,if_false,e13]) (by simp only [upd_app,qQ,if_false,e14]) (by simp only [upd_app,qQ,if_false,e15])
theorem takeL_snoc {T:List (List Int)} {i:Nat} (hi:i<T.length):T.take i++[T.getD i []]=T.take (i+1):=by
 rw [yV,qX,qK hi];rfl
theorem moRes {n:Nat} {M:List (List Int)} {a:AV} (h:ImV M a) (hS:Shp n M) (hn:1≤n∧n≤8) {m:Int} (hm:2≤m∧m≤2147483647):Ret Tryz.prog G 95 [a,.int .i64 m] [] (.vec (rowsV n (modM n M m)) n (some n)) []:=by
 have hf:=h.fit
 obtain ⟨rows,c,rfl,hl,hr⟩:=h.val
 have hlen:=hS.len
 have hTs:Shp n (modM n M m):=mkM_shp _ _
 rw [hlen]
 refine Ret_of mixed Tryz.func95 comp95 _ 49 res95 nt95 (by simp) (by simp) ?_
 simp only [c95,r95_0,r95_1,SS,reduceCtorEq,reduceIte,qQ,qU]
 refine ⟨by decide,⟨by omega,by omega,by omega,by omega⟩,?_⟩
 simp only [r95_2,SS,reduceCtorEq,reduceIte,qQ]
 have hb0:[some (List.replicate n (AV.vec [] 0 (some 0)))]=bH n n []:=rfl
 rw [hb0]
 refine W_loop (fun k E H=>∃i,i+k=n∧H=bH n n ((modM n M m).take i)∧E 0= .vec rows n c∧E 1= .int .i64 m∧E 5= .sl 0 0 n 1 (some n)∧E 13= .vec rows n c∧E 14= .int .i64 (n:Nat)∧E 15= .int .i64 (i:Nat)) (n:=n)
  ⟨0,by omega,rfl,by simp only [upd_app,argsE_app,qI,qQ,if_false],by simp only [upd_app,argsE_app,qI,qW,qQ,if_false],by simp only [upd_app,argsE_app,qW,qQ,reduceIte,if_false],by simp only [upd_app,argsE_app,qW,qQ,reduceIte,if_false],by simp only [upd_app,argsE_app,qW,qQ,reduceIte,if_false],by simp only [upd_app,argsE_app,qW,qQ,reduceIte,if_false];rfl⟩ ?_
 rintro k E H ⟨i,hik,rfl,e0,e1,e5,e13,e14,e15⟩
 refine wpC_sound mixed ?_
 simp only [l95_0,r95_3,SS,reduceCtorEq,reduceIte,e14,e15]
 refine ⟨fun hlt=>?_,fun hge=>?_⟩
 ·obtain ⟨k,rfl⟩:∃k',k=k'+1:=⟨k-1,by omega⟩
  have hi:i<n:=by omega
  have hTl:=hTs.len
  obtain ⟨ci,hei⟩:=hr i (by omega)
  have hci:=hS.row i hi
  have htl:((modM n M m).take i).length=i:=by rw [yG];omega
  have w5:IntKind.i64.wrap ((i:Int)+1)=((i+1:Nat):Int):=by rw [show (i:Int)+1=((i+1:Nat):Int) by omega];exact w64 (by omega) (by omega)
  have hbl:(bH n n ((modM n M m).take i)).length=i+1:=by rw [bH_len,htl]
  have go:getB (bH n n ((modM n M m).take i)++[some (i64z (List.replicate n 0))]) 0=some (outS n n i):=by
   have:getB (bH n n ((modM n M m).take i)) 0=some (outS n n i):=by rw [bH_outer,htl]
   exact this
  have gol:=outS_len (N:=n) (n:=n) (i:=i) (by omega)
  have hnew:=bH_new (N:=n) (n:=n) (rows:=(modM n M m).take i) (List.replicate n 0) (by omega)
  rw [htl] at hnew
  simp only [r95_4,r95_5,SS,forall_const,reduceIte,qQ,e5,e13,e15,qU,hei,hci,hl,hlen,hbl,i64z_rep,go,gol]
  refine ⟨⟨by omega,by omega⟩,by omega,by decide,⟨by omega,by omega,by omega,by omega⟩,⟨by omega,by omega⟩,by omega,?_⟩
  rw [hnew]
  simp only [r95_6,SS,reduceIte,qQ]
  refine moRes_in (rows:=rows) (c:=c) hn hS hf hm hi (ci:=ci) (rs:=(modM n M m).take i++[List.replicate n 0]) (by simp;omega) ?_ (by simp only [upd_app,qQ,if_false,e0]) (by simp only [upd_app,qQ,if_false,e1]) (by simp only [upd_app,qQ,if_false,e5]) (by simp only [upd_app,qQ,reduceIte,if_false]) (by simp only [upd_app,qQ,if_false,e13]) (by simp only [upd_app,qQ,if_false,e14]) (by simp only [upd_app,qQ,if_false,e15]) (by simp only [upd_app,qQ,reduceIte,if_false]) (by simp only [upd_app,qQ,reduceIte,if_false]) (by simp only [upd_app,qQ,reduceIte,if_false]) ?_
  ·rw [qX,qG (by omega),htl,xH]
   simp
  intro E' r hrm hr' f0 f1 f5 f13 f14 f15
  have er:r=(modM n M m).getD i []:=by
   have hTi:=hTs.row i hi
   refine qL (by omega) fun t h1 h2=>?_
   have h3:=hr' t (by omega)
   have h4:ent (modM n M m) i t=ent M i t%m:=ent_mk hi (by omega)
   rw [←h4] at h3
   unfold ent at h3
   rw [qX,qK h1,qX (l:=(modM n M m).getD i []),qK h2] at h3
   exact h3
  have eset:((modM n M m).take i++[List.replicate n 0]).set i r=(modM n M m).take (i+1):=by
   rw [qO _ _ (by omega),htl,xH,er]
   exact takeL_snoc (by omega)
  rw [eset]
  simp only [r95_11,SS,reduceCtorEq,reduceIte,qQ,f15,w5]
  refine ⟨k,_,_,by omega,⟨i+1,by omega,rfl,?_,?_,?_,?_,?_,?_⟩,.refl⟩
  all_goals simp only [upd_app,qQ,reduceIte,if_false, *]
 ·have hin:i=n:=by omega
  have htl:(modM n M m).take i=modM n M m:=qN (by rw [hTs.len];omega)
  rw [htl]
  simp only [r95_12,SS,reduceIte,qQ,e5]
  refine ⟨.inl trivial,_,rfl,.freeze 3 _ _ _ ?_ (by intro i cs h;omega)⟩
  exact bH_frz hTs.len hTs.row
theorem moResidues {n:Nat} {M:List (List Int)} {a:AV} (h:ImV M a) (hS:Shp n M) (hn:1≤n∧n≤8) {m:Int} (hm:2≤m∧m≤2147483647):Ret Tryz.prog G 48 [a,.int .i64 m] [] (.tup [.vec (rowsV n (modM n M m)) n (some n),.int .i64 0]) []:=by
 have t1:=moValid h hS hn
 have t2:=moCheck hm
 have t3:=moRes h hS hn hm
 have hc:AV.closed (.vec (rowsV n (modM n M m)) n (some n))=true:=rfl
 obtain ⟨rows,c,rfl,hl,hr⟩:=h.val
 refine Ret_of mixed Tryz.func48 comp48 _ 18 res48 nt48 (by simp) (by simp) ?_
 simp only [c48,r48_0,r48_1,SS,reduceCtorEq,reduceIte]
 refine callA_pure t1 ?_
 simp only [SS,forall_const,reduceIte,qQ]
 simp only [r48_3,SS,reduceIte,qQ]
 refine callA_pure t2 ?_
 simp only [SS,reduceIte,qQ]
 simp only [r48_4,SS,reduceIte,qQ]
 refine ⟨fun hne=>absurd rfl hne,fun _=>?_⟩
 simp only [r48_6,SS,reduceCtorEq,reduceIte,qQ]
 refine callA_pure t3 ?_
 simp only [SS,reduceIte,qQ]
 exact ⟨.inl trivial,_,rfl,.drop _ _ rfl (by intro i cs h;omega)⟩
end Go.Proofs.YtenboapacjlmoaaGreatDoor
namespace Go.Count
open Nat renaming le_refl → qV, mul_mod → qM, zero_add → xZ, mod_lt → xK, add_zero → xY, add_mod → xB, zero_mod → yY, pow_succ → yB, mul_comm → yC, add_mul → yN
open List renaming getD_eq_getElem?_getD → qX, getElem?_set_self → qE, getElem?_append_right → qG, set_append_right → qO, countP_cons → qP, getElem?_set_ne → xV, flatMap_cons → xC, getElem?_replicate → xD, foldl_cons → xI, replicate_succ' → xO, range_eq_range' → xP, replicate_zero → xS, mem_replicate → yZ, countP_append → yJ, append_assoc → yU, length_cons → yH, range'_succ → yI, nil_append → yP, countP_nil → yR
open Option.some renaming injEq → yA
set_option linter.unusedSimpArgs false
set_option linter.unusedVariables false
section
variable (g:List (List Nat)) (n M:Nat)
def addR (row:List Nat):Nat→Nat→List Nat→List Nat
 | 0,_,l=>l
 | k+1,j,l=>addR row k (j+1) (l.set j ((l.getD j 0+row.getD j 0)%M))
def bump:Nat→Nat→Nat→List Nat→List Nat→Option (Nat×List Nat×List Nat)
 | 0,_,_,_,_=>none
 | k+1,i,norm,inner,x=>
  if x.getD i 0+1<M then some ((norm+2*inner.getD i 0+(g.getD i []).getD i 0)%M,addR M (g.getD i []) n 0 inner,x.set i (x.getD i 0+1))
  else bump k (i+1) ((norm+2*inner.getD i 0+(g.getD i []).getD i 0)%M) (addR M (g.getD i []) n 0 inner) ((x.set i (x.getD i 0+1)).set i 0)
def runC:Nat→List Nat→Nat→List Nat→List Nat→Option (List Nat)
 | 0,_,_,_,_=>none
 | f+1,cts,norm,inner,x=>match bump g n M n 0 norm inner x with
  | none=>some (cts.set norm (cts.getD norm 0+1))
  | some (norm',inner',x')=>runC f (cts.set norm (cts.getD norm 0+1)) norm' inner' x'
end
def ent (g:List (List Nat)) (i j:Nat):Nat:=(g.getD i []).getD j 0
def sumN (f:Nat→Nat):Nat→Nat
 | 0=>0
 | n+1=>sumN f n+f n
def gx (g:List (List Nat)) (n:Nat) (x:List Nat) (j:Nat):Nat:=sumN (fun i=>ent g i j*x.getD i 0) n
def nrm (g:List (List Nat)) (n:Nat) (x:List Nat):Nat:=sumN (fun j=>gx g n x j*x.getD j 0) n
theorem sumN_congr {f h:Nat→Nat} {n:Nat} (e:∀i,i<n→f i=h i):sumN f n=sumN h n:=by
 induction n with
 | zero=>rfl
 | succ n ih=>simp only [sumN];rw [ih (fun i hi=>e i (by omega)),e n (by omega)]
theorem sumN_add (f h:Nat→Nat) (n:Nat):sumN (fun i=>f i+h i) n=sumN f n+sumN h n:=by
 induction n with
 | zero=>rfl
 | succ n ih=>simp only [sumN,ih];omega
theorem sumN_mul (f:Nat→Nat) (c n:Nat):sumN (fun i=>f i*c) n=sumN f n*c:=by
 induction n with
 | zero=>simp [sumN]
 | succ n ih=>simp only [sumN,ih,yN]
theorem sumN_zero {f:Nat→Nat} {n:Nat} (e:∀i,i<n→f i=0):sumN f n=0:=by
 induction n with
 | zero=>rfl
 | succ n ih=>simp only [sumN];rw [ih (fun i hi=>e i (by omega)),e n (by omega)]
theorem sumN_one {f:Nat→Nat} {n i:Nat} (hi:i<n) (e:∀j,j<n→j≠i→f j=0):sumN f n=f i:=by
 induction n with
 | zero=>omega
 | succ n ih=>
  simp only [sumN]
  by_cases h:i=n
  ·subst h
   rw [sumN_zero (fun j hj=>e j (by omega) (by omega)),xZ]
  ·rw [ih (by omega) (fun j hj hne=>e j (by omega) hne),e n (by omega) (by omega),xY]
theorem sumN_mod {f h:Nat→Nat} {n M:Nat} (e:∀i,i<n→f i%M=h i%M):sumN f n%M=sumN h n%M:=by
 induction n with
 | zero=>rfl
 | succ n ih=>
  simp only [sumN]
  rw [xB,ih (fun i hi=>e i (by omega)),e n (by omega),←xB]
theorem getD_set {x:List Nat} {i j a:Nat} (hi:i<x.length):(x.set i a).getD j 0=if j=i then a else x.getD j 0:=by
 rw [qX]
 by_cases h:j=i
 ·subst h;rw [qE hi,if_pos rfl];rfl
 ·rw [xV (fun e=>h e.symm),if_neg h,qX]
theorem gx_succ {g:List (List Nat)} {n i j:Nat} {x:List Nat} (hx:x.length=n) (hi:i<n):gx g n (x.set i (x.getD i 0+1)) j=gx g n x j+ent g i j:=by
 unfold gx
 have e:sumN (fun k=>ent g k j*(x.set i (x.getD i 0+1)).getD k 0) n=sumN (fun k=>ent g k j*x.getD k 0+(if k=i then ent g i j else 0)) n:=by
  refine sumN_congr fun k _=>?_
  rw [getD_set (by omega)]
  split
  ·rename_i h;subst h;rw [Nat.mul_add,Nat.mul_one]
  ·rw [xY]
 rw [e,sumN_add,sumN_one hi (f:=fun k=>if k=i then ent g i j else 0) (fun k _ hne=>if_neg hne),if_pos rfl]
theorem nrm_succ {g:List (List Nat)} {n i:Nat} {x:List Nat} (hx:x.length=n) (hi:i<n) (hs:∀j k,j<n→k<n→ent g j k=ent g k j):
  nrm g n (x.set i (x.getD i 0+1))=nrm g n x+2*gx g n x i+ent g i i:=by
 unfold nrm
 have e:sumN (fun j=>gx g n (x.set i (x.getD i 0+1)) j*(x.set i (x.getD i 0+1)).getD j 0) n=sumN (fun j=>gx g n x j*x.getD j 0+(ent g j i*x.getD j 0+(if j=i then gx g n x i+ent g i i else 0))) n:=by
  refine sumN_congr fun j hj=>?_
  rw [gx_succ hx hi,getD_set (by omega),hs j i hj hi]
  split
  ·rename_i h;subst h
   simp only [yN,Nat.mul_add,Nat.mul_one]
   omega
  ·simp only [yN,xY]
 rw [e,sumN_add,sumN_add,sumN_one hi (f:=fun j=>if j=i then gx g n x i+ent g i i else 0) (fun k _ hne=>if_neg hne),if_pos rfl]
 have:sumN (fun j=>ent g j i*x.getD j 0) n=gx g n x i:=rfl
 omega
theorem gx_mod {g:List (List Nat)} {n j M:Nat} {x y:List Nat} (h:∀i,i<n→x.getD i 0%M=y.getD i 0%M):gx g n x j%M=gx g n y j%M:=
 sumN_mod fun i hi=>by rw [qM,h i hi,←qM]
theorem nrm_mod {g:List (List Nat)} {n M:Nat} {x y:List Nat} (h:∀i,i<n→x.getD i 0%M=y.getD i 0%M):nrm g n x%M=nrm g n y%M:=
 sumN_mod fun i hi=>by rw [qM,gx_mod h,h i hi,←qM]
theorem addR_len (M:Nat) (row:List Nat):∀(k j:Nat) (l:List Nat),(addR M row k j l).length=l.length:=by
 intro k
 induction k with
 | zero=>intro j l;rfl
 | succ k ih=>intro j l;simp only [addR];rw [ih];simp
theorem addR_get {M:Nat} (row:List Nat):∀(k j:Nat) (l:List Nat),j+k≤l.length→∀i,(addR M row k j l).getD i 0=if j≤i∧i<j+k then (l.getD i 0+row.getD i 0)%M else l.getD i 0:=by
 intro k
 induction k with
 | zero=>intro j l _ i;simp only [addR];rw [if_neg (by omega)]
 | succ k ih=>
  intro j l h i
  simp only [addR]
  rw [ih _ _ (by simp;omega),getD_set (by omega)]
  by_cases h1:i=j
  ·subst h1
   rw [if_neg (by omega),if_pos rfl,if_pos (by omega)]
  ·rw [if_neg h1]
   by_cases h2:j+1≤i∧i<j+1+k
   ·rw [if_pos h2,if_pos (by omega)]
   ·rw [if_neg h2,if_neg (by omega)]
structure At (g:List (List Nat)) (n M:Nat) (norm:Nat) (inner x:List Nat):Prop where
 xlen:x.length=n
 ilen:inner.length=n
 norm:norm=nrm g n x%M
 inner:∀j,j<n→inner.getD j 0=gx g n x j%M
theorem at_step {g:List (List Nat)} {n M norm:Nat} {inner x:List Nat} {i:Nat} (h:At g n M norm inner x) (hi:i<n) (hs:∀j k,j<n→k<n→ent g j k=ent g k j):
  At g n M ((norm+2*inner.getD i 0+(g.getD i []).getD i 0)%M) (addR M (g.getD i []) n 0 inner) (x.set i (x.getD i 0+1)):=by
 refine ⟨by simp [h.xlen],by rw [addR_len,h.ilen],?_,fun j hj=>?_⟩
 ·rw [nrm_succ h.xlen hi hs,h.norm,h.inner i hi]
  show (nrm g n x%M+2*(gx g n x i%M)+ent g i i)%M=_
  simp only [xB,qM,Nat.mod_mod]
 ·rw [addR_get _ _ _ _ (by rw [h.ilen];omega),if_pos (by omega),h.inner j hj,gx_succ h.xlen hi]
  show (gx g n x j%M+ent g i j)%M=_
  rw [xB,Nat.mod_mod,←xB]
theorem at_wrap {g:List (List Nat)} {n M norm:Nat} {inner x:List Nat} {i:Nat} (h:At g n M norm inner x) (hi:i<n) (hM:x.getD i 0%M=0):At g n M norm inner (x.set i 0):=by
 have e:∀k,k<n→(x.set i 0).getD k 0%M=x.getD k 0%M:=by
  intro k hk
  rw [getD_set (by rw [h.xlen];exact hi)]
  split
  ·rename_i e;subst e;rw [hM,yY]
  ·rfl
 exact ⟨by simp [h.xlen],h.ilen,by rw [nrm_mod e];exact h.norm,fun j hj=>by rw [gx_mod e];exact h.inner j hj⟩
def inc (M:Nat):List Nat→Option (List Nat)
 | []=>none
 | a::r=>if a+1<M then some ((a+1)::r) else (inc M r).map (0:: ·)
theorem bump_ok {g:List (List Nat)} {n M:Nat} (hM:0<M) (hs:∀j k,j<n→k<n→ent g j k=ent g k j):∀(r:List Nat) (i norm:Nat) (inner:List Nat),i+r.length=n→(∀a∈r,a<M)→At g n M norm inner (List.replicate i 0++r)→
  match inc M r with
  | none=>bump g n M r.length i norm inner (List.replicate i 0++r)=none
  | some r'=>∃norm' inner',bump g n M r.length i norm inner (List.replicate i 0++r)=some (norm',inner',List.replicate i 0++r')∧At g n M norm' inner' (List.replicate i 0++r'):=by
 intro r
 induction r with
 | nil=>intro i norm inner _ _ _;rfl
 | cons a r ih=>
  intro i norm inner hl ha h
  have hi:i<n:=by simp at hl;omega
  have hst:=at_step h hi hs
  have hg:(List.replicate i 0++a::r).getD i 0=a:=by
   rw [qX,qG (by simp)];simp
  have hset:∀b:Nat,(List.replicate i 0++a::r).set i b=List.replicate i 0++b::r:=by
   intro b;rw [qO _ _ (by simp)];simp
  rw [hg,hset] at hst
  simp only [inc,yH,bump,hg,hset]
  by_cases hlt:a+1<M
  ·simp only [if_pos hlt]
   exact ⟨_,_,rfl,hst⟩
  ·simp only [if_neg hlt]
   have haM:a+1=M:=by have:=ha a (by simp);omega
   have hset2:(List.replicate i 0++(a+1)::r).set i 0=List.replicate (i+1) 0++r:=by
    rw [qO _ _ (by simp),xO,yU];simp
   have hg2:(List.replicate i 0++(a+1)::r).getD i 0=a+1:=by
    rw [qX,qG (by simp)];simp
   have hw:=at_wrap hst hi (by rw [hg2,haM,Nat.mod_self])
   rw [hset2] at hw ⊢
   have:=ih (i+1) _ _ (by simp at hl;omega) (fun b hb=>ha b (by simp [hb])) hw
   cases hinc:inc M r with
   | none=>rw [hinc] at this;exact this
   | some r'=>
    rw [hinc] at this
    obtain ⟨norm',inner',h1,h2⟩:=this
    have e:List.replicate (i+1) 0++r'=List.replicate i 0++0::r':=by rw [xO,yU];rfl
    rw [e] at h1 h2
    exact ⟨norm',inner',h1,h2⟩
def allV (M:Nat):Nat→List (List Nat)
 | 0=>[[]]
 | n+1=>(allV M n).flatMap fun r=>(List.range M).map fun a=>a::r
inductive Chain (M:Nat):List Nat→List (List Nat)→Prop
 | last {x:List Nat}:inc M x=none→Chain M x [x]
 | next {x y:List Nat} {l:List (List Nat)}:inc M x=some y→Chain M y l→Chain M x (x::l)
theorem chain_cons {M:Nat} {r:List Nat} {l:List (List Nat)} (h:Chain M r l):∀(k a:Nat),a+k+1=M→Chain M (a::r) (((List.range' a (k+1)).map fun b=>b::r)++l.tail.flatMap fun s=>(List.range M).map fun b=>b::s):=by
 induction h with
 | last hn=>
  rename_i x
  intro k
  induction k with
  | zero=>
   intro a ha
   refine .last ?_
   simp only [inc]
   rw [if_neg (by omega),hn];rfl
  | succ k ih=>
   intro a ha
   rw [yI]
   refine .next (y:=(a+1)::x) ?_ (ih (a+1) (by omega))
   simp only [inc]
   rw [if_pos (by omega)]
 | next hn hc ih0=>
  rename_i x y l
  intro k
  induction k with
  | zero=>
   intro a ha
   have:=ih0 (M-1) 0 (by omega)
   refine .next (y:=0::y) ?_ ?_
   ·simp only [inc]
    rw [if_neg (by omega),hn];rfl
   ·have e:(List.range' 0 (M-1+1)).map (fun b=>b::y)=(List.range M).map fun b=>b::y:=by
     rw [xP,show M-1+1=M by omega]
    rw [e] at this
    cases hc with
    | last h1=>simpa using this
    | next h1 h2=>simpa using this
  | succ k ih=>
   intro a ha
   rw [yI]
   refine .next (y:=(a+1)::x) ?_ (ih (a+1) (by omega))
   simp only [inc]
   rw [if_pos (by omega)]
theorem chain_head {M:Nat} {x:List Nat} {l:List (List Nat)} (h:Chain M x l):l=x::l.tail:=by
 cases h<;>rfl
theorem chain_all {M:Nat} (hM:0<M):∀n,Chain M (List.replicate n 0) (allV M n):=by
 intro n
 induction n with
 | zero=>exact .last rfl
 | succ n ih=>
  have:=chain_cons ih (M-1) 0 (by omega)
  have h2:=chain_head ih
  have e:allV M (n+1)=((List.range' 0 (M-1+1)).map fun b=>b::List.replicate n 0)++(allV M n).tail.flatMap fun s=>(List.range M).map fun b=>b::s:=by
   show (allV M n).flatMap _=_
   rw [h2,xC,show M-1+1=M by omega,←xP]
   rw [←h2]
  rw [e]
  exact this
def tally (c:List Nat) (s:Nat):List Nat:=c.set s (c.getD s 0+1)
theorem run_chain {g:List (List Nat)} {n M:Nat} (hM:0<M) (hs:∀j k,j<n→k<n→ent g j k=ent g k j) {x:List Nat} {l:List (List Nat)} (h:Chain M x l):
  ∀{f norm:Nat} {inner cts:List Nat},l.length≤f→(∀a∈x,a<M)→At g n M norm inner x→runC g n M f cts norm inner x=some (l.foldl (fun c y=>tally c (nrm g n y%M)) cts):=by
 induction h with
 | last hn=>
  rename_i x
  intro f norm inner cts hf hx ha
  obtain ⟨f,rfl⟩:∃k,f=k+1:=⟨f-1,by simp at hf;omega⟩
  have:=bump_ok hM hs x 0 norm inner (by rw [xZ];exact ha.xlen) hx (by simpa using ha)
  rw [hn] at this
  simp only [xS,yP,ha.xlen] at this
  simp only [runC,this,xI,List.foldl_nil,tally]
  rw [←ha.norm]
 | next hn hc ih=>
  rename_i x y l
  intro f norm inner cts hf hx ha
  obtain ⟨f,rfl⟩:∃k,f=k+1:=⟨f-1,by simp at hf;omega⟩
  have:=bump_ok hM hs x 0 norm inner (by rw [xZ];exact ha.xlen) hx (by simpa using ha)
  rw [hn] at this
  simp only [xS,yP,ha.xlen] at this
  obtain ⟨norm',inner',h1,h2⟩:=this
  have hy:∀a∈y,a<M:=by
   have key:∀(r r':List Nat),(∀a∈r,a<M)→inc M r=some r'→∀a∈r',a<M:=by
    intro r
    induction r with
    | nil=>intro r' _ h;simp [inc] at h
    | cons b r ihr=>
     intro r' hr h
     simp only [inc] at h
     split at h
     ·simp only [yA] at h
      subst h
      intro a ha
      rcases List.mem_cons.1 ha with e | e
      ·omega
      ·exact hr a (by simp [e])
     ·cases hi:inc M r with
      | none=>rw [hi] at h;simp at h
      | some s=>
       rw [hi] at h
       simp only [Option.map_some,yA] at h
       subst h
       intro a ha
       rcases List.mem_cons.1 ha with e | e
       ·omega
       ·exact ihr s (fun c hc=>hr c (by simp [hc])) hi a e
   exact key _ _ hx hn
  have hr:=ih (f:=f) (cts:=tally cts (nrm g n x%M)) (by simp at hf;omega) hy h2
  simp only [runC,h1,xI,←ha.norm] at hr ⊢
  rw [←hr]
  rfl
theorem tally_len (c:List Nat) (s:Nat):(tally c s).length=c.length:=by simp [tally]
theorem tally_get {c:List Nat} {s t:Nat} (hs:s<c.length):(tally c s).getD t 0=c.getD t 0+if t=s then 1 else 0:=by
 unfold tally
 rw [getD_set hs]
 split
 ·rename_i h;subst h;rfl
 ·rfl
theorem foldl_tally (f:List Nat→Nat) (M:Nat):∀(l:List (List Nat)) (c:List Nat),c.length=M→(∀y∈l,f y<M)→(l.foldl (fun c y=>tally c (f y)) c).length=M∧∀t,(l.foldl (fun c y=>tally c (f y)) c).getD t 0=c.getD t 0+l.countP fun y=>decide (f y=t):=by
 intro l
 induction l with
 | nil=>intro c hc _;exact ⟨hc,fun t=>by simp⟩
 | cons y l ih=>
  intro c hc hf
  obtain ⟨h1,h2⟩:=ih (tally c (f y)) ((tally_len _ _).trans hc) (fun z hz=>hf z (by simp [hz]))
  refine ⟨h1,fun t=>?_⟩
  rw [xI,h2,tally_get (by rw [hc];exact hf y (by simp)),qP]
  by_cases h:t=f y
  ·rw [if_pos h,decide_eq_true h.symm];simp;omega
  ·rw [if_neg h,decide_eq_false (fun e=>h e.symm)];simp
theorem allV_len (M:Nat):∀n,(allV M n).length=M^n:=by
 intro n
 induction n with
 | zero=>rfl
 | succ n ih=>
  have:∀l:List (List Nat),(l.flatMap fun r=>(List.range M).map fun a=>a::r).length=l.length*M:=by
   intro l
   induction l with
   | nil=>simp
   | cons x l ihl=>rw [xC,List.length_append,ihl,yH,Nat.succ_mul];simp;omega
  show (List.flatMap _ _).length=_
  rw [this,ih,yB]
theorem at_zero {g:List (List Nat)} {n M:Nat}:At g n M 0 (List.replicate n 0) (List.replicate n 0):=by
 have hz:∀k,(List.replicate n 0).getD k 0=0:=by
  intro k
  rw [qX,xD]
  split<;>rfl
 have e:∀j,gx g n (List.replicate n 0) j=0:=fun j=>sumN_zero fun i _=>by rw [hz,Nat.mul_zero]
 refine ⟨by simp,by simp,?_,fun j _=>by rw [hz,e,yY]⟩
 unfold nrm
 rw [sumN_zero fun i _=>by rw [hz,Nat.mul_zero],yY]
theorem runC_ok {g:List (List Nat)} {n M:Nat} (hM:0<M) (hs:∀j k,j<n→k<n→ent g j k=ent g k j):∃fin,runC g n M (M^n) (List.replicate M 0) 0 (List.replicate n 0) (List.replicate n 0)=some fin∧fin.length=M∧
  ∀t,fin.getD t 0=(allV M n).countP fun y=>decide (nrm g n y%M=t):=by
 have h:=run_chain hM hs (chain_all hM n) (f:=M^n) (cts:=List.replicate M 0) (by rw [allV_len];exact qV _) (fun a ha=>by rw [yZ] at ha;omega) at_zero
 obtain ⟨h1,h2⟩:=foldl_tally (fun y=>nrm g n y%M) M (allV M n) (List.replicate M 0) (by simp) (fun y _=>xK _ hM)
 refine ⟨_,h,h1,fun t=>?_⟩
 rw [h2]
 have:(List.replicate M 0).getD t 0=0:=by
  rw [qX,xD]
  split<;>rfl
 omega
theorem range_mul (P:Nat→Nat) (M c:Nat):sumN (fun a=>P (a%M)) (M*c)=c*sumN P M:=by
 induction c with
 | zero=>simp [sumN]
 | succ c ih=>
  have key:∀k,k≤M→sumN (fun a=>P (a%M)) (M*c+k)=c*sumN P M+sumN P k:=by
   intro k
   induction k with
   | zero=>intro _;rw [xY,ih];rfl
   | succ k ihk=>
    intro hk
    rw [←Nat.add_assoc]
    simp only [sumN]
    rw [ihk (by omega),Nat.mul_add_mod,Nat.mod_eq_of_lt (by omega)]
    omega
  rw [Nat.mul_succ,key M (qV _),Nat.succ_mul]
theorem countP_flat (P:List Nat→Bool) (M:Nat):∀l:List (List Nat),(l.flatMap fun r=>(List.range M).map fun a=>a::r).countP P=sumN (fun a=>l.countP fun r=>P (a::r)) M:=by
 intro l
 induction l with
 | nil=>simp only [List.flatMap_nil,yR];exact (sumN_zero fun _ _=>rfl).symm
 | cons x l ih=>
  rw [xC,yJ,ih]
  have e:((List.range M).map fun a=>a::x).countP P=sumN (fun a=>if P (a::x) then 1 else 0) M:=by
   clear ih
   induction M with
   | zero=>rfl
   | succ M ihM=>
    rw [List.range_succ,List.map_append,yJ,ihM]
    simp only [sumN,List.map_cons,List.map_nil,qP,yR,xZ]
  rw [e,←sumN_add]
  refine sumN_congr fun a _=>?_
  rw [qP]
  omega
theorem lifts (M c:Nat):∀(n:Nat) (P:List Nat→Bool),(allV (M*c) n).countP (fun y=>P (y.map (· % M)))=c^n*(allV M n).countP P:=by
 intro n
 induction n with
 | zero=>intro P;simp [allV]
 | succ n ih=>
  intro P
  show (List.flatMap _ _).countP _=c^(n+1)*(List.flatMap _ _).countP _
  rw [countP_flat,countP_flat]
  have e:sumN (fun a=>(allV (M*c) n).countP fun r=>P ((a::r).map (· % M))) (M*c)=sumN (fun a=>c^n*(allV M n).countP fun r=>P (a%M::r)) (M*c):=by
   refine sumN_congr fun a _=>?_
   exact ih fun r=>P (a%M::r)
  rw [e,range_mul (fun a=>c^n*(allV M n).countP fun r=>P (a::r))]
  have e2:sumN (fun a=>c^n*(allV M n).countP fun r=>P (a::r)) M=sumN (fun a=>(allV M n).countP fun r=>P (a::r)) M*c^n:=by
   rw [←sumN_mul]
   exact sumN_congr fun a _=>yC _ _
  rw [e2,yB]
  rw [yC (c^n) c,Nat.mul_assoc,yC (sumN _ _)]
end Go.Count
namespace Go.Proofs.YtenboapacjlmoaaGreatDoor
open Nat renaming reduceEqDiff → qQ, le_refl → qV, mod_lt → xK
open List renaming getD_eq_getElem?_getD → qX, getElem?_eq_getElem → qK, getElem?_set_self → qE, take_of_length_le → qN, getElem?_cons_zero → qS, getElem?_cons_succ → qT, mem_or_eq_of_mem_set → xA, getElem_mem → xE, mem_replicate → yZ, set_set → yW
open Int renaming toNat_natCast → qU, natCast_add → xL
set_option linter.unusedSimpArgs false
set_option linter.unusedVariables false
open Go Go.AL Go.Proofs Go.Count
set_option maxRecDepth 100000
def ints (l:List Nat):List AV:=l.map fun (n:Nat)=>AV.int .i64 (n:Int)
theorem ints_len (l:List Nat):(ints l).length=l.length:=by simp [ints]
theorem ints_get (l:List Nat) (i:Nat) (h:i<l.length):(ints l)[i]?=some (.int .i64 ((l.getD i 0:Nat):Int)):=by
 simp [ints,h]
theorem ints_getD (l:List Nat) (i:Nat) (h:i<l.length) (d:AV):(ints l).getD i d= .int .i64 ((l.getD i 0:Nat):Int):=by
 rw [qX,ints_get l i h];rfl
theorem ints_set (l:List Nat) (i a:Nat):(ints l).set i (.int .i64 (a:Int))=ints (l.set i a):=by
 simp [ints,List.map_set]
theorem wrapN {a:Nat} (h:a<2^63):IntKind.i64.wrap ((a:Nat):Int)=(a:Int):=by
 simp [IntKind.wrap,IntKind.bits,IntKind.signed]
 omega
theorem loop1 {nt n M:Nat} (hM:0<M) (hM2:M<2^40) (hn:n<2^20) {row:List Nat} {cr:Option Nat} (hrl:row.length=n) (hrow:∀a∈row,a<M) (cts xs:List AV) (fin:List Nat) (E0:Env):
  ∀{E:Env} {H:Heap} {Q:Post} (inner:List Nat),inner.length=n→(∀a∈inner,a<M)→addR M row n 0 inner=fin→
   (∀t,t∉[58,59,60,61,62,13,14,63,64,65,66,67,68,69,70,71,72,73,74]→E t=E0 t)→E 58= .int .i64 0→E0 57= .int .i64 n→E0 56= .vec (ints row) n cr→E0 9= .sl 2 0 n 1 (some n)→E0 1= .int .i64 M→
   H=[some cts,some xs,some (ints inner)]→
   (∀E',(∀t,t∉[58,59,60,61,62,13,14,63,64,65,66,67,68,69,70,71,72,73,74]→E' t=E0 t)→Q (.exit 2) E' [some cts,some xs,some (ints fin)])→
   W Tryz.prog G 0 nt (.loop l18_1) E H Q:=by
 intro E H Q inner hil hin hfin hE h58 h57 h56 h9 h1 hH hQ
 refine W_loop (fun k E H=>∃j inner,j+k=n∧inner.length=n∧(∀a∈inner,a<M)∧addR M row k j inner=fin∧
  (∀t,t∉[58,59,60,61,62,13,14,63,64,65,66,67,68,69,70,71,72,73,74]→E t=E0 t)∧E 58= .int .i64 (j:Int)∧H=[some cts,some xs,some (ints inner)]) ⟨0,inner,by omega,hil,hin,hfin,hE,h58,hH⟩ ?_
 rintro k E H ⟨j,inner,hjk,hil,hin,hfin,hE,h58,rfl⟩
 refine wpC_sound mixed ?_
 have e57:E 57= .int .i64 n:=(hE 57 (by decide)).trans h57
 have e56:E 56= .vec (ints row) n cr:=(hE 56 (by decide)).trans h56
 have e9:E 9= .sl 2 0 n 1 (some n):=(hE 9 (by decide)).trans h9
 have e1:E 1= .int .i64 M:=(hE 1 (by decide)).trans h1
 simp only [l18_1,r18_12,SS,reduceIte,h58,e57]
 have hup:∀(E':Env) (d:Nat) (v:AV),d∈[58,59,60,61,62,13,14,63,64,65,66,67,68,69,70,71,72,73,74]→(∀t,t∉[58,59,60,61,62,13,14,63,64,65,66,67,68,69,70,71,72,73,74]→E' t=E0 t)→
   ∀t,t∉[58,59,60,61,62,13,14,63,64,65,66,67,68,69,70,71,72,73,74]→upd E' d v t=E0 t:=by
  intro E' d v hd h t ht
  unfold upd
  rw [if_neg (fun e:t=d=>ht (by rw [e];exact hd))]
  exact h t ht
 refine ⟨fun hlt=>?_,fun hnl=>?_⟩
 ·have hj:j<n:=by omega
  have hij:inner.getD j 0<M:=by
   rw [qX,qK (by omega)]
   exact hin _ (xE _)
  have hrj:row.getD j 0<M:=by
   rw [qX,qK (by omega)]
   exact hrow _ (xE _)
  have gi:=ints_getD inner j (by omega) AV.junk
  have gr:=ints_getD row j (by omega) AV.junk
  have w1:IntKind.i64.wrap (((inner.getD j 0:Nat):Int)+((row.getD j 0:Nat):Int))=((inner.getD j 0+row.getD j 0:Nat):Int):=by
   rw [←xL];exact wrapN (by omega)
  have w2:IntKind.i64.wrap ((j:Int)+1)=((j+1:Nat):Int):=by
   have:((j:Int)+1)=((j+1:Nat):Int):=by omega
   rw [this];exact wrapN (by omega)
  have w3:Int.tmod ((inner.getD j 0+row.getD j 0:Nat):Int) (M:Int)=(((inner.getD j 0+row.getD j 0)%M:Nat):Int):=rfl
  simp only [r18_13,r18_14,r18_15,SS,forall_const,reduceIte,qQ,h58,e56,e9,e1,qU,gi,gr,ints_len,w1,w2,w3,ints_set]
  refine ⟨⟨by omega,hlt⟩,by omega,⟨by omega,hlt⟩,by omega,by omega,⟨by omega,hlt⟩,by omega,?_⟩
  obtain ⟨k',rfl⟩:∃k',k=k'+1:=⟨k-1,by omega⟩
  refine ⟨k',_,_,by omega,⟨j+1,inner.set j ((inner.getD j 0+row.getD j 0)%M),by omega,by simp [hil],?_,hfin,?_,rfl,rfl⟩,.refl⟩
  ·intro a ha
   rcases xA ha with h | h
   ·exact hin a h
   ·subst h;exact xK _ hM
  ·repeat (refine hup _ _ _ (by decide) ?_)
   exact hE
 ·have hj:j=n:=by omega
  have hk:k=0:=by omega
  subst hk
  have:inner=fin:=hfin
  subst this
  exact hQ _ (hup _ _ _ (by decide) hE)
structure PE (n M:Nat) (rows:List AV) (cg:Option Nat) (v5 v7:AV) (E:Env):Prop where
 e1:E 1= .int .i64 M
 e5:E 5=v5
 e7:E 7=v7
 e8:E 8= .sl 1 0 n 1 (some n)
 e9:E 9= .sl 2 0 n 1 (some n)
 e35:E 35= .vec rows n cg
 e36:E 36= .int .i64 n
theorem getD_lt {l:List Nat} {M i:Nat} (h:∀a∈l,a<M) (hi:i<l.length):l.getD i 0<M:=by
 rw [qX,qK hi]
 exact h _ (xE _)
theorem set_lt {l:List Nat} {M i b:Nat} (h:∀a∈l,a<M) (hb:b<M):∀a∈l.set i b,a<M:=by
 intro a ha
 rcases xA ha with h' | h'
 ·exact h a h'
 ·subst h';exact hb
theorem addR_ok {M:Nat} (hM:0<M) (row:List Nat):∀(k j:Nat) (l:List Nat),(∀a∈l,a<M)→(addR M row k j l).length=l.length∧∀a∈addR M row k j l,a<M:=by
 intro k
 induction k with
 | zero=>intro j l h;exact ⟨rfl,h⟩
 | succ k ih=>
  intro j l h
  obtain ⟨h1,h2⟩:=ih (j+1) (l.set j ((l.getD j 0+row.getD j 0)%M)) (set_lt h (xK _ hM))
  exact ⟨h1.trans (by simp),h2⟩
theorem loop0 {nt n M:Nat} (hM:0<M) (hM2:M<2^40) (hn:n<2^20) {g:List (List Nat)} {rows:List AV} {cg:Option Nat} (hrl:rows.length=n) (hrows:∀i,i<n→∃c,rows[i]?=some (.vec (ints (g.getD i [])) n c))
  (hgl:∀i,i<n→(g.getD i []).length=n) (hgM:∀i,i<n→∀a∈g.getD i [],a<M) (v5 v7:AV) (cts:List AV) (res:Option (Nat×List Nat×List Nat))
  {E:Env} {H:Heap} {Q:Post} (norm:Nat) (inner x:List Nat) (hno:norm<M) (hil:inner.length=n) (hin:∀a∈inner,a<M) (hxl:x.length=n) (hx:∀a∈x,a<M) (hres:bump g n M n 0 norm inner x=res)
  (hE:PE n M rows cg v5 v7 E) (h37:E 37= .int .i64 0) (h10:E 10= .int .i64 norm) (hH:H=[some cts,some (ints x),some (ints inner)])
  (hQ1:res=none→∀E' a b,PE n M rows cg v5 v7 E'→Q (.exit 0) E' [some cts,some a,some b])
  (hQ2:∀norm' inner' x',res=some (norm',inner',x')→norm'<M→inner'.length=n→(∀a∈inner',a<M)→x'.length=n→(∀a∈x',a<M)→∀E',PE n M rows cg v5 v7 E'→E' 10= .int .i64 (norm':Int)→
   Q (.goto 0) E' [some cts,some (ints x'),some (ints inner')]):
  W Tryz.prog G 0 nt (.loop l18_0) E H Q:=by
 refine W_loop (fun k E H=>∃i norm inner x,i+k=n∧norm<M∧inner.length=n∧(∀a∈inner,a<M)∧x.length=n∧(∀a∈x,a<M)∧bump g n M k i norm inner x=res∧PE n M rows cg v5 v7 E∧
  E 37= .int .i64 (i:Int)∧E 10= .int .i64 (norm:Int)∧H=[some cts,some (ints x),some (ints inner)]) ⟨0,norm,inner,x,by omega,hno,hil,hin,hxl,hx,hres,hE,h37,h10,hH⟩ ?_
 rintro k E H ⟨i,norm,inner,x,hik,hno,hil,hin,hxl,hx,hres,hE,h37,h10,rfl⟩
 refine wpC_sound mixed ?_
 obtain ⟨e1,e5,e7,e8,e9,e35,e36⟩:=hE
 simp only [l18_0,r18_8,SS,reduceIte,h37,e36]
 refine ⟨fun hlt=>?_,fun hnl=>?_⟩
 ·have hi:i<n:=by omega
  obtain ⟨k',rfl⟩:∃k',k=k'+1:=⟨k-1,by omega⟩
  obtain ⟨cr,hr⟩:=hrows i hi
  have hrD:rows.getD i AV.junk= .vec (ints (g.getD i [])) n cr:=by rw [qX,hr];rfl
  have gi:=ints_getD inner i (by omega) AV.junk
  have gr:=ints_getD (g.getD i []) i (by rw [hgl i hi];exact hi) AV.junk
  have bi:=getD_lt hin (i:=i) (by omega)
  have br:=getD_lt (hgM i hi) (i:=i) (by rw [hgl i hi];exact hi)
  have w1:IntKind.i64.wrap (2*((inner.getD i 0:Nat):Int))=((2*inner.getD i 0:Nat):Int):=by
   have:(2*((inner.getD i 0:Nat):Int))=((2*inner.getD i 0:Nat):Int):=by omega
   rw [this];exact wrapN (by omega)
  have w2:IntKind.i64.wrap ((norm:Int)+((2*inner.getD i 0:Nat):Int))=((norm+2*inner.getD i 0:Nat):Int):=by
   rw [←xL];exact wrapN (by omega)
  have w3:IntKind.i64.wrap (((norm+2*inner.getD i 0:Nat):Int)+(((g.getD i []).getD i 0:Nat):Int))=((norm+2*inner.getD i 0+(g.getD i []).getD i 0:Nat):Int):=by
   rw [←xL];exact wrapN (by omega)
  have w4:Int.tmod ((norm+2*inner.getD i 0+(g.getD i []).getD i 0:Nat):Int) (M:Int)=(((norm+2*inner.getD i 0+(g.getD i []).getD i 0)%M:Nat):Int):=rfl
  simp only [r18_9,r18_10,r18_11,SS,forall_const,reduceIte,qQ,h37,h10,e1,e9,e35,qU,hrD,gi,gr,ints_len,hrl,hil,hgl i hi,w1,w2,w3,w4]
  refine ⟨⟨by omega,hlt⟩,by omega,⟨by omega,hlt⟩,by omega,⟨by omega,hlt⟩,by omega,by omega,rfl,?_⟩
  refine loop1 hM hM2 hn (hgl i hi) (hgM i hi) cts (ints x) (addR M (g.getD i []) n 0 inner) _ inner hil hin rfl (fun _ _=>rfl) rfl rfl rfl e9 e1 rfl ?_
  intro E' hE'
  have f1:E' 1= .int .i64 M:=(hE' 1 (by decide)).trans e1
  have f5:E' 5=v5:=(hE' 5 (by decide)).trans e5
  have f7:E' 7=v7:=(hE' 7 (by decide)).trans e7
  have f8:E' 8= .sl 1 0 n 1 (some n):=(hE' 8 (by decide)).trans e8
  have f9:E' 9= .sl 2 0 n 1 (some n):=(hE' 9 (by decide)).trans e9
  have f35:E' 35= .vec rows n cg:=(hE' 35 (by decide)).trans e35
  have f36:E' 36= .int .i64 n:=(hE' 36 (by decide)).trans e36
  have f37:E' 37= .int .i64 (i:Int):=(hE' 37 (by decide)).trans h37
  have f10:E' 10= .int .i64 (((norm+2*inner.getD i 0+(g.getD i []).getD i 0)%M:Nat):Int):=(hE' 10 (by decide)).trans rfl
  have f11:E' 11= .int .i64 (i:Int):=(hE' 11 (by decide)).trans rfl
  clear hE'
  have gx:=ints_getD x i (by omega) AV.junk
  have bx:=getD_lt hx (i:=i) (by omega)
  have gx2:=ints_getD (x.set i (x.getD i 0+1)) i (by simp;omega) AV.junk
  have hx2:(x.set i (x.getD i 0+1)).getD i 0=x.getD i 0+1:=by
   rw [qX,qE (by omega)];rfl
  rw [hx2] at gx2
  have w5:IntKind.i64.wrap (((x.getD i 0:Nat):Int)+1)=((x.getD i 0+1:Nat):Int):=by
   have:(((x.getD i 0:Nat):Int)+1)=((x.getD i 0+1:Nat):Int):=by omega
   rw [this];exact wrapN (by omega)
  have w6:IntKind.i64.wrap ((i:Int)+1)=((i+1:Nat):Int):=by
   have:((i:Int)+1)=((i+1:Nat):Int):=by omega
   rw [this];exact wrapN (by omega)
  have z0:AV.int .i64 0=AV.int .i64 ((0:Nat):Int):=rfl
  obtain ⟨ral,ram⟩:=addR_ok hM (g.getD i []) n 0 inner hin
  simp only [bump] at hres
  simp only [r18_16,r18_17,r18_18,r18_19,SS,forall_const,reduceIte,qQ,f1,f8,f11,f37,qU,gx,ints_len,hxl,w5,w6,ints_set,gx2,List.length_set,z0]
  refine ⟨⟨by omega,hlt⟩,by omega,⟨by omega,hlt⟩,by omega,⟨by omega,hlt⟩,by omega,fun hl=>?_,fun hl=>?_⟩
  ·have hl':x.getD i 0+1<M:=by omega
   rw [if_pos hl'] at hres
   refine hQ2 _ _ _ hres.symm (xK _ hM) (ral.trans hil) ram (by simp [hxl]) (set_lt hx (by omega)) _ ⟨?_,?_,?_,?_,?_,?_,?_⟩ ?_<;>simp only [upd_app,qQ,if_false, *]
  ·have hl':¬x.getD i 0+1<M:=by omega
   rw [if_neg hl'] at hres
   refine ⟨⟨by omega,hlt⟩,by omega,?_⟩
   refine ⟨k',_,_,by omega,⟨i+1,_,_,_,by omega,xK _ hM,ral.trans hil,ram,by simp [hxl],(by rw [yW];exact set_lt hx hM),hres,⟨?_,?_,?_,?_,?_,?_,?_⟩,?_,?_,rfl⟩,.refl⟩<;>simp only [upd_app,qQ,reduceIte,if_false, *]
 ·have hi:i=n:=by omega
  have hk:k=0:=by omega
  subst hk
  refine hQ1 hres.symm _ _ _ ⟨?_,?_,?_,?_,?_,?_,?_⟩<;>simp only [upd_app,qQ,if_false, *]
def J79 (g:List (List Nat)) (n M F:Nat) (rows:List AV) (cg:Option Nat) (fin:List Nat) (f:Nat) (E:Env) (H:Heap):Prop:=
 ∃cts norm inner x,cts.length=M∧(∀a∈cts,a<F-f+1)∧f≤F∧norm<M∧inner.length=n∧(∀a∈inner,a<M)∧x.length=n∧(∀a∈x,a<M)∧runC g n M f cts norm inner x=some fin∧
  E 1= .int .i64 (M:Int)∧E 5= .vec rows n cg∧E 7= .sl 0 0 M 1 (some M)∧E 8= .sl 1 0 n 1 (some n)∧E 9= .sl 2 0 n 1 (some n)∧E 10= .int .i64 (norm:Int)∧H=[some (ints cts),some (ints x),some (ints inner)]
theorem body79 {g:List (List Nat)} {n M F:Nat} {rows:List AV} {cg:Option Nat} {fin:List Nat} (hM:0<M) (hM2:M<2^40) (hn:n<2^20) (hF:F<2^60)
  (hrl:rows.length=n) (hrows:∀i,i<n→∃c,rows[i]?=some (.vec (ints (g.getD i [])) n c)) (hgl:∀i,i<n→(g.getD i []).length=n) (hgM:∀i,i<n→∀a∈g.getD i [],a<M)
  {f:Nat} {E:Env} {H:Heap} (hJ:J79 g n M F rows cg fin f E H) {Jp:Env→Heap→Prop} {Q:Post} (h1:∀f' E' H',f'<f→J79 g n M F rows cg fin f' E' H'→Jp E' H')
  (h2:∀E' a b,E' 4= .sl 0 0 M 1 (some M)→Q .ret E' [some (ints fin),some a,some b]):
  wpC Tryz.prog G 0 92 (.seq (.reg r18_6 none) (.seq (.seq (.reg r18_7 none) (.block 0 (.loop l18_0))) (.seq (.reg r18_20 none) .ret))) E H (jumpP 0 Jp Q):=by
 obtain ⟨cts,norm,inner,x,hcl,hcb,hfF,hno,hil,hin,hxl,hx,hrun,e1,e5,e7,e8,e9,e10,rfl⟩:=hJ
 cases f with
 | zero=>simp [runC] at hrun
 | succ f=>
  have gc:=ints_getD cts norm (by omega) AV.junk
  have bc:=getD_lt hcb (i:=norm) (by omega)
  have w1:IntKind.i64.wrap (((cts.getD norm 0:Nat):Int)+1)=((cts.getD norm 0+1:Nat):Int):=by
   have:(((cts.getD norm 0:Nat):Int)+1)=((cts.getD norm 0+1:Nat):Int):=by omega
   rw [this];exact wrapN (by omega)
  simp only [r18_6,r18_7,r18_20,SS,forall_const,reduceIte,qQ,e7,e10,e5,qU,gc,w1,ints_len,hcl,ints_set]
  refine ⟨⟨by omega,by omega⟩,by omega,⟨by omega,by omega⟩,by omega,?_⟩
  refine loop0 hM hM2 hn hrl hrows hgl hgM (.vec rows n cg) (.sl 0 0 M 1 (some M)) (ints (cts.set norm (cts.getD norm 0+1))) (bump g n M n 0 norm inner x) norm inner x hno hil hin hxl hx rfl
   ⟨e1,e5,e7,e8,e9,rfl,rfl⟩ rfl e10 rfl ?_ ?_
  ·intro hb E' a b hE'
   simp only [runC,hb] at hrun
   have hfin:cts.set norm (cts.getD norm 0+1)=fin:=Option.some.inj hrun
   rw [hfin]
   exact h2 _ _ _ hE'.e7
  ·intro norm' inner' x' hb q1 q2 q3 q4 q5 E' hE' q6
   simp only [runC,hb] at hrun
   refine ⟨rfl,h1 f E' _ (by omega) ⟨_,norm',inner',x',?_,?_,by omega,q1,q2,q3,q4,q5,hrun,hE'.e1,hE'.e5,hE'.e7,hE'.e8,hE'.e9,q6,rfl⟩⟩
   ·simp [hcl]
   ·refine set_lt (fun a ha=>?_) (by omega)
    have:=hcb a ha
    omega
theorem count_ret {g:List (List Nat)} {n M F:Nat} {hs rows:List AV} {ch cg:Option Nat} {kd:IntKind} {en:Int} {fin:List Nat} (hM:0<M) (hM2:M<2^40) (hn:n<2^20) (hF:F<2^60)
  (hres:Ret Tryz.prog G 48 [.vec hs n ch,.int .i64 (M:Int)] [] (.tup [.vec rows n cg,.int kd en]) [])
  (hrl:rows.length=n) (hrows:∀i,i<n→∃c,rows[i]?=some (.vec (ints (g.getD i [])) n c)) (hgl:∀i,i<n→(g.getD i []).length=n) (hgM:∀i,i<n→∀a∈g.getD i [],a<M)
  (hrun:runC g n M F (List.replicate M 0) 0 (List.replicate n 0) (List.replicate n 0)=some fin) (hfl:fin.length=M):
  Ret Tryz.prog G 18 [.vec hs n ch,.int .i64 (M:Int)] [] (.vec (ints fin) M (some M)) []:=by
 refine Ret_of mixed Tryz.func18 comp18 _ 92 res18 nt18 (by simp) (by simp) ?_
 simp only [c18,r18_0,SS]
 have hrep:∀k:Nat,List.replicate k (AV.int IntKind.i64 0)=ints (List.replicate k 0):=by intro k;simp [ints]
 have hfinal:∀(E':Env) (a b:List AV),E' 4= .sl 0 0 M 1 (some M)→(fun (x:Exit) (E':Env) (H':Heap)=>(x=Exit.ret∨x=Exit.normal)∧∃v',resA Tryz.prog [ResultVar.tmp 4] E' H'=some v'∧AL.Fin 0 v' H' (AV.vec (ints fin) M (some M)) []) .ret E' [some (ints fin),some a,some b]:=by
  intro E' a b h4
  refine ⟨.inl rfl,.sl 0 0 M 1 (some M),by simp [resA,resOne,h4],.freeze 2 _ _ _ ?_ (by intro i cs h;omega)⟩
  have hm:∀l:List Nat,(ints l).mapM (frzI 0 [some (ints fin),some a,some b] 1)=some (ints l):=by
   intro l
   induction l with
   | nil=>rfl
   | cons y l ih=>
    have:ints (y::l)= .int .i64 (y:Int)::ints l:=rfl
    rw [this,List.mapM_cons,ih]
    rfl
  have e:frzI 0 [some (ints fin),some a,some b] 2 (.sl 0 0 M 1 (some M))=need (0+M*1≤(ints fin).length) (((((ints fin).drop 0).take (M*1)).mapM (frzI 0 [some (ints fin),some a,some b] 1)).map fun l=> .vec l M (some M)):=rfl
  have ht:((ints fin).drop 0).take (M*1)=ints fin:=by rw [List.drop_zero,qN (by rw [ints_len,hfl];omega)]
  rw [e,ht,hm]
  unfold need
  rw [if_pos (by rw [ints_len,hfl];omega)]
  rfl
 refine W_scope 0 (fun f E H=>J79 g n M F rows cg fin f E H) rfl ?_ ?_
 ·refine wpC_sound mixed ?_
  simp only [r18_1,r18_2,r18_3,r18_4,r18_5,SS,reduceCtorEq,reduceIte,qQ]
  refine callA_pure hres ?_
  simp only [SS,reduceCtorEq,reduceIte,Nat.reduceAdd,qQ,qU,qS,qT,hrep]
  refine ⟨by omega,⟨by omega,by omega,by omega,by omega⟩,by omega,⟨by omega,by omega,by omega,by omega⟩,by omega,⟨by omega,by omega,by omega,by omega⟩,?_⟩
  have zr:∀(k B:Nat),0<B→∀a∈List.replicate k 0,a<B:=by
   intro k B hB a ha
   rw [yZ] at ha
   omega
  refine body79 (f:=F) (E:=_) (H:=_) hM hM2 hn hF hrl hrows hgl hgM ⟨List.replicate M 0,0,List.replicate n 0,List.replicate n 0,by simp,zr _ _ (by omega),qV _,hM,by simp,zr _ _ hM,by simp,zr _ _ hM,hrun,rfl,rfl,rfl,rfl,rfl,rfl,rfl⟩
   (fun f' E' H' hlt h=>⟨f',E',H',h,.refl⟩) hfinal
 ·intro f E H hJ
  refine wpC_sound mixed ?_
  exact body79 hM hM2 hn hF hrl hrows hgl hgM hJ (fun f' E' H' hlt h=>⟨f',E',H',hlt,h,.refl⟩) hfinal
end Go.Proofs.YtenboapacjlmoaaGreatDoor
namespace Go.Proofs.YtenboapacjlmoaaGreatDoor
open Nat renaming reduceEqDiff → qQ, pow_le_pow_right → xR, pow_succ → yB
open List renaming getD_cons_succ → qW, getD_cons_zero → qI, getElem?_cons_zero → qS, getElem?_cons_succ → qT
open Go.AL.AV.closed renaming closedL → qH
set_option linter.unusedSimpArgs false
set_option linter.unusedVariables false
open Go Go.AL Go.Proofs
set_option maxRecDepth 100000
theorem sgPower {p e:Nat} (hp:1≤p) (h:p^e≤2097152) (he:e<2^40):Ret Tryz.prog G 17 [.int .i64 (p:Int),.int .i64 (e:Int)] [] (.tup [.int .i64 ((p^e:Nat):Int),.bool true]) []:=by
 have hle:∀i,i≤e→p^i≤2097152:=fun i hi=>Nat.le_trans (xR hp hi) h
 refine Ret_of mixed Tryz.func17 comp17 _ 17 res17 nt17 (by simp) (by simp) ?_
 simp only [c17,r17_0,r17_1,r17_2,SS,reduceCtorEq,reduceIte,qQ]
 refine W_loop (fun q E H=>∃i:Nat,i+q=e∧H=[]∧E 0= .int .i64 (p:Int)∧E 6= .int .i64 ((p^i:Nat):Int)∧E 7= .int .i64 (e:Int)∧E 8= .int .i64 (i:Int)) (n:=e)
  ⟨0,by omega,rfl,by simp only [upd_app,argsE_app,qI,qQ,if_false],by simp only [upd_app,argsE_app,qW,qQ,reduceIte,if_false];rfl,by simp only [upd_app,argsE_app,qW,qQ,reduceIte,if_false],by simp only [upd_app,argsE_app,qW,qQ,reduceIte,if_false];rfl⟩ ?_
 rintro q E H ⟨i,hiq,rfl,e0,e6,e7,e8⟩
 refine wpC_sound mixed ?_
 simp only [l17_0,r17_3,SS,reduceCtorEq,reduceIte,e7,e8]
 refine ⟨fun hlt=>?_,fun hge=>?_⟩
 ·obtain ⟨q,rfl⟩:∃q',q=q'+1:=⟨q-1,by omega⟩
  have hs:=hle (i+1) (by omega)
  have em:((p^i:Nat):Int)*(p:Int)=((p^(i+1):Nat):Int):=by rw [yB];exact (Int.natCast_mul _ _).symm
  have w5:IntKind.i64.wrap ((i:Int)+1)=((i+1:Nat):Int):=by rw [show (i:Int)+1=((i+1:Nat):Int) by omega];exact wrapN (by omega)
  have w6:IntKind.i64.wrap ((p^(i+1):Nat):Int)=((p^(i+1):Nat):Int):=wrapN (by omega)
  simp only [r17_4,r17_5,r17_6,r17_7,SS,reduceCtorEq,reduceIte,qQ,e0,e6,e8,em,w5,w6]
  refine ⟨fun hgt=>absurd hgt (by omega),fun _=>⟨q,_,_,by omega,⟨i+1,by omega,rfl,?_,?_,?_,?_⟩,.refl⟩⟩
  all_goals simp only [upd_app,qQ,reduceIte,if_false, *]
 ·have hie:i=e:=by omega
  subst hie
  simp only [r17_8,SS,reduceIte,qQ,e6]
  exact ⟨.inl trivial,_,rfl,.keep _ _⟩
theorem sgCheck {a:AV} {p:Int} (h1:Ret Tryz.prog G 46 [a] [] (.bool true) []) (hc:a.closed=true) (hp:p≤9973) (h2:Ret Tryz.prog G 47 [.int .i64 p] [] (.bool true) []):Ret Tryz.prog G 16 [a,.int .i64 p] [] (.int .i64 0) []:=by
 have c1:qH [a]=true:=by simp only [qH,hc,Bool.and_self]
 have d1:decide (9973<p)=false:=decide_eq_false (by omega)
 refine Ret_of mixed Tryz.func16 comp16 _ 15 res16 nt16 (by simp) (by simp) ?_
 simp only [c16,r16_0,r16_1,SS,reduceCtorEq,reduceIte]
 refine callA_pure h1 ?_ c1
 simp only [restA,SS,forall_const,reduceIte,qQ]
 simp only [r16_3,SS,forall_const,reduceIte,qQ,d1]
 refine callA_pure h2 ?_
 simp only [restA,SS,forall_const,reduceIte,qQ,r16_5]
 exact ⟨.inl trivial,_,rfl,.keep _ _⟩
theorem sgCounts {hs:List AV} {ch:Option Nat} {n p e:Nat} {v:AV} (hcl:(AV.vec hs n ch).closed=true) (hchk:Ret Tryz.prog G 16 [.vec hs n ch,.int .i64 (p:Int)] [] (.int .i64 0) [])
  (hp:1≤p) (he:1≤e) (he2:e<2^40) (hn:1≤n) (hn2:n<2^40) (hpow:(p^e)^n≤2097152) (hcnt:Ret Tryz.prog G 18 [.vec hs n ch,.int .i64 ((p^e:Nat):Int)] [] v []) (hv:v.closed=true):
  Ret Tryz.prog G 6 [.vec hs n ch,.int .i64 (p:Int),.int .i64 (e:Int)] [] (.tup [v,.int .i64 0]) []:=by
 have h1:1≤p^e:=Nat.one_le_pow _ _ hp
 have hpe:p^e≤2097152:=Nat.le_trans (by have:=xR (n:=p^e) h1 hn;rwa [Nat.pow_one] at this) hpow
 have t1:=sgPower hp hpe he2
 have t2:=sgPower h1 hpow hn2
 have c0:qH [.vec hs n ch,.int .i64 (p:Int)]=true:=by simp only [qH,hcl];rfl
 have c1:qH [.vec hs n ch,.int .i64 ((p^e:Nat):Int)]=true:=by simp only [qH,hcl];rfl
 refine Ret_of mixed Tryz.func6 comp6 _ 41 res6 nt6 (by simp) (by simp) ?_
 simp only [c6,r6_0,r6_1,SS,reduceCtorEq,reduceIte,qQ]
 refine callA_pure hchk ?_ c0
 simp only [restA,SS,reduceIte,qQ]
 simp only [r6_2,SS,reduceIte,qQ]
 refine ⟨fun hne=>absurd rfl hne,fun _=>?_⟩
 simp only [r6_4,SS,reduceIte,qQ]
 refine ⟨fun hlt=>absurd hlt (by omega),fun _=>?_⟩
 simp only [r6_6,SS,reduceIte,qQ]
 refine callA_pure t1 ?_
 simp only [restA,SS,reduceIte,qQ,qS,qT]
 simp only [r6_7,r6_9,SS,forall_const,reduceCtorEq,reduceIte,qQ]
 refine callA_pure t2 ?_
 simp only [restA,SS,reduceIte,qQ,qS,qT]
 simp only [r6_10,r6_12,SS,forall_const,reduceCtorEq,reduceIte,qQ]
 refine callA_pure hcnt ?_ c1 hv
 simp only [restA,SS,reduceIte,qQ]
 exact ⟨.inl trivial,_,rfl,.keep _ _⟩
end Go.Proofs.YtenboapacjlmoaaGreatDoor
namespace Go.Count
open Nat renaming mul_mod → qM, mod_lt → xK
open List renaming getD_eq_getElem?_getD → qX, getElem?_eq_getElem → qK, countP_cons → qP, getElem?_map → xJ
set_option linter.unusedSimpArgs false
set_option linter.unusedVariables false
theorem sum_count (f:List Nat→Nat) (P:Nat→Bool) (M:Nat):∀l:List (List Nat),(∀y∈l,f y<M)→sumN (fun i=>if P i=true then l.countP (fun y=>decide (f y=i)) else 0) M=l.countP fun y=>P (f y):=by
 intro l
 induction l with
 | nil=>intro _;exact sumN_zero fun i _=>by simp
 | cons y l ih=>
  intro h
  rw [qP,←ih (fun z hz=>h z (by simp [hz]))]
  have e:sumN (fun i=>if P i=true then (y::l).countP (fun y=>decide (f y=i)) else 0) M=sumN (fun i=>(if P i=true then l.countP (fun y=>decide (f y=i)) else 0)+(if f y=i∧P i=true then 1 else 0)) M:=by
   refine sumN_congr fun i _=>?_
   rw [qP]
   by_cases hp:P i=true
   ·by_cases hf:f y=i
    ·simp [hp,hf]
    ·simp [hp,hf]
   ·simp [hp]
  rw [e,sumN_add]
  congr 1
  rw [sumN_one (h y (by simp)) (f:=fun i=>if f y=i∧P i=true then 1 else 0) (fun j _ hne=>if_neg (fun e=>hne e.1.symm))]
  by_cases hp:P (f y)=true
  ·simp [hp]
  ·simp [hp]
theorem nrm_modg {g g':List (List Nat)} {n M:Nat} {x y:List Nat} (hg:∀i j,i<n→j<n→ent g' i j%M=ent g i j%M) (h:∀i,i<n→y.getD i 0%M=x.getD i 0%M):nrm g' n y%M=nrm g n x%M:=by
 unfold nrm
 refine sumN_mod fun j hj=>?_
 have e:gx g' n y j%M=gx g n x j%M:=by
  unfold gx
  exact sumN_mod fun i hi=>by rw [qM,hg i j hi hj,h i hi,←qM]
 rw [qM,e,h j hj,←qM]
theorem mem_allV {M:Nat}:∀{n:Nat} {y:List Nat},y∈allV M n→y.length=n∧∀a∈y,a<M:=by
 intro n
 induction n with
 | zero=>intro y h;simp [allV] at h;subst h;exact ⟨rfl,fun a ha=>by simp at ha⟩
 | succ n ih=>
  intro y h
  simp only [allV,List.mem_flatMap,List.mem_map,List.mem_range] at h
  obtain ⟨r,hr,a,ha,rfl⟩:=h
  obtain ⟨h1,h2⟩:=ih hr
  refine ⟨by simp [h1],fun b hb=>?_⟩
  rcases List.mem_cons.1 hb with e | e
  ·omega
  ·exact h2 b e
theorem coarse {g g' a b:List (List Nat)} {n M c:Nat} (hM:0<M) (hc:0<c) (hg:∀i j,i<n→j<n→ent g' i j%M=ent g i j%M) {ca cb:List Nat}
  (ha:∀t,ca.getD t 0=(allV M n).countP fun y=>decide (nrm g n y%M=t)) (hb:∀t,cb.getD t 0=(allV (M*c) n).countP fun y=>decide (nrm g' n y%(M*c)=t)) {t:Nat} (ht:t<M):
  sumN (fun i=>if i%M=t then cb.getD i 0 else 0) (M*c)=c^n*ca.getD t 0:=by
 have e1:sumN (fun i=>if i%M=t then cb.getD i 0 else 0) (M*c)=sumN (fun i=>if (decide (i%M=t))=true then (allV (M*c) n).countP (fun y=>decide (nrm g' n y%(M*c)=i)) else 0) (M*c):=
  sumN_congr fun i _=>by rw [hb];simp only [decide_eq_true_eq]
 rw [e1,sum_count (fun y=>nrm g' n y%(M*c)) (fun i=>decide (i%M=t)) (M*c) _ (fun y _=>xK _ (Nat.mul_pos hM hc)),ha,←lifts M c n]
 refine List.countP_congr fun y hy=>?_
 have hl:=(mem_allV hy).1
 have e:nrm g' n y%(M*c)%M=nrm g n (y.map (· % M))%M:=by
  rw [Nat.mod_mul_right_mod]
  refine nrm_modg hg fun i hi=>?_
  rw [qX,qX,xJ,qK (by omega)]
  simp
 rw [e]
theorem total {g:List (List Nat)} {n M:Nat} (hM:0<M) {ca:List Nat} (ha:∀t,ca.getD t 0=(allV M n).countP fun y=>decide (nrm g n y%M=t)):sumN (fun i=>ca.getD i 0) M=M^n:=by
 have e1:sumN (fun i=>ca.getD i 0) M=sumN (fun i=>if (true=true) then (allV M n).countP (fun y=>decide (nrm g n y%M=i)) else 0) M:=sumN_congr fun i _=>by rw [ha];simp
 rw [e1,sum_count (fun y=>nrm g n y%M) (fun _=>true) M _ (fun y _=>xK _ hM)]
 simp [allV_len]
end Go.Count
namespace Go.Proofs.YtenboapacjlmoaaGreatDoor
open Nat renaming reduceEqDiff → qQ, zero_add → xZ, sub_self → xH, reduceLeDiff → yM
open List renaming getD_eq_getElem?_getD → qX, getElem?_eq_getElem → qK, getD_cons_succ → qW, getElem?_set_self → qE, getElem?_append_right → qG, getD_cons_zero → qI, ext_getElem → qL, take_of_length_le → qN, set_append_right → qO, getElem?_map → xJ, getElem?_set_ne → xV, set_set → yW, take_add_one → yV, getElem_set → yE, length_take → yG, length_drop → yL
open Int renaming toNat_natCast → qU, toNat_zero → xX, emod_lt_of_pos → yX, emod_nonneg → yO
set_option linter.unusedSimpArgs false
set_option linter.unusedVariables false
open Go Go.AL Go.Proofs
set_option maxRecDepth 100000
def gN (n:Nat) (M:List (List Int)) (m:Nat):List (List Nat):=(modM n M (m:Int)).map fun r=>r.map Int.toNat
theorem gN_row (n:Nat) (M:List (List Int)) (m i:Nat):(gN n M m).getD i []=((modM n M (m:Int)).getD i []).map Int.toNat:=by
 unfold gN
 rw [qX,xJ,qX]
 cases (modM n M (m:Int))[i]?<;>rfl
theorem gN_ent {n:Nat} {M:List (List Int)} {m i j:Nat}:Count.ent (gN n M m) i j=(ent (modM n M (m:Int)) i j).toNat:=by
 unfold Count.ent
 rw [gN_row]
 unfold ent
 generalize (modM n M (m:Int)).getD i []=r
 rw [qX,xJ,qX]
 cases r[j]?<;>rfl
theorem i64z_ints {r:List Int} (h:∀z∈r,0≤z):i64z r=ints (r.map Int.toNat):=by
 unfold i64z ints
 rw [List.map_map]
 refine List.map_congr_left fun z hz=>?_
 show AV.int .i64 z= .int .i64 ((z.toNat:Nat):Int)
 rw [Int.toNat_of_nonneg (h z hz)]
theorem modM_pos {n:Nat} {M:List (List Int)} {m i:Nat} (hm:0<m):∀z∈(modM n M (m:Int)).getD i [],0≤z∧z<m:=by
 intro z hz
 rw [qX] at hz
 cases h:(modM n M (m:Int))[i]? with
 | none=>rw [h] at hz;simp at hz
 | some r=>
  rw [h,Option.getD_some] at hz
  have hr:r∈modM n M (m:Int):=List.mem_of_getElem? h
  unfold modM mkM at hr
  obtain ⟨i',_,rfl⟩:=List.mem_map.1 hr
  obtain ⟨j',_,rfl⟩:=List.mem_map.1 hz
  exact ⟨yO _ (by omega),yX _ (by omega)⟩
theorem sgCountM {n m:Nat} {M:List (List Int)} (hS:Shp n M) (hsy:∀i j,i<n→j<n→ent M i j=ent M j i) (hIn:∀i j,In64 (ent M i j)) (hn:1≤n∧n≤8) (hm:2≤m) (hm2:m≤2097152) (hpow:m^n<2^60):
  ∃fin:List Nat,fin.length=m∧(∀t,fin.getD t 0=(Count.allV m n).countP fun y=>decide (Count.nrm (gN n M m) n y%m=t))∧Ret Tryz.prog G 18 [.vec (rowsV n M) n (some n),.int .i64 (m:Int)] [] (.vec (ints fin) m (some m)) []:=by
 have hTs:Shp n (modM n M (m:Int)):=mkM_shp _ _
 have hgs:∀j k,j<n→k<n→Count.ent (gN n M m) j k=Count.ent (gN n M m) k j:=by
  intro j k hj hk
  rw [gN_ent,gN_ent]
  unfold modM
  rw [ent_mk hj hk,ent_mk hk hj,hsy j k hj hk]
 obtain ⟨fin,h1,h2,h3⟩:=Count.runC_ok (g:=gN n M m) (n:=n) (M:=m) (by omega) hgs
 refine ⟨fin,h2,h3,?_⟩
 have hIm:ImV M (.vec (rowsV n M) n (some n)):=imV_rows hS.len hS.row hIn
 have tR:=moResidues hIm hS hn (m:=(m:Int)) (by omega)
 refine count_ret (g:=gN n M m) (by omega) (by omega) (by omega) hpow tR (by simp [rowsV,hTs.len]) (fun i hi=>⟨some n,?_⟩) (fun i hi=>?_) (fun i hi a ha=>?_) h1 h2
 ·have hi':i<(modM n M (m:Int)).length:=by rw [hTs.len];exact hi
  rw [gN_row,←i64z_ints (fun z hz=>(modM_pos (by omega) z hz).1)]
  unfold rowsV
  rw [xJ,qK hi',qX,qK hi']
  rfl
 ·rw [gN_row,List.length_map,hTs.row i hi]
 ·rw [gN_row] at ha
  obtain ⟨z,hz,rfl⟩:=List.mem_map.1 ha
  have:=modM_pos (by omega) z hz
  omega
open Go.Limb Go.Det
def SmallP (M:List (List Int)):Prop:=1≤M.length∧M.length≤8∧Shp M.length M∧∀i j,i<M.length→j<M.length→ent M i j=ent M j i∧ -262144<ent M i j∧ent M i j<262144
theorem lSmall {M:List (List Int)} {a:AV} (h:ImV M a) (h62:M.length<4611686018427387904) (hr62:∀i,i<M.length→(M.getD i []).length<4611686018427387904) {b:Bool} (hb:b=true↔SmallP M):Ret Tryz.prog G 90 [a] [] (.bool b) []:=by
 have hf:=h.fit
 obtain ⟨rows,c,rfl,hl,hr⟩:=h.val
 have no:¬SmallP M→b=false:=by
  intro hn
  cases b with
  | false=>rfl
  | true=>exact absurd (hb.1 rfl) hn
 refine Ret_of mixed Tryz.func90 comp90 _ 62 res90 nt90 (by simp) (by simp) ?_
 by_cases h1:M.length<1∨8<M.length
 ·have hbf:=no (fun hS=>by have:=hS.1;have:=hS.2.1;omega)
  subst hbf
  by_cases h2:M.length<1
  ·have d1:decide ((M.length:Int)<1)=true:=decide_eq_true (by omega)
   simp only [c90,r90_0,r90_1,r90_2,SS,forall_const,reduceCtorEq,reduceIte,qQ,d1]
   simp only [r90_3,SS]
   exact ⟨.inl trivial,_,rfl,.drop _ _ rfl (by intro i cs h;omega)⟩
  ·have d1:decide ((M.length:Int)<1)=false:=decide_eq_false (by omega)
   have d2:decide ((8:Int)<(M.length:Nat))=true:=decide_eq_true (by omega)
   simp only [c90,r90_0,r90_1,r90_2,SS,forall_const,reduceCtorEq,reduceIte,qQ,d1,d2]
   simp only [r90_3,SS]
   exact ⟨.inl trivial,_,rfl,.drop _ _ rfl (by intro i cs h;omega)⟩
 have d1:decide ((M.length:Int)<1)=false:=decide_eq_false (by omega)
 have d2:decide ((8:Int)<(M.length:Nat))=false:=decide_eq_false (by omega)
 simp only [c90,r90_0,r90_1,r90_2,SS,forall_const,reduceCtorEq,reduceIte,qQ,d1,d2]
 simp only [r90_4,SS,reduceCtorEq,reduceIte,qQ]
 refine W_loop (fun k E H=>∃i,i+k=M.length∧E 0= .vec rows M.length c∧E 3= .int .i64 (M.length:Nat)∧E 18= .vec rows M.length c∧E 19= .int .i64 (M.length:Nat)∧E 20= .int .i64 (i:Nat)∧H=[]∧∀s,s<i→(M.getD s []).length=M.length) (n:=M.length)
  ⟨0,by omega,by simp only [upd_app,argsE_app,qI,qQ,if_false],by simp only [upd_app,argsE_app,qW,qQ,reduceIte,if_false],by simp only [upd_app,argsE_app,qW,qQ,reduceIte,if_false],by simp only [upd_app,argsE_app,qW,qQ,reduceIte,if_false],by simp only [upd_app,argsE_app,qW,qQ,reduceIte,if_false];rfl,rfl,fun s hs=>absurd hs (by omega)⟩ ?_
 rintro k E H ⟨i,hik,e0,e3,e18,e19,e20,rfl,hsh⟩
 refine wpC_sound mixed ?_
 simp only [l90_0,r90_5,SS,reduceCtorEq,reduceIte,e19,e20]
 refine ⟨fun hlt=>?_,fun hge=>?_⟩
 ·obtain ⟨k,rfl⟩:∃k',k=k'+1:=⟨k-1,by omega⟩
  have hi:i<M.length:=by omega
  obtain ⟨ci,hei⟩:=hr i hi
  have hri:=hr62 i hi
  have w5:IntKind.i64.wrap ((i:Int)+1)=((i+1:Nat):Int):=by rw [show (i:Int)+1=((i+1:Nat):Int) by omega];exact w64 (by omega) (by omega)
  simp only [r90_6,r90_7,SS,forall_const,reduceIte,qQ,e3,e18,e20,qU,hei,hl]
  refine ⟨⟨by omega,by omega⟩,by omega,fun hne=>?_,fun heq=>?_⟩
  ·have hbf:=no (fun hS=>hne (by rw [hS.2.2.1.row i hi]))
   subst hbf
   simp only [r90_8,SS]
   exact ⟨.inl trivial,_,rfl,.drop _ _ rfl (by intro i cs h;omega)⟩
  ·have heq:(M.getD i []).length=M.length:=by
    have:=Decidable.not_not.1 heq
    omega
   simp only [r90_9,SS,reduceIte,qQ,e20,w5]
   refine ⟨k,_,_,by omega,⟨i+1,by omega,?_,?_,?_,?_,?_,rfl,fun s hs=>?_⟩,.refl⟩
   ·simp only [upd_app,qQ,if_false, *]
   ·simp only [upd_app,qQ,if_false, *]
   ·simp only [upd_app,qQ,if_false, *]
   ·simp only [upd_app,qQ,if_false, *]
   ·simp only [upd_app,qQ,reduceIte,if_false, *]
   ·rcases (by omega:s<i∨s=i) with e | e
    ·exact hsh s e
    ·rw [e];exact heq
 ·have hin:i=M.length:=by omega
  subst hin
  clear hge e20 e19 e18 hik k
  have hS:Shp M.length M:=⟨rfl,hsh⟩
  simp only [r90_10,SS,reduceCtorEq,reduceIte,qQ,e0]
  refine W_loop (fun k E H=>∃i,i+k=M.length∧E 0= .vec rows M.length c∧E 29= .vec rows M.length c∧E 30= .int .i64 (M.length:Nat)∧E 31= .int .i64 (i:Nat)∧H=[]∧∀s t,s<i→t<M.length→ent M s t=ent M t s∧ -262144<ent M s t∧ent M s t<262144) (n:=M.length)
   ⟨0,by omega,by simp only [upd_app,qQ,if_false,e0],by simp only [upd_app,qQ,reduceIte,if_false],by simp only [upd_app,qQ,reduceIte,if_false],by simp only [upd_app,qQ,reduceIte,if_false];rfl,rfl,fun s t hs=>absurd hs (by omega)⟩ ?_
  clear e0 e3 hsh E
  rintro k E H ⟨i,hik,e0,e29,e30,e31,rfl,hP⟩
  refine wpC_sound mixed ?_
  simp only [l90_1,r90_11,SS,reduceCtorEq,reduceIte,e30,e31]
  refine ⟨fun hlt=>?_,fun hge=>?_⟩
  ·obtain ⟨k,rfl⟩:∃k',k=k'+1:=⟨k-1,by omega⟩
   have hi:i<M.length:=by omega
   obtain ⟨ci,hei⟩:=hr i hi
   have w5:IntKind.i64.wrap ((i:Int)+1)=((i+1:Nat):Int):=by rw [show (i:Int)+1=((i+1:Nat):Int) by omega];exact w64 (by omega) (by omega)
   have hcol:=hS.row i hi
   simp only [r90_12,r90_13,SS,forall_const,reduceIte,qQ,e29,e31,qU,hei,hl,hcol]
   refine ⟨⟨by omega,by omega⟩,by omega,?_⟩
   refine W_loop (fun k2 E H=>∃j,j+k2=M.length∧E 0= .vec rows M.length c∧E 6= .int .i64 (i:Nat)∧E 29= .vec rows M.length c∧E 30= .int .i64 (M.length:Nat)∧E 31= .int .i64 (i:Nat)∧E 36= .vec (i64z (M.getD i [])) M.length ci∧E 37= .int .i64 (M.length:Nat)∧E 38= .int .i64 (j:Nat)∧H=[]∧∀t,t<j→ent M i t=ent M t i∧ -262144<ent M i t∧ent M i t<262144) (n:=M.length)
    ⟨0,by omega,by simp only [upd_app,qQ,if_false,e0],by simp only [upd_app,qQ,reduceIte,if_false],by simp only [upd_app,qQ,if_false,e29],by simp only [upd_app,qQ,if_false,e30],by simp only [upd_app,qQ,if_false,e31],by simp only [upd_app,qQ,reduceIte,if_false],by simp only [upd_app,qQ,reduceIte,if_false],by simp only [upd_app,qQ,reduceIte,if_false];rfl,rfl,fun t ht=>absurd ht (by omega)⟩ ?_
   clear e0 e29 e30 e31 E
   rintro k2 E H ⟨j,hjk,e0,e6,e29,e30,e31,e36,e37,e38,rfl,hP2⟩
   refine wpC_sound mixed ?_
   simp only [l90_2,r90_14,SS,reduceCtorEq,reduceIte,qQ,e37,e38]
   refine ⟨fun hlt2=>?_,fun hge2=>?_⟩
   ·obtain ⟨k2,rfl⟩:∃k',k2=k'+1:=⟨k2-1,by omega⟩
    have hj:j<M.length:=by omega
    obtain ⟨cj,hej⟩:=hr j hj
    have hcj:=hS.row j hj
    have w6:IntKind.i64.wrap ((j:Int)+1)=((j+1:Nat):Int):=by rw [show (j:Int)+1=((j+1:Nat):Int) by omega];exact w64 (by omega) (by omega)
    have g1:(i64z (M.getD i [])).getD j .junk= .int .i64 (ent M i j):=i64z_getD _ j (by omega) _
    have g2:(i64z (M.getD j [])).getD i .junk= .int .i64 (ent M j i):=i64z_getD _ i (by omega) _
    simp only [r90_15,r90_16,SS,forall_const,reduceCtorEq,reduceIte,qQ,e0,e6,e36,e38,qU,hej,hl,hcj,i64z_len,hcol,g1,g2]
    have bad:¬(ent M i j=ent M j i∧ -262144<ent M i j∧ent M i j<262144)→b=false:=fun hn=>no fun hSm=>hn (hSm.2.2.2 i j hi hj)
    refine ⟨⟨by omega,by omega⟩,by omega,⟨by omega,by omega⟩,by omega,⟨by omega,by omega⟩,by omega,fun h1=>⟨fun h2=>⟨fun h3=>?_,fun h3=>?_⟩,fun h2=>?_⟩,fun h1=>?_⟩
    ·obtain rfl:=bad (by omega)
     simp only [r90_17,SS]
     exact ⟨.inl trivial,_,rfl,.drop _ _ rfl (by intro i cs h;omega)⟩
    ·simp only [r90_18,SS,reduceIte,qQ,e38,w6]
     refine ⟨k2,_,_,by omega,⟨j+1,by omega,?_,?_,?_,?_,?_,?_,?_,?_,rfl,fun t ht=>?_⟩,.refl⟩
     ·simp only [upd_app,qQ,if_false, *]
     ·simp only [upd_app,qQ,if_false, *]
     ·simp only [upd_app,qQ,if_false, *]
     ·simp only [upd_app,qQ,if_false, *]
     ·simp only [upd_app,qQ,if_false, *]
     ·simp only [upd_app,qQ,if_false, *]
     ·simp only [upd_app,qQ,if_false, *]
     ·simp only [upd_app,qQ,reduceIte,if_false, *]
     ·rcases (by omega:t<j∨t=j) with e | e
      ·exact hP2 t e
      ·rw [e];exact ⟨Decidable.not_not.1 h1,by omega,by omega⟩
    ·obtain rfl:=bad (by omega)
     simp only [r90_17,SS]
     exact ⟨.inl trivial,_,rfl,.drop _ _ rfl (by intro i cs h;omega)⟩
    ·obtain rfl:=bad (fun e=>h1 e.1)
     simp only [r90_17,SS]
     exact ⟨.inl trivial,_,rfl,.drop _ _ rfl (by intro i cs h;omega)⟩
   ·have hj:j=M.length:=by omega
    subst hj
    simp only [r90_19,SS,reduceIte,qQ,e31,w5]
    refine ⟨k,_,_,by omega,⟨i+1,by omega,?_,?_,?_,?_,rfl,fun s t hs ht=>?_⟩,.refl⟩
    ·simp only [upd_app,qQ,if_false, *]
    ·simp only [upd_app,qQ,if_false, *]
    ·simp only [upd_app,qQ,if_false, *]
    ·simp only [upd_app,qQ,reduceIte,if_false, *]
    ·rcases (by omega:s<i∨s=i) with e | e
     ·exact hP s t e ht
     ·rw [e];exact hP2 t ht
  ·have hin:i=M.length:=by omega
   subst hin
   obtain rfl:=hb.2 ⟨by omega,by omega,hS,fun s t hs ht=>hP s t hs ht⟩
   simp only [r90_20,SS]
   exact ⟨.inl trivial,_,rfl,.drop _ _ rfl (by intro i cs h;omega)⟩
def ShortP (n:Nat) (M:List (List Int)):Prop:=0<ent M 0 0∧ent M 0 0<65536∧∀i,0<i→i<n→2*ent M i 0≤ent M 0 0∧ -(2*ent M i 0)≤ent M 0 0
theorem lShort {n:Nat} {M:List (List Int)} {a:AV} (h:ImV M a) (hS:Shp n M) (hn:1≤n∧n≤8) (hbd:∀i,i<n→ -1099511627776≤ent M i 0∧ent M i 0≤1099511627776) {b:Bool} (hb:b=true↔ShortP n M):Ret Tryz.prog G 91 [a] [] (.bool b) []:=by
 obtain ⟨rows,c,rfl,hl,hr⟩:=h.val
 have no:¬ShortP n M→b=false:=by
  intro hn
  cases b with
  | false=>rfl
  | true=>exact absurd (hb.1 rfl) hn
 have hlen:=hS.len
 obtain ⟨c0,he0⟩:=hr 0 (by omega)
 have hc0:=hS.row 0 (by omega)
 have g0:(i64z (M.getD 0 [])).getD 0 .junk= .int .i64 (ent M 0 0):=i64z_getD _ 0 (by omega) _
 have hb0:=hbd 0 (by omega)
 refine Ret_of mixed Tryz.func91 comp91 _ 39 res91 nt91 (by simp) (by simp) ?_
 simp only [c91,r91_0,r91_1,SS,forall_const,reduceCtorEq,reduceIte,qQ,he0,hc0,hl,hlen,g0,i64z_len,xX]
 refine ⟨⟨by omega,by omega⟩,by omega,⟨by omega,by omega⟩,by omega,?_⟩
 simp only [r91_2,SS,forall_const,reduceIte,qQ]
 refine ⟨fun h1=>⟨fun h2=>?_,fun h2=>?_⟩,fun h1=>?_⟩
 ·obtain rfl:=no (fun hp=>by have:=hp.2.1;omega)
  simp only [r91_3,SS]
  exact ⟨.inl trivial,_,rfl,.drop _ _ rfl (by intro i cs h;omega)⟩
 ·simp only [r91_4,SS,reduceCtorEq,reduceIte,qQ,hl,hlen]
  have t1:Int.toNat 1=1:=rfl
  have htail:List.take (n-1) (List.drop 1 rows)=rows.drop 1:=qN (by rw [yL];omega)
  have hdl:(rows.drop 1).length=n-1:=by rw [yL];omega
  have hdg:∀i,(rows.drop 1).getD i .junk=rows.getD (i+1) .junk:=by
   intro i
   rw [qX,List.getElem?_drop,qX,Nat.add_comm]
  simp only [t1,htail]
  refine ⟨by omega,⟨by omega,by omega,by omega⟩,?_⟩
  refine W_loop (fun k E H=>∃i,i+k=n-1∧E 3= .int .i64 (ent M 0 0)∧E 18= .vec (rows.drop 1) (n-1) (subCap 1 c)∧E 19= .int .i64 ((n-1:Nat):Int)∧E 20= .int .i64 (i:Nat)∧H=[]∧∀s,0<s→s<i+1→2*ent M s 0≤ent M 0 0∧ -(2*ent M s 0)≤ent M 0 0) (n:=n-1)
   ⟨0,by omega,by simp only [upd_app,argsE_app,qW,qQ,reduceIte,if_false],by simp only [upd_app,argsE_app,qW,qQ,reduceIte,if_false],by simp only [upd_app,argsE_app,qW,qQ,reduceIte,if_false],by simp only [upd_app,argsE_app,qW,qQ,reduceIte,if_false];rfl,rfl,fun s hs hs2=>absurd hs2 (by omega)⟩ ?_
  rintro k E H ⟨i,hik,e3,e18,e19,e20,rfl,hP⟩
  refine wpC_sound mixed ?_
  simp only [l91_0,r91_5,SS,reduceCtorEq,reduceIte,e19,e20]
  refine ⟨fun hlt=>?_,fun hge=>?_⟩
  ·obtain ⟨k,rfl⟩:∃k',k=k'+1:=⟨k-1,by omega⟩
   have hi:i+1<n:=by omega
   obtain ⟨ci,hei⟩:=hr (i+1) (by omega)
   have hci:=hS.row (i+1) hi
   have gi:(i64z (M.getD (i+1) [])).getD 0 .junk= .int .i64 (ent M (i+1) 0):=i64z_getD _ 0 (by omega) _
   have hbi:=hbd (i+1) hi
   have w5:IntKind.i64.wrap ((i:Int)+1)=((i+1:Nat):Int):=by rw [show (i:Int)+1=((i+1:Nat):Int) by omega];exact w64 (by omega) (by omega)
   have w6:IntKind.i64.wrap (2*ent M (i+1) 0)=2*ent M (i+1) 0:=w64 (by omega) (by omega)
   have w7:IntKind.i64.wrap (-2*ent M (i+1) 0)= -2*ent M (i+1) 0:=w64 (by omega) (by omega)
   have bad:¬(2*ent M (i+1) 0≤ent M 0 0∧ -(2*ent M (i+1) 0)≤ent M 0 0)→b=false:=fun hne=>no fun hp=>hne (hp.2.2 (i+1) (by omega) hi)
   simp only [r91_6,r91_7,SS,forall_const,reduceIte,qQ,e3,e18,e20,qU,hdg,hdl,hei,hci,gi,i64z_len,xX,w6,w7]
   refine ⟨⟨by omega,by omega⟩,by omega,⟨by omega,by omega⟩,by omega,fun h3=>⟨⟨by omega,by omega⟩,by omega,fun h4=>?_,fun h4=>?_⟩,fun h3=>?_⟩
   ·obtain rfl:=bad (by omega)
    simp only [r91_8,SS]
    exact ⟨.inl trivial,_,rfl,.drop _ _ rfl (by intro i cs h;omega)⟩
   ·simp only [r91_9,SS,reduceIte,qQ,e20,w5]
    refine ⟨k,_,_,by omega,⟨i+1,by omega,?_,?_,?_,?_,rfl,fun s h0 hs=>?_⟩,.refl⟩
    ·simp only [upd_app,qQ,if_false, *]
    ·simp only [upd_app,qQ,if_false, *]
    ·simp only [upd_app,qQ,if_false, *]
    ·simp only [upd_app,qQ,reduceIte,if_false, *]
    ·rcases (by omega:s<i+1∨s=i+1) with e | e
     ·exact hP s h0 e
     ·rw [e];exact ⟨by omega,by omega⟩
   ·obtain rfl:=bad (by omega)
    simp only [r91_8,SS]
    exact ⟨.inl trivial,_,rfl,.drop _ _ rfl (by intro i cs h;omega)⟩
  ·have hin:i=n-1:=by omega
   subst hin
   obtain rfl:=hb.2 ⟨by omega,by omega,fun s h0 hs=>hP s h0 (by omega)⟩
   simp only [r91_10,SS]
   exact ⟨.inl trivial,_,rfl,.drop _ _ rfl (by intro i cs h;omega)⟩
 ·obtain rfl:=no (fun hp=>by have:=hp.1;omega)
  simp only [r91_3,SS]
  exact ⟨.inl trivial,_,rfl,.drop _ _ rfl (by intro i cs h;omega)⟩
def stageM (n k:Nat) (M:List (List Int)):List (List Int):=mkM (n-k) fun i j=>stg (rowF M) k (k+i) (k+j)
theorem stage_shp (n k:Nat) (M:List (List Int)):Shp (n-k) (stageM n k M):=mkM_shp _ _
theorem stage_ent {n k i j:Nat} {M:List (List Int)} (hi:i<n-k) (hj:j<n-k):ent (stageM n k M) i j=stg (rowF M) k (k+i) (k+j):=ent_mk hi hj
theorem stage_zero {n:Nat} {M:List (List Int)} (h:Shp n M):stageM n 0 M=M:=by
 refine shp_ext (n:=n) (stage_shp n 0 M) h fun i j hi hj=>?_
 rw [stage_ent (by omega) (by omega),stg_zero,xZ,xZ]
 rfl
section
variable {m:Nat} {S T:List (List Int)} {sr:List AV} {sc:Option Nat} {d last:Int}
structure StF (m:Nat) (S T:List (List Int)) (sr:List AV) (sc:Option Nat) (d last:Int):Prop where
 m2:m+1≤8
 shS:Shp (m+1) S
 shT:Shp m T
 val:∀i,i<m+1→∃c',sr.getD i .junk= .vec (i64z (S.getD i [])) (m+1) c'
 len:sr.length=m+1
 de:d=ent S 0 0
 db:0<d∧d<65536
 last0:last≠0
 big:∀i j,i<m+1→j<m+1→ -34359738368≤ent S i j∧ent S i j≤34359738368
 low:∀i,i<m+1→ -65536≤ent S i 0∧ent S i 0≤65536∧ -65536≤ent S 0 i∧ent S 0 i≤65536
 quo:∀i j,i<m→j<m→Int.tdiv (d*ent S (i+1) (j+1)-ent S (i+1) 0*ent S 0 (j+1)) last=ent T i j
theorem mul_abs64 {x y:Int} {a b:Int} (h1:x≤a) (h2: -a≤x) (h3:y≤b) (h4: -b≤y):x*y≤a*b∧ -(a*b)≤x*y:=mul_abs h1 h2 h3 h4
theorem lStage_in (hF:StF m S T sr sc d last) {i:Nat} (hi:i<m) {rows:List (List Int)} {ci:Option Nat} (hrl:rows.length=i+1) (hr0:(rows.getD i []).length=m) {E:Env} {Q:Post}
  (e3:E 3= .vec sr (m+1) sc) (e4:E 4= .int .i64 last) (e5:E 5= .int .i64 d) (e6:E 6= .sl 0 0 m 1 (some m)) (e7:E 7= .int .i64 (i:Nat)) (e8:E 8= .vec (i64z (S.getD (i+1) [])) (m+1) ci) (e31:E 31= .int .i64 (m:Nat)) (e32:E 32= .int .i64 (i:Nat))
  (e47:E 47= .int .i64 (m:Nat)) (e48:E 48= .int .i64 0)
  (hQ:∀E' r,r.length=m→(∀j,j<m→r.getD j 0=ent T i j)→E' 3= .vec sr (m+1) sc→E' 4= .int .i64 last→E' 5= .int .i64 d→E' 6= .sl 0 0 m 1 (some m)→E' 31= .int .i64 (m:Nat)→E' 32= .int .i64 (i:Nat)→Q (.exit 4) E' (bH m m (rows.set i r))):
  W Tryz.prog G 0 118 (.loop l46_2) E (bH m m rows) Q:=by
 refine W_loop (fun k E H=>∃j r,j+k=m∧r.length=m∧(∀t,t<j→r.getD t 0=ent T i t)∧H=bH m m (rows.set i r)∧E 3= .vec sr (m+1) sc∧E 4= .int .i64 last∧E 5= .int .i64 d∧E 6= .sl 0 0 m 1 (some m)∧E 7= .int .i64 (i:Nat)∧E 8= .vec (i64z (S.getD (i+1) [])) (m+1) ci∧
  E 31= .int .i64 (m:Nat)∧E 32= .int .i64 (i:Nat)∧E 47= .int .i64 (m:Nat)∧E 48= .int .i64 (j:Nat)) (n:=m)
  ⟨0,rows.getD i [],by omega,hr0,fun t ht=>absurd ht (by omega),?_,e3,e4,e5,e6,e7,e8,e31,e32,e47,e48⟩ ?_
 ·congr 1
  refine qL (by simp) fun t h1 h2=>?_
  rw [yE]
  split
  ·rename_i e;subst e;rw [qX,qK h1];rfl
  ·rfl
 clear e3 e4 e5 e6 e7 e8 e31 e32 e47 e48 E
 rintro k E H ⟨j,r,hjk,hrm,hr,rfl,e3,e4,e5,e6,e7,e8,e31,e32,e47,e48⟩
 refine wpC_sound mixed ?_
 simp only [l46_2,r46_16,SS,reduceIte,e47,e48]
 refine ⟨fun hlt=>?_,fun hge=>?_⟩
 ·obtain ⟨k,rfl⟩:∃k',k=k'+1:=⟨k-1,by omega⟩
  have hj:j<m:=by omega
  have hm2:=hF.m2
  obtain ⟨c0,h0⟩:=hF.val 0 (by omega)
  have hl:=hF.len
  have l0:=hF.shS.row 0 (by omega)
  have l1:=hF.shS.row (i+1) (by omega)
  have g1:(i64z (S.getD (i+1) [])).getD (j+1) .junk= .int .i64 (ent S (i+1) (j+1)):=i64z_getD _ (j+1) (by omega) _
  have g2:(i64z (S.getD (i+1) [])).getD 0 .junk= .int .i64 (ent S (i+1) 0):=i64z_getD _ 0 (by omega) _
  have g3:(i64z (S.getD 0 [])).getD (j+1) .junk= .int .i64 (ent S 0 (j+1)):=i64z_getD _ (j+1) (by omega) _
  have w5:IntKind.i64.wrap ((j:Int)+1)=((j+1:Nat):Int):=by rw [show (j:Int)+1=((j+1:Nat):Int) by omega];exact w64 (by omega) (by omega)
  have hset:(rows.set i r).length=i+1:=by simp [hrl]
  have gr:=bH_row (N:=m) (n:=m) (i:=i) (rows:=rows.set i r) (by omega)
  have gri:(rows.set i r).getD i []=r:=by rw [qX,qE (by omega)];rfl
  rw [gri] at gr
  have go:getB (bH m m (rows.set i r)) 0=some (outS m m (i+1)):=by rw [bH_outer,hset]
  have gol:=outS_len (N:=m) (n:=m) (i:=i+1) (by omega)
  have gog:=outS_get (N:=m) (n:=m) (i:=i+1) (k:=i) (by omega)
  obtain ⟨b1,b2⟩:=hF.big (i+1) (j+1) (by omega) (by omega)
  obtain ⟨b3,b4,_,_⟩:=hF.low (i+1) (by omega)
  obtain ⟨_,_,b5,b6⟩:=hF.low (j+1) (by omega)
  obtain ⟨d1,d2⟩:=hF.db
  have p1:=mul_abs64 (x:=d) (y:=ent S (i+1) (j+1)) (a:=65536) (b:=34359738368) (by omega) (by omega) b2 b1
  have p2:=mul_abs64 (x:=ent S (i+1) 0) (y:=ent S 0 (j+1)) (a:=65536) (b:=65536) b4 b3 b6 b5
  have hq:=hF.quo i j hi hj
  have w1:IntKind.i64.wrap (d*ent S (i+1) (j+1))=d*ent S (i+1) (j+1):=w64 (by omega) (by omega)
  have w2:IntKind.i64.wrap (ent S (i+1) 0*ent S 0 (j+1))=ent S (i+1) 0*ent S 0 (j+1):=w64 (by omega) (by omega)
  have w3:IntKind.i64.wrap (d*ent S (i+1) (j+1)-ent S (i+1) 0*ent S 0 (j+1))=d*ent S (i+1) (j+1)-ent S (i+1) 0*ent S 0 (j+1):=w64 (by omega) (by omega)
  have w4:IntKind.i64.wrap (ent T i j)=ent T i j:=by
   have h1:(ent T i j).natAbs=(d*ent S (i+1) (j+1)-ent S (i+1) 0*ent S 0 (j+1)).natAbs/last.natAbs:=by rw [←hq];exact Int.natAbs_tdiv _ _
   have h2:=Nat.div_le_self (d*ent S (i+1) (j+1)-ent S (i+1) 0*ent S 0 (j+1)).natAbs last.natAbs
   exact w64 (by omega) (by omega)
  simp only [r46_17,r46_18,SS,forall_const,reduceIte,qQ,yM,e3,e4,e5,e6,e7,e8,e48,qU,xX,go,gol,gog,h0,hl,l0,l1,g1,g2,g3,i64z_len,w5,w1,w2,w3,hq,w4,gr,hrm,i64z_set]
  have hl0:=hF.last0
  refine ⟨⟨by omega,by omega⟩,by omega,⟨by omega,by omega⟩,by omega,⟨by omega,by omega⟩,⟨by omega,by omega⟩,⟨by omega,by omega⟩,by omega,hl0,⟨by omega,by omega⟩,by omega,rfl,?_⟩
  simp only [r46_19,SS,reduceIte,qQ,e48,w5,bH_set]
  refine ⟨k,_,_,by omega,⟨j+1,r.set j (ent T i j),by omega,by simp [hrm],fun t ht=>?_,?_,?_,?_,?_,?_,?_,?_,?_,?_,?_,?_⟩,.refl⟩
  ·rw [qX]
   rcases (by omega:t<j∨t=j) with e | e
   ·rw [xV (by omega),←qX];exact hr t e
   ·rw [e,qE (by omega)];rfl
  ·rw [yW]
  all_goals simp only [upd_app,qQ,reduceIte,if_false, *]
 ·have hjm:j=m:=by omega
  subst hjm
  exact hQ _ r hrm hr (by simp only [upd_app,qQ,if_false,e3]) (by simp only [upd_app,qQ,if_false,e4]) (by simp only [upd_app,qQ,if_false,e5]) (by simp only [upd_app,qQ,if_false,e6]) (by simp only [upd_app,qQ,if_false,e31]) (by simp only [upd_app,qQ,if_false,e32])
theorem take_snoc {i:Nat} (hi:i<T.length):T.take i++[T.getD i []]=T.take (i+1):=by
 rw [yV,qX,qK hi];rfl
theorem lStage_out (hF:StF m S T sr sc d last) {E:Env} {Q:Post}
  (e3:E 3= .vec sr (m+1) sc) (e4:E 4= .int .i64 last) (e5:E 5= .int .i64 d) (e6:E 6= .sl 0 0 m 1 (some m)) (e31:E 31= .int .i64 (m:Nat)) (e32:E 32= .int .i64 0)
  (hQ:∀E',E' 3= .vec sr (m+1) sc→E' 4= .int .i64 last→E' 5= .int .i64 d→E' 6= .sl 0 0 m 1 (some m)→Q (.exit 2) E' (bH m m T)):
  W Tryz.prog G 0 118 (.loop l46_1) E (bH m m []) Q:=by
 refine W_loop (fun k E H=>∃i,i+k=m∧H=bH m m (T.take i)∧E 3= .vec sr (m+1) sc∧E 4= .int .i64 last∧E 5= .int .i64 d∧E 6= .sl 0 0 m 1 (some m)∧E 31= .int .i64 (m:Nat)∧E 32= .int .i64 (i:Nat)) (n:=m)
  ⟨0,by omega,rfl,e3,e4,e5,e6,e31,e32⟩ ?_
 clear e3 e4 e5 e6 e31 e32 E
 rintro k E H ⟨i,hik,rfl,e3,e4,e5,e6,e31,e32⟩
 refine wpC_sound mixed ?_
 simp only [l46_1,r46_11,SS,reduceIte,e31,e32]
 refine ⟨fun hlt=>?_,fun hge=>?_⟩
 ·obtain ⟨k,rfl⟩:∃k',k=k'+1:=⟨k-1,by omega⟩
  have hi:i<m:=by omega
  have hm2:=hF.m2
  have hTl:=hF.shT.len
  obtain ⟨ci,hei⟩:=hF.val (i+1) (by omega)
  have hl:=hF.len
  have htl:(T.take i).length=i:=by rw [yG];omega
  have w5:IntKind.i64.wrap ((i:Int)+1)=((i+1:Nat):Int):=by rw [show (i:Int)+1=((i+1:Nat):Int) by omega];exact w64 (by omega) (by omega)
  have hbl:(bH m m (T.take i)).length=i+1:=by rw [bH_len,htl]
  have go:getB (bH m m (T.take i)++[some (i64z (List.replicate m 0))]) 0=some (outS m m i):=by
   have:getB (bH m m (T.take i)) 0=some (outS m m i):=by rw [bH_outer,htl]
   exact this
  have gol:=outS_len (N:=m) (n:=m) (i:=i) (by omega)
  have hnew:=bH_new (N:=m) (n:=m) (rows:=T.take i) (List.replicate m 0) (by omega)
  rw [htl] at hnew
  simp only [r46_12,r46_13,r46_14,SS,forall_const,reduceIte,qQ,yM,e3,e6,e32,qU,w5,hei,hl,hbl,i64z_rep,go,gol]
  refine ⟨⟨by omega,by omega⟩,by omega,by decide,⟨by omega,by omega,by omega,by omega⟩,⟨by omega,by omega⟩,by omega,?_⟩
  rw [hnew]
  simp only [r46_15,SS,reduceIte,qQ,e6]
  refine lStage_in hF hi (ci:=ci) (rows:=T.take i++[List.replicate m 0]) (by simp;omega) ?_ (by simp only [upd_app,qQ,if_false,e3]) (by simp only [upd_app,qQ,if_false,e4]) (by simp only [upd_app,qQ,if_false,e5]) (by simp only [upd_app,qQ,if_false,e6]) (by simp only [upd_app,qQ,reduceIte,if_false]) (by simp only [upd_app,qQ,reduceIte,if_false]) (by simp only [upd_app,qQ,if_false,e31]) (by simp only [upd_app,qQ,if_false,e32]) (by simp only [upd_app,qQ,reduceIte,if_false]) (by simp only [upd_app,qQ,reduceIte,if_false]) ?_
  ·rw [qX,qG (by omega),htl,xH]
   simp
  intro E' r hrm hr f3 f4 f5 f6 f31 f32
  have er:r=T.getD i []:=by
   have hTi:=hF.shT.row i hi
   refine qL (by omega) fun t h1 h2=>?_
   have:=hr t (by omega)
   unfold ent at this
   rw [qX,qK h1,qX (l:=T.getD i []),qK h2] at this
   exact this
  have eset:(T.take i++[List.replicate m 0]).set i r=T.take (i+1):=by
   rw [qO _ _ (by omega),htl,xH,er]
   exact take_snoc (by omega)
  rw [eset]
  simp only [r46_20,SS,reduceIte,qQ,f32,w5]
  refine ⟨k,_,_,by omega,⟨i+1,by omega,rfl,?_,?_,?_,?_,?_,?_⟩,.refl⟩
  all_goals simp only [upd_app,qQ,reduceIte,if_false, *]
 ·have him:i=m:=by omega
  have htl:T.take i=T:=qN (by rw [hF.shT.len];omega)
  rw [htl]
  exact hQ _ (by simp only [upd_app,qQ,if_false,e3]) (by simp only [upd_app,qQ,if_false,e4]) (by simp only [upd_app,qQ,if_false,e5]) (by simp only [upd_app,qQ,if_false,e6])
end
end Go.Proofs.YtenboapacjlmoaaGreatDoor
namespace Go.Det
open Nat renaming le_refl → qV, lt_or_ge → qB
open Int renaming mul_le_mul_of_nonneg_right → qJ
set_option linter.unusedSimpArgs false
set_option linter.unusedVariables false
structure Part (n:Nat) (a:Nat→Row) (k:Nat):Prop where
 pos:∀t,t<k→0<lead a (t+1)
 lt:∀t,t<k→lead a (t+1)<65536
 sized:∀t i,t<k→i<n→t<i→2*stg a t i t≤lead a (t+1)∧ -(2*stg a t i t)≤lead a (t+1)
 lov:∀t,t<k→3*(lead a (t+1)*lead a (t+1))≤4*(lead a t*lead a (t+2)+stg a t (t+1) t*stg a t (t+1) t)
theorem Part.zero {n:Nat} {a:Nat→Row}:Part n a 0:=⟨fun _ h=>absurd h (by omega),fun _ h=>absurd h (by omega),fun _ _ h=>absurd h (by omega),fun _ h=>absurd h (by omega)⟩
theorem Part.pos' {n k:Nat} {a:Nat→Row} (h:Part n a k):∀t,t≤k→0<lead a t:=by
 intro t ht
 cases t with
 | zero=>rw [lead_zero];decide
 | succ t=>exact h.pos t (by omega)
theorem Part.ne {n k:Nat} {a:Nat→Row} (h:Part n a k):∀t,t≤k→lead a t≠0:=fun t ht=>by have:=h.pos' t ht;omega
theorem Part.lt' {n k:Nat} {a:Nat→Row} (h:Part n a k):∀t,t≤k→lead a t<65536:=by
 intro t ht
 cases t with
 | zero=>rw [lead_zero];decide
 | succ t=>exact h.lt t (by omega)
theorem Part.next {n k:Nat} {a:Nat→Row} (h:Part n a k) (h1:0<lead a (k+1)) (h2:lead a (k+1)<65536) (h3:∀i,i<n→k<i→2*stg a k i k≤lead a (k+1)∧ -(2*stg a k i k)≤lead a (k+1))
  (h4:3*(lead a (k+1)*lead a (k+1))≤4*(lead a k*lead a (k+2)+stg a k (k+1) k*stg a k (k+1) k)):Part n a (k+1):=by
 have sp:∀t,t<k+1→t<k∨t=k:=fun t ht=>by omega
 refine ⟨fun t ht=>?_,fun t ht=>?_,fun t i ht hi hti=>?_,fun t ht=>?_⟩
 ·rcases sp t ht with e | e
  ·exact h.pos t e
  ·rw [e];exact h1
 ·rcases sp t ht with e | e
  ·exact h.lt t e
  ·rw [e];exact h2
 ·rcases sp t ht with e | e
  ·exact h.sized t i e hi hti
  ·subst e;exact h3 i hi hti
 ·rcases sp t ht with e | e
  ·exact h.lov t e
  ·subst e;exact h4
theorem Part.red {n:Nat} {a:Nat→Row} (h1:1≤n) (h8:n≤8) (hs:∀i j,i<n→j<n→a i j=a j i) (h:Part n a (n-1)) (hp:0<lead a n) (hd:lead a n≤10000):Red n a:=by
 refine ⟨h1,h8,hs,fun k hk=>?_,hd,fun i j hi hj=>h.sized j i (by omega) hi hj,fun i h0 hi=>?_⟩
 ·rcases qB k (n-1) with e | e
  ·exact h.pos k e
  ·have:k+1=n:=by omega
   rw [this];exact hp
 ·have:=h.lov (i-1) (by omega)
  have e1:i-1+1=i:=by omega
  have e2:i-1+2=i+1:=by omega
  rw [e1,e2] at this
  exact this
theorem Part.entry {n:Nat} {a:Nat→Row} (hs:∀i j,i<n→j<n→a i j=a j i) (hb:∀i j,i<n→j<n→a i j≤262144∧ -262144≤a i j):∀k,k<n→Part n a k→∀i j,i<n→j<n→k≤i→k≤j→
  stg a k i j≤lead a k*(262144+16384*(k:Int))∧ -(lead a k*(262144+16384*(k:Int)))≤stg a k i j:=by
 intro k
 induction k with
 | zero=>
  intro _ _ i j hi hj _ _
  rw [stg_zero,lead_zero]
  have:=hb i j hi hj
  omega
 | succ k ih=>
  intro hk h i j hi hj h1 h2
  have hpre:Part n a k:=⟨fun t ht=>h.pos t (by omega),fun t ht=>h.lt t (by omega),fun t i ht=>h.sized t i (by omega),fun t ht=>h.lov t (by omega)⟩
  obtain ⟨x1,x2⟩:=ih (by omega) hpre i j hi hj (by omega) (by omega)
  have hn:=hpre.ne
  have e:=stg_rec hn i j
  obtain ⟨u1,u2⟩:=h.sized k i (by omega) hi (by omega)
  obtain ⟨v1,v2⟩:=h.sized k j (by omega) hj (by omega)
  rw [stg_sym hs k (by omega) hn k j (by omega) hj (by omega) (by omega)] at e
  have p:=hpre.pos' k (qV _)
  have p1:=h.pos k (by omega)
  have q1:=h.lt k (by omega)
  have:=forth (by omega) (by omega) (by omega) e x1 x2 u1 u2 v1 v2
  have c:(262144+16384*(k:Int)+16384)=262144+16384*((k+1:Nat):Int):=by omega
  rw [c] at this
  exact this
theorem Part.entry35 {n k:Nat} {a:Nat→Row} (h8:n≤8) (hs:∀i j,i<n→j<n→a i j=a j i) (hb:∀i j,i<n→j<n→a i j≤262144∧ -262144≤a i j) (hk:k<n) (h:Part n a k) {i j:Nat} (hi:i<n) (hj:j<n) (h1:k≤i) (h2:k≤j):
  stg a k i j≤34359738368∧ -34359738368≤stg a k i j:=by
 obtain ⟨e1,e2⟩:=Part.entry hs hb k hk h i j hi hj h1 h2
 have p:=h.pos' k (qV _)
 have q:=h.lt' k (qV _)
 have c:lead a k*(262144+16384*(k:Int))≤65536*524288:=by
  have m1:lead a k*(262144+16384*(k:Int))≤65536*(262144+16384*(k:Int)):=qJ (by omega) (by omega)
  have m2:(65536:Int)*(262144+16384*(k:Int))≤65536*524288:=by omega
  omega
 omega
theorem Red.part {n:Nat} {a:Nat→Row} (h:Red n a) {k:Nat} (hk:k+1<n):0<lead a (k+1)∧lead a (k+1)<65536∧(∀i,i<n→k<i→2*stg a k i k≤lead a (k+1)∧ -(2*stg a k i k)≤lead a (k+1))∧
  3*(lead a (k+1)*lead a (k+1))≤4*(lead a k*lead a (k+2)+stg a k (k+1) k*stg a k (k+1) k):=by
 have:=h.minor (k:=k+1) (by omega)
 refine ⟨h.pos k (by omega),by omega,fun i hi hki=>h.sized i k hi hki,?_⟩
 have:=h.lov (k+1) (by omega) hk
 exact this
theorem stage_quo {n k:Nat} {a:Nat→Row} (h:Part n a k) (i j:Nat):Int.tdiv (lead a (k+1)*stg a k i j-stg a k i k*stg a k k j) (lead a k)=stg a (k+1) i j:=by
 rw [←stg_rec h.ne i j,Int.mul_tdiv_cancel_left _ (h.ne k (qV _))]
end Go.Det
