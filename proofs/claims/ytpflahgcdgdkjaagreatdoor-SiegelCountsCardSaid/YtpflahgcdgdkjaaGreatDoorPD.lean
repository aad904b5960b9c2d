/- A part of the proof. -/
import Derived.Test.YtpflahgcdgdkjaaGreatDoorAL1
import Derived.Test.YtpflahgcdgdkjaaGreatDoorPC
namespace Go.Det
open List renaming getD_eq_getElem?_getD → qQ, getElem?_append_right → qC, append_assoc → qD, nil_append → qE, cons_append → qH, length_append → qN, length_cons → xQ, getD_cons_zero → xZ, length_singleton → xS, range_succ → yL
open Int renaming mul_le_mul_of_nonneg_left → qX, mul_le_mul_of_nonneg_right → qJ, mul_nonneg → qW, le_of_mul_le_mul_left → qU, eq_of_mul_eq_mul_left → qB, toNat_natCast → qT
open Nat renaming le_refl → qK, lt_or_ge → qV, mul_le_mul_left → qO, le_trans → xX, sub_self → xK, pow_le_pow_left → xB, zero_add → xC, lt_of_le_of_lt → xD, lt_irrefl → yJ, pow_succ → yY, lt_of_not_le → yC, mul_pow → yG
set_option linter.unusedSimpArgs false
set_option linter.unusedVariables false
abbrev Row:=Nat→Int
def sg:Nat→Int
 | 0=>1
 | n+1=> -sg n
def zbz (f:List Row→Int) (c:Nat):List Row→List Row→Int
 | _,[]=>0
 | pre,v::L=>sg L.length*(v c*f (pre++L))+zbz f c (pre++[v]) L
def det:List Nat→List Row→Int
 | [],[]=>1
 | [],_::_=>0
 | c::cs,R=>zbz (det cs) c [] R
def Lin (f:List Row→Int):Prop:= ∀(L1 L2:List Row) (a b:Int) (x y:Row),f (L1++(fun j=>a*x j+b*y j)::L2)=a*f (L1++x::L2)+b*f (L1++y::L2)
def Alt (f:List Row→Int):Prop:= ∀(L1 L2:List Row) (v:Row),f (L1++v::v::L2)=0
theorem qas {f:List Row→Int} (hf:Lin f) (c:Nat) (a b:Int) (x y:Row):∀(L p1 p2:List Row),zbz f c (p1++(fun j=>a*x j+b*y j)::p2) L=a*zbz f c (p1++x::p2) L+b*zbz f c (p1++y::p2) L:=by
 intro L
 induction L with
 | nil=>intro p1 p2;simp [zbz]
 | cons v L ih=>
  intro p1 p2
  simp only [zbz,qD,qH]
  rw [hf p1 (p2++L) a b x y,ih p1 (p2++[v])]
  grind
theorem qat {f:List Row→Int} (hf:Lin f) (c:Nat) (a b:Int) (x y:Row) (L2:List Row):∀(L1 pre:List Row),zbz f c pre (L1++(fun j=>a*x j+b*y j)::L2)=a*zbz f c pre (L1++x::L2)+b*zbz f c pre (L1++y::L2):=by
 intro L1
 induction L1 with
 | nil=>
  intro pre
  simp only [qE,zbz]
  rw [qas hf c a b x y L2 pre []]
  grind
 | cons w L1 ih=>
  intro pre
  simp only [qH,zbz,qN,xQ]
  have:=hf (pre++L1) L2 a b x y
  simp only [qD] at this
  rw [this,ih]
  grind
theorem qfu:∀cs,Lin (det cs):=by
 intro cs
 induction cs with
 | nil=>
  intro L1 L2 a b x y
  have e:∀v:Row,det [] (L1++v::L2)=0:=by intro v;cases L1<;>rfl
  rw [e,e,e];simp
 | cons c cs ih=>intro L1 L2 a b x y;exact qat ih c a b x y L2 L1 []
theorem zvt {f:List Row→Int} (hf:Alt f) (c:Nat) (v:Row):∀(L p1 p2:List Row),zbz f c (p1++v::v::p2) L=0:=by
 intro L
 induction L with
 | nil=>intro p1 p2;rfl
 | cons w L ih=>
  intro p1 p2
  simp only [zbz,qD,qH]
  rw [hf p1 (p2++L) v,ih p1 (p2++[w])]
  simp
theorem qau {f:List Row→Int} (hf:Alt f) (c:Nat) (v:Row) (L2:List Row):∀(L1 pre:List Row),zbz f c pre (L1++v::v::L2)=0:=by
 intro L1
 induction L1 with
 | nil=>
  intro pre
  simp only [qE,zbz,xQ]
  have:=zvt hf c v L2 pre []
  simp only [qD,qH,qE] at this ⊢
  rw [this]
  simp only [sg]
  grind
 | cons w L1 ih=>
  intro pre
  simp only [qH,zbz]
  have:=hf (pre++L1) L2 v
  simp only [qD] at this
  rw [this,ih]
  simp
theorem qfv:∀cs,Alt (det cs):=by
 intro cs
 induction cs with
 | nil=>intro L1 L2 v;cases L1<;>rfl
 | cons c cs ih=>intro L1 L2 v;exact qau ih c v L2 L1 []
theorem swap {f:List Row→Int} (hl:Lin f) (ha:Alt f) (L1 L2:List Row) (x y:Row):f (L1++x::y::L2)= -f (L1++y::x::L2):=by
 have h:=ha L1 L2 (fun j=>1*x j+1*y j)
 rw [hl L1 ((fun j=>1*x j+1*y j)::L2) 1 1 x y] at h
 have h1:=hl (L1++[x]) L2 1 1 x y
 have h2:=hl (L1++[y]) L2 1 1 x y
 simp only [qD,qH,qE] at h1 h2
 rw [h1,h2,ha L1 L2 x,ha L1 L2 y] at h
 omega
theorem qrv {f:List Row→Int} (hl:Lin f) (ha:Alt f) (v:Row):∀(M L1 L2:List Row),f (L1++v::(M++v::L2))=0:=by
 intro M
 induction M with
 | nil=>intro L1 L2;exact ha L1 L2 v
 | cons w M ih=>
  intro L1 L2
  rw [qH,swap hl ha L1 (M++v::L2) v w]
  have:=ih (L1++[w]) L2
  simp only [qD,qH,qE] at this
  rw [this];simp
theorem zxw {f:List Row→Int} (hl:Lin f) (ha:Alt f) {v:Row} {L1 L2:List Row} (hv:v∈L1):f (L1++v::L2)=0:=by
 obtain ⟨A,B,rfl⟩:=List.append_of_mem hv
 have:=qrv hl ha v B A L2
 simpa using this
theorem qlt {f:List Row→Int} (hl:Lin f) (L1 L2:List Row):f (L1++(fun _=>0)::L2)=0:=by
 have:=hl L1 L2 0 0 (fun _=>0) (fun _=>0)
 simpa using this
def comb (c:Nat→Int) (r:Nat→Row):Nat→Row
 | 0=>fun _=>0
 | m+1=>fun j=>1*comb c r m j+c m*r m j
theorem zxx {f:List Row→Int} (hl:Lin f) (ha:Alt f) (c:Nat→Int) (r:Nat→Row) {L1 L2:List Row}:∀m,(∀l,l<m→r l∈L1)→f (L1++comb c r m::L2)=0:=by
 intro m
 induction m with
 | zero=>intro _;exact qlt hl L1 L2
 | succ m ih=>
  intro h
  show f (L1++(fun j=>1*comb c r m j+c m*r m j)::L2)=0
  rw [hl,ih (fun l hl=>h l (by omega)),zxw hl ha (h m (by omega))]
  simp
def zcv (r:Nat→Row) (k:Nat):List Row:=(List.range k).map r
def zdz:Nat→List Nat
 | 0=>[]
 | k+1=>k::zdz k
theorem zoz (r:Nat→Row) (k:Nat):zcv r (k+1)=zcv r k++[r k]:=by simp [zcv,yL]
def lead (r:Nat→Row) (k:Nat):Int:=det (zdz k) (zcv r k)
def bord (r:Nat→Row) (k:Nat) (v:Row):Row:=fun j=>det (j::zdz k) (zcv r k++[v])
theorem qfw (r:Nat→Row) (k:Nat):lead r (k+1)=bord r k (r k) k:=by
 unfold lead bord
 rw [zoz];rfl
def cof (f:List Row→Int) (pre L:List Row) (v:Row) (l:Nat):Int:= -(sg (L.length-l)*f (pre++(L.eraseIdx l++[v])))
def sumR (g:Nat→Int):Nat→Int
 | 0=>0
 | n+1=>sumR g n+g n
theorem zas {g h:Nat→Int} {n:Nat} (e:∀i,i<n→g i=h i):sumR g n=sumR h n:=by
 induction n with
 | zero=>rfl
 | succ n ih=>simp only [sumR];rw [ih (fun i hi=>e i (by omega)),e n (by omega)]
theorem zfd {g:Nat→Int} {n:Nat} (e:∀i,i<n→g i=0):sumR g n=0:=by
 induction n with
 | zero=>rfl
 | succ n ih=>simp only [sumR];rw [ih (fun i hi=>e i (by omega)),e n (by omega)];rfl
theorem qav (g:Nat→Int) (n:Nat):sumR g (n+1)=g 0+sumR (fun i=>g (i+1)) n:=by
 induction n with
 | zero=>simp [sumR]
 | succ n ih=>rw [sumR,ih];simp only [sumR];omega
theorem zgl (f:List Row→Int) (j:Nat) (v:Row):∀(L pre:List Row),zbz f j pre (L++[v])=v j*f (pre++L)-sumR (fun l=>cof f pre L v l*(L.getD l (fun _=>0)) j) L.length:=by
 intro L
 induction L with
 | nil=>intro pre;simp [zbz,sg,sumR]
 | cons w L ih=>
  intro pre
  simp only [qH,zbz,qN,xQ,List.length_nil,xC]
  rw [ih (pre++[w]),qav]
  have e:sumR (fun i=>cof f pre (w::L) v (i+1)*((w::L).getD (i+1) (fun _=>0)) j) L.length=sumR (fun l=>cof f (pre++[w]) L v l*(L.getD l (fun _=>0)) j) L.length:=by
   refine zas fun i _=>?_
   simp [cof]
  have e0:cof f pre (w::L) v 0= -(sg (L.length+1)*f (pre++(L++[v]))):=by simp [cof]
  rw [e,e0]
  simp only [xZ,qD,qH,qE]
  grind
theorem qlu (c:Nat→Int) (r:Nat→Row) (j:Nat):∀m,comb c r m j=sumR (fun l=>c l*r l j) m:=by
 intro m
 induction m with
 | zero=>rfl
 | succ m ih=>simp only [comb,sumR,ih];omega
theorem zbw (r:Nat→Row) (k:Nat):(zcv r k).length=k:=by simp [zcv]
theorem zhg (r:Nat→Row) {k l:Nat} (h:l<k):(zcv r k).getD l (fun _=>0)=r l:=by
 rw [qQ]
 simp [zcv,h]
theorem qfx (r:Nat→Row) (k:Nat) (v:Row):bord r k v=fun j=>lead r k*v j+(-1)*comb (cof (det (zdz k)) [] (zcv r k) v) r k j:=by
 funext j
 show zbz (det (zdz k)) j [] (zcv r k++[v])=_
 rw [zgl,qlu,zbw]
 have e:sumR (fun l=>cof (det (zdz k)) [] (zcv r k) v l*((zcv r k).getD l (fun _=>0)) j) k=sumR (fun l=>cof (det (zdz k)) [] (zcv r k) v l*r l j) k:=
  zas fun l hl=>by rw [zhg r hl]
 rw [e]
 unfold lead
 simp only [qE]
 grind
theorem qlv {u:Row}:∀(cs:List Nat),(∀c∈cs,u c=0)→∀L1 L2,det cs (L1++u::L2)=0:=by
 intro cs
 induction cs with
 | nil=>intro _ L1 L2;cases L1<;>rfl
 | cons c cs ih=>
  intro h L1 L2
  have hf:=ih (fun x hx=>h x (by simp [hx]))
  have hc:=h c (by simp)
  have pre:∀(L p1 p2:List Row),zbz (det cs) c (p1++u::p2) L=0:=by
   intro L
   induction L with
   | nil=>intro p1 p2;rfl
   | cons w L ihL=>
    intro p1 p2
    simp only [zbz,qD,qH]
    rw [hf p1 (p2++L),ihL p1 (p2++[w])];simp
  have main:∀(L1 p:List Row),zbz (det cs) c p (L1++u::L2)=0:=by
   intro L1
   induction L1 with
   | nil=>
    intro p
    simp only [qE,zbz]
    rw [hc,pre L2 p []];simp
   | cons w L1 ihL=>
    intro p
    simp only [qH,zbz]
    have:=hf (p++L1) L2
    simp only [qD] at this
    rw [this,ihL];simp
  exact main L1 []
theorem zni {c:Nat}:∀{k:Nat},c∈zdz k→c<k:=by
 intro k
 induction k with
 | zero=>intro h;simp [zdz] at h
 | succ k ih=>
  intro h
  rcases List.mem_cons.1 h with e | e
  ·omega
  ·have:=ih e;omega
theorem zti {r:Nat→Row} {k:Nat} (hz:∀v c,c<k→bord r k v c=0) (v:Row) (j:Nat):
  lead r k*lead r k*bord r (k+1) v j=lead r k*(bord r k (r k) k*bord r k v j-bord r k v k*bord r k (r k) j):=by
 have hu0:∀w c,c∈zdz k→bord r k w c=0:=fun w c hc=>hz w c (zni hc)
 have G0:∀w L1 L2,det (zdz k) (L1++bord r k w::L2)=0:=fun w L1 L2=>qlv (zdz k) (hu0 w) L1 L2
 have F1:∀w,det (k::zdz k) (zcv r k++[bord r k w])=bord r k w k*lead r k:=by
  intro w
  show zbz (det (zdz k)) k [] (zcv r k++[bord r k w])=_
  rw [zgl]
  have:sumR (fun l=>cof (det (zdz k)) [] (zcv r k) (bord r k w) l*((zcv r k).getD l (fun _=>0)) k) (zcv r k).length=0:=
   zfd fun l _=>by
    unfold cof
    have:=G0 w ((zcv r k).eraseIdx l) []
    simp only [qE]
    rw [this];simp
  rw [this]
  unfold lead
  simp
 have F2:∀R w w',det (k::zdz k) ((R++[bord r k w])++[bord r k w'])=0:=by
  intro R w w'
  show zbz (det (zdz k)) k [] ((R++[bord r k w])++[bord r k w'])=_
  rw [zgl]
  have:sumR (fun l=>cof (det (zdz k)) [] (R++[bord r k w]) (bord r k w') l*((R++[bord r k w]).getD l (fun _=>0)) k) (R++[bord r k w]).length=0:=
   zfd fun l _=>by
    unfold cof
    have:=G0 w' ((R++[bord r k w]).eraseIdx l) []
    simp only [qE]
    rw [this];simp
  rw [this,qE,G0 w R []]
  simp
 have X1:det (j::k::zdz k) ((zcv r k++[bord r k (r k)])++[bord r k v])=lead r k*(bord r k (r k) k*bord r k v j-bord r k v k*bord r k (r k) j):=by
  show zbz (det (k::zdz k)) j [] ((zcv r k++[bord r k (r k)])++[bord r k v])=_
  rw [zgl,qE,F1,qN,xS,zbw]
  simp only [sumR]
  have h0:sumR (fun l=>cof (det (k::zdz k)) [] (zcv r k++[bord r k (r k)]) (bord r k v) l*((zcv r k++[bord r k (r k)]).getD l (fun _=>0)) j) k=0:=
   zfd fun l hl=>by
    unfold cof
    rw [qE,List.eraseIdx_append_of_lt_length (by rw [zbw];exact hl),F2];simp
  have h1:cof (det (k::zdz k)) [] (zcv r k++[bord r k (r k)]) (bord r k v) k=bord r k v k*lead r k:=by
   unfold cof
   rw [qE,List.eraseIdx_append_of_length_le (by rw [zbw];exact qK _),zbw,xK,qN,zbw]
   simp only [List.eraseIdx_zero,List.tail_cons,List.append_nil,xS,Nat.add_sub_cancel_left,sg]
   rw [F1];grind
  have h2:(zcv r k++[bord r k (r k)]).getD k (fun _=>0)=bord r k (r k):=by
   rw [qQ,qC (by rw [zbw];exact qK _),zbw,xK];rfl
  rw [h0,h1,h2]
  grind
 have hl:=qfu (j::k::zdz k)
 have ha:=qfv (j::k::zdz k)
 have hm:∀l,l<k→r l∈zcv r k:=fun l h=>by simp only [zcv,List.mem_map,List.mem_range];exact ⟨l,h,rfl⟩
 have X2:det (j::k::zdz k) ((zcv r k++[bord r k (r k)])++[bord r k v])=lead r k*(lead r k*bord r (k+1) v j):=by
  rw [qfx r k v]
  rw [hl (zcv r k++[bord r k (r k)]) [] (lead r k) (-1) v (comb (cof (det (zdz k)) [] (zcv r k) v) r k)]
  rw [zxx hl ha _ r (L1:=zcv r k++[bord r k (r k)]) (L2:=[]) k (fun l h=>by simp [hm l h])]
  rw [qD,qfx r k (r k)]
  show lead r k*det (j::k::zdz k) (zcv r k++(fun j=>lead r k*(r k) j+(-1)*comb (cof (det (zdz k)) [] (zcv r k) (r k)) r k j)::[v])+_=_
  rw [hl (zcv r k) [v] (lead r k) (-1) (r k) (comb (cof (det (zdz k)) [] (zcv r k) (r k)) r k)]
  rw [zxx hl ha _ r (L1:=zcv r k) (L2:=[v]) k hm]
  have:bord r (k+1) v j=det (j::k::zdz k) (zcv r k++r k::[v]):=by
   unfold bord
   rw [zoz,qD];rfl
  rw [this]
  grind
 rw [X1] at X2
 grind
theorem zxy {r:Nat→Row}:∀(k:Nat),(∀i,i≤k→lead r i≠0)→(∀v c,c<k→bord r k v c=0)∧∀v j,lead r k*bord r (k+1) v j=bord r k (r k) k*bord r k v j-bord r k v k*bord r k (r k) j:=by
 have canc:∀{a x y:Int},a≠0→a*a*x=a*y→a*x=y:=by
  intro a x y ha h
  rw [Int.mul_assoc] at h
  exact qB ha h
 intro k
 induction k with
 | zero=>intro h;exact ⟨fun v c hc=>absurd hc (by omega),fun v j=>canc (h 0 (by omega)) (zti (fun v c hc=>absurd hc (by omega)) v j)⟩
 | succ k ih=>
  intro h
  obtain ⟨h1,h2⟩:=ih (fun i hi=>h i (by omega))
  have hz:∀v c,c<k+1→bord r (k+1) v c=0:=by
   intro v c hc
   have e:=h2 v c
   have:lead r k*bord r (k+1) v c=0:=by
    rw [e]
    rcases qV c k with hlt | hge
    ·rw [h1 v c hlt,h1 (r k) c hlt];simp
    ·have:c=k:=by omega
     subst this
     grind
   rcases Int.mul_eq_zero.1 this with h0 | h0
   ·exact absurd h0 (h k (by omega))
   ·exact h0
  exact ⟨hz,fun v j=>canc (h (k+1) (by omega)) (zti hz v j)⟩
def stg (a:Nat→Row) (k i j:Nat):Int:=bord a k (a i) j
theorem zdm (a:Nat→Row) (i j:Nat):stg a 0 i j=a i j:=by
 show zbz (det []) j [] [a i]=_
 simp [zbz,sg,det]
theorem zaz (a:Nat→Row):lead a 0=1:=rfl
theorem zay (a:Nat→Row) (k:Nat):lead a (k+1)=stg a k k k:=qfw a k
theorem zbs {a:Nat→Row} {k:Nat} (h:∀i,i≤k→lead a i≠0) (i j:Nat):lead a k*stg a (k+1) i j=lead a (k+1)*stg a k i j-stg a k i k*stg a k k j:=by
 rw [zay];exact (zxy k h).2 (a i) j
theorem zra {a:Nat→Row} {k:Nat} (h:∀i,i≤k→lead a i≠0) (i c:Nat) (hc:c<k):stg a k i c=0:=(zxy k h).1 (a i) c hc
theorem zgm {a:Nat→Row} {n:Nat} (hs:∀i j,i<n→j<n→a i j=a j i):∀k,k<n→(∀i,i≤k→lead a i≠0)→∀i j,i<n→j<n→k≤i→k≤j→stg a k i j=stg a k j i:=by
 intro k
 induction k with
 | zero=>intro _ _ i j hi hj _ _;rw [zdm,zdm];exact hs i j hi hj
 | succ k ih=>
  intro hk h i j hi hj h1 h2
  have h':∀i,i≤k→lead a i≠0:=fun i hi=>h i (by omega)
  have e1:=zbs h' i j
  have e2:=zbs h' j i
  have s1:=ih (by omega) h' i j hi hj (by omega) (by omega)
  have s2:=ih (by omega) h' i k hi (by omega) (by omega) (by omega)
  have s3:=ih (by omega) h' k j (by omega) hj (by omega) (by omega)
  refine qB (h' k (by omega)) ?_
  rw [e1,e2,s1,s2,s3]
  grind
theorem qvq {x d:Int} (h1:x≤d) (h2: -d≤x):x*x≤d*d:=by
 have h:=qW (show 0≤d-x by omega) (show 0≤d+x by omega)
 have e:(d-x)*(d+x)=d*d-x*x:=by grind
 omega
theorem znj {x y a b:Int} (h1:x≤a) (h2: -a≤x) (h3:y≤b) (h4: -b≤y):x*y≤a*b∧ -(a*b)≤x*y:=by
 have ha:0≤a:=by omega
 have p1:=qW (show 0≤a-x by omega) (show 0≤b+y by omega)
 have p2:=qW (show 0≤a+x by omega) (show 0≤b-y by omega)
 have p3:=qW (show 0≤a-x by omega) (show 0≤b-y by omega)
 have p4:=qW (show 0≤a+x by omega) (show 0≤b+y by omega)
 have e1:(a-x)*(b+y)+(a+x)*(b-y)=2*(a*b)-2*(x*y):=by grind
 have e2:(a-x)*(b-y)+(a+x)*(b+y)=2*(a*b)+2*(x*y):=by grind
 omega
structure Red (n:Nat) (a:Nat→Row):Prop where
 n1:1≤n
 n8:n≤8
 sym:∀i j,i<n→j<n→a i j=a j i
 pos:∀k,k<n→0<lead a (k+1)
 small:lead a n≤10000
 sized:∀i j,i<n→j<i→2*stg a j i j≤lead a (j+1)∧ -(2*stg a j i j)≤lead a (j+1)
 lov:∀i,0<i→i<n→3*(lead a i*lead a i)≤4*(lead a (i-1)*lead a (i+1)+stg a (i-1) i (i-1)*stg a (i-1) i (i-1))
theorem Red.pos' {n:Nat} {a:Nat→Row} (h:Red n a):∀k,k≤n→0<lead a k:=by
 intro k hk
 cases k with
 | zero=>rw [zaz];decide
 | succ k=>exact h.pos k (by omega)
theorem Red.ne {n:Nat} {a:Nat→Row} (h:Red n a) {k:Nat} (hk:k≤n):∀i,i≤k→lead a i≠0:=fun i hi=>by have:=h.pos' i (by omega);omega
theorem Red.conv {n:Nat} {a:Nat→Row} (h:Red n a) {i:Nat} (h0:0<i) (hi:i<n):lead a i*lead a i≤2*(lead a (i-1)*lead a (i+1)):=by
 obtain ⟨s1,s2⟩:=h.sized i (i-1) hi (by omega)
 have e:i-1+1=i:=by omega
 rw [e] at s1 s2
 have l:=h.lov i h0 hi
 have q:=qvq s1 (by omega)
 have e2:2*stg a (i-1) i (i-1)*(2*stg a (i-1) i (i-1))=4*(stg a (i-1) i (i-1)*stg a (i-1) i (i-1)):=by grind
 omega
theorem Red.pow {n:Nat} {a:Nat→Row} (h:Red n a):∀k,k<n→(lead a k).toNat^(k+1)≤2^(k*(k+1)/2)*(lead a (k+1)).toNat^k:=by
 intro k
 induction k with
 | zero=>intro _;rw [zaz];simp
 | succ k ih=>
  intro hk
  have c:=h.conv (i:=k+1) (by omega) hk
  have p0:=h.pos' k (by omega)
  have p1:=h.pos' (k+1) (by omega)
  have p2:=h.pos' (k+1+1) (by omega)
  have e0:k+1-1=k:=by omega
  rw [e0] at c
  obtain ⟨x,hx⟩:∃x:Nat,lead a k=x:=⟨(lead a k).toNat,by omega⟩
  obtain ⟨y,hy⟩:∃x:Nat,lead a (k+1)=x:=⟨(lead a (k+1)).toNat,by omega⟩
  obtain ⟨z,hz⟩:∃x:Nat,lead a (k+1+1)=x:=⟨(lead a (k+1+1)).toNat,by omega⟩
  have ih:=ih (by omega)
  rw [hx,hy] at ih
  rw [hx,hy,hz] at c
  rw [hy,hz]
  simp only [qT] at ih ⊢
  have c':y*y≤2*(x*z):=by
   have:((y*y:Nat):Int)≤((2*(x*z):Nat):Int):=by simpa using c
   omega
  have hy0:0<y:=by omega
  have q1:(y*y)^(k+1)≤(2*(x*z))^(k+1):=xB c' _
  rw [yG,yG,yG] at q1
  have q2:2^(k+1)*(x^(k+1)*z^(k+1))≤2^(k+1)*((2^(k*(k+1)/2)*y^k)*z^(k+1)):=qO _ (Nat.mul_le_mul_right _ ih)
  have q3:=xX q1 q2
  have ee:(k+1)*(k+1+1)/2=k*(k+1)/2+(k+1):=by
   have:(k+1)*(k+1+1)=k*(k+1)+(k+1)*2:=by grind
   rw [this,Nat.add_mul_div_right _ _ (by decide)]
  rw [ee,Nat.pow_add 2]
  have e1:y^(k+1)*y^(k+1)=y^k*y^(k+1+1):=by rw [yY y (k+1),yY y k];grind
  have e2:2^(k+1)*((2^(k*(k+1)/2)*y^k)*z^(k+1))=y^k*(2^(k*(k+1)/2)*2^(k+1)*z^(k+1)):=by grind
  rw [e1,e2] at q3
  exact Nat.le_of_mul_le_mul_left q3 (Nat.pow_pos hy0)
theorem Red.step {n:Nat} {a:Nat→Row} (h:Red n a) {k X Y:Nat} (hk:k<n) (hY:lead a (k+1)≤Y) (hX:2^(k*(k+1)/2)*Y^k<(X+1)^(k+1)):lead a k≤X:=by
 have p:=h.pow k hk
 have p0:=h.pos' k (by omega)
 have p1:=h.pos' (k+1) (by omega)
 have h1:(lead a (k+1)).toNat≤Y:=by omega
 have h2:(lead a k).toNat^(k+1)<(X+1)^(k+1):=xD (xX p (qO _ (xB h1 _))) hX
 have h3:(lead a k).toNat<X+1:=yC fun h4=>yJ _ (Nat.lt_of_lt_of_le h2 (xB h4 _))
 omega
theorem Red.bnd1 {a:Nat→Row} (h:Red 1 a):∀k,k<1→lead a k≤65535:=by
 have b1:lead a 1≤(10000:Nat):=h.small
 have b0:lead a 0≤(1:Nat):=by rw [zaz];decide
 intro k hk
 match k,hk with
 | 0,_=>omega
 | k+1,hk=>exact absurd hk (by omega)
theorem Red.bnd2 {a:Nat→Row} (h:Red 2 a):∀k,k<2→lead a k≤65535:=by
 have b2:lead a 2≤(10000:Nat):=h.small
 have b1:lead a 1≤(141:Nat):=h.step (k:=1) (X:=141) (Y:=10000) (by decide) b2 (by decide)
 have b0:lead a 0≤(1:Nat):=by rw [zaz];decide
 intro k hk
 match k,hk with
 | 0,_=>omega
 | 1,_=>omega
 | k+2,hk=>exact absurd hk (by omega)
theorem Red.bnd3 {a:Nat→Row} (h:Red 3 a):∀k,k<3→lead a k≤65535:=by
 have b3:lead a 3≤(10000:Nat):=h.small
 have b2:lead a 2≤(928:Nat):=h.step (k:=2) (X:=928) (Y:=10000) (by decide) b3 (by decide)
 have b1:lead a 1≤(43:Nat):=h.step (k:=1) (X:=43) (Y:=928) (by decide) b2 (by decide)
 have b0:lead a 0≤(1:Nat):=by rw [zaz];decide
 intro k hk
 match k,hk with
 | 0,_=>omega
 | 1,_=>omega
 | 2,_=>omega
 | k+3,hk=>exact absurd hk (by omega)
theorem Red.bnd4 {a:Nat→Row} (h:Red 4 a):∀k,k<4→lead a k≤65535:=by
 have b4:lead a 4≤(10000:Nat):=h.small
 have b3:lead a 3≤(2828:Nat):=h.step (k:=3) (X:=2828) (Y:=10000) (by decide) b4 (by decide)
 have b2:lead a 2≤(399:Nat):=h.step (k:=2) (X:=399) (Y:=2828) (by decide) b3 (by decide)
 have b1:lead a 1≤(28:Nat):=h.step (k:=1) (X:=28) (Y:=399) (by decide) b2 (by decide)
 have b0:lead a 0≤(1:Nat):=by rw [zaz];decide
 intro k hk
 match k,hk with
 | 0,_=>omega
 | 1,_=>omega
 | 2,_=>omega
 | 3,_=>omega
 | k+4,hk=>exact absurd hk (by omega)
theorem Red.bnd5 {a:Nat→Row} (h:Red 5 a):∀k,k<5→lead a k≤65535:=by
 have b5:lead a 5≤(10000:Nat):=h.small
 have b4:lead a 4≤(6339:Nat):=h.step (k:=4) (X:=6339) (Y:=10000) (by decide) b5 (by decide)
 have b3:lead a 3≤(2009:Nat):=h.step (k:=3) (X:=2009) (Y:=6339) (by decide) b4 (by decide)
 have b2:lead a 2≤(318:Nat):=h.step (k:=2) (X:=318) (Y:=2009) (by decide) b3 (by decide)
 have b1:lead a 1≤(25:Nat):=h.step (k:=1) (X:=25) (Y:=318) (by decide) b2 (by decide)
 have b0:lead a 0≤(1:Nat):=by rw [zaz];decide
 intro k hk
 match k,hk with
 | 0,_=>omega
 | 1,_=>omega
 | 2,_=>omega
 | 3,_=>omega
 | 4,_=>omega
 | k+5,hk=>exact absurd hk (by omega)
theorem Red.bnd6 {a:Nat→Row} (h:Red 6 a):∀k,k<6→lead a k≤65535:=by
 have b6:lead a 6≤(10000:Nat):=h.small
 have b5:lead a 5≤(12187:Nat):=h.step (k:=5) (X:=12187) (Y:=10000) (by decide) b6 (by decide)
 have b4:lead a 4≤(7426:Nat):=h.step (k:=4) (X:=7426) (Y:=12187) (by decide) b5 (by decide)
 have b3:lead a 3≤(2262:Nat):=h.step (k:=3) (X:=2262) (Y:=7426) (by decide) b4 (by decide)
 have b2:lead a 2≤(344:Nat):=h.step (k:=2) (X:=344) (Y:=2262) (by decide) b3 (by decide)
 have b1:lead a 1≤(26:Nat):=h.step (k:=1) (X:=26) (Y:=344) (by decide) b2 (by decide)
 have b0:lead a 0≤(1:Nat):=by rw [zaz];decide
 intro k hk
 match k,hk with
 | 0,_=>omega
 | 1,_=>omega
 | 2,_=>omega
 | 3,_=>omega
 | 4,_=>omega
 | 5,_=>omega
 | k+6,hk=>exact absurd hk (by omega)
theorem Red.bnd7 {a:Nat→Row} (h:Red 7 a):∀k,k<7→lead a k≤65535:=by
 have b7:lead a 7≤(10000:Nat):=h.small
 have b6:lead a 6≤(21461:Nat):=h.step (k:=6) (X:=21461) (Y:=10000) (by decide) b7 (by decide)
 have b5:lead a 5≤(23029:Nat):=h.step (k:=5) (X:=23029) (Y:=21461) (by decide) b6 (by decide)
 have b4:lead a 4≤(12356:Nat):=h.step (k:=4) (X:=12356) (Y:=23029) (by decide) b5 (by decide)
 have b3:lead a 3≤(3314:Nat):=h.step (k:=3) (X:=3314) (Y:=12356) (by decide) b4 (by decide)
 have b2:lead a 2≤(444:Nat):=h.step (k:=2) (X:=444) (Y:=3314) (by decide) b3 (by decide)
 have b1:lead a 1≤(29:Nat):=h.step (k:=1) (X:=29) (Y:=444) (by decide) b2 (by decide)
 have b0:lead a 0≤(1:Nat):=by rw [zaz];decide
 intro k hk
 match k,hk with
 | 0,_=>omega
 | 1,_=>omega
 | 2,_=>omega
 | 3,_=>omega
 | 4,_=>omega
 | 5,_=>omega
 | 6,_=>omega
 | k+7,hk=>exact absurd hk (by omega)
theorem Red.bnd8 {a:Nat→Row} (h:Red 8 a):∀k,k<8→lead a k≤65535:=by
 have b8:lead a 8≤(10000:Nat):=h.small
 have b7:lead a 7≤(35777:Nat):=h.step (k:=7) (X:=35777) (Y:=10000) (by decide) b8 (by decide)
 have b6:lead a 6≤(63999:Nat):=h.step (k:=6) (X:=63999) (Y:=35777) (by decide) b7 (by decide)
 have b5:lead a 5≤(57242:Nat):=h.step (k:=5) (X:=57242) (Y:=63999) (by decide) b6 (by decide)
 have b4:lead a 4≤(25599:Nat):=h.step (k:=4) (X:=25599) (Y:=57242) (by decide) b5 (by decide)
 have b3:lead a 3≤(5724:Nat):=h.step (k:=3) (X:=5724) (Y:=25599) (by decide) b4 (by decide)
 have b2:lead a 2≤(639:Nat):=h.step (k:=2) (X:=639) (Y:=5724) (by decide) b3 (by decide)
 have b1:lead a 1≤(35:Nat):=h.step (k:=1) (X:=35) (Y:=639) (by decide) b2 (by decide)
 have b0:lead a 0≤(1:Nat):=by rw [zaz];decide
 intro k hk
 match k,hk with
 | 0,_=>omega
 | 1,_=>omega
 | 2,_=>omega
 | 3,_=>omega
 | 4,_=>omega
 | 5,_=>omega
 | 6,_=>omega
 | 7,_=>omega
 | k+8,hk=>exact absurd hk (by omega)
theorem Red.minor {n:Nat} {a:Nat→Row} (h:Red n a) {k:Nat} (hk:k≤n):lead a k≤65535:=by
 rcases qV k n with hlt | hge
 ·have h1:=h.n1
  have h8:=h.n8
  match n,h1,h8 with
  | 1,_,_=>exact h.bnd1 k hlt
  | 2,_,_=>exact h.bnd2 k hlt
  | 3,_,_=>exact h.bnd3 k hlt
  | 4,_,_=>exact h.bnd4 k hlt
  | 5,_,_=>exact h.bnd5 k hlt
  | 6,_,_=>exact h.bnd6 k hlt
  | 7,_,_=>exact h.bnd7 k hlt
  | 8,_,_=>exact h.bnd8 k hlt
  | n+9,_,h=>exact absurd h (by omega)
 ·have:k=n:=by omega
  rw [this]
  have:=h.small
  omega
theorem back {d e x y u v C:Int} (hd:1≤d) (he:1≤e) (he2:e≤65536) (h:d*y=e*x-u*v) (hy1:y≤e*C) (hy2: -(e*C)≤y) (hu1:2*u≤e) (hu2: -(2*u)≤e) (hv1:2*v≤e) (hv2: -(2*v)≤e):
  x≤d*(C+16384)∧ -(d*(C+16384))≤x:=by
 have m:=znj (x:=2*u) (y:=2*v) hu1 (by omega) hv1 (by omega)
 have e4:2*u*(2*v)=4*(u*v):=by grind
 rw [e4] at m
 have k1:d*y≤d*(e*C):=qX hy1 (by omega)
 have k2:d*(-(e*C))≤d*y:=qX hy2 (by omega)
 have k3:e*e≤e*(d*65536):=qX (by omega) (by omega)
 have c1:e*x≤e*(d*(C+16384)):=by
  have:e*(d*(C+16384))=d*(e*C)+e*d*16384:=by grind
  have t:e*(d*65536)=4*(e*d*16384):=by grind
  omega
 have c2:e*(-(d*(C+16384)))≤e*x:=by
  have:e*(-(d*(C+16384)))=d*(-(e*C))-e*d*16384:=by grind
  have t:e*(d*65536)=4*(e*d*16384):=by grind
  omega
 exact ⟨qU c1 (by omega),qU c2 (by omega)⟩
theorem Red.stage {n:Nat} {a:Nat→Row} (h:Red n a) {i j:Nat} (hi:i<n) (hj:j≤i):∀m k,k+m=j→stg a k i j≤lead a k*(65536+16384*(m:Int))∧ -(lead a k*(65536+16384*(m:Int)))≤stg a k i j:=by
 intro m
 induction m with
 | zero=>
  intro k hk
  have:k=j:=by omega
  subst this
  have p:=h.pos' k (by omega)
  have b1:=h.minor (k:=k+1) (by omega)
  have p1:=h.pos' (k+1) (by omega)
  have q:(65536:Int)≤lead a k*(65536+16384*((0:Nat):Int)):=by
   have:1*65536≤lead a k*65536:=qJ (by omega) (by decide)
   simpa using this
  rcases qV k i with hlt | hge
  ·obtain ⟨s1,s2⟩:=h.sized i k hi hlt
   omega
  ·have:k=i:=by omega
   subst this
   rw [←zay]
   omega
 | succ m ih=>
  intro k hk
  have p:=h.pos' k (by omega)
  have p1:=h.pos' (k+1) (by omega)
  have b1:=h.minor (k:=k+1) (by omega)
  obtain ⟨y1,y2⟩:=ih (k+1) (by omega)
  have hn:=h.ne (k:=k) (by omega)
  have e:=zbs hn i j
  obtain ⟨u1,u2⟩:=h.sized i k hi (by omega)
  obtain ⟨v1,v2⟩:=h.sized j k (by omega) (by omega)
  rw [zgm h.sym k (by omega) hn k j (by omega) (by omega) (by omega) (by omega)] at e
  have:=back (by omega) (by omega) (by omega) e y1 y2 u1 u2 v1 v2
  have c:(65536+16384*(m:Int)+16384)=65536+16384*((m+1:Nat):Int):=by omega
  rw [c] at this
  exact this
theorem Red.entry {n:Nat} {a:Nat→Row} (h:Red n a) {i j:Nat} (hi:i<n) (hj:j<n):a i j≤180224∧ -180224≤a i j:=by
 have key:∀i j,i<n→j≤i→a i j≤180224∧ -180224≤a i j:=by
  intro i j hi hj
  have:=h.stage hi hj j 0 (by omega)
  rw [zdm,zaz] at this
  have h8:=h.n8
  omega
 rcases Nat.le_total j i with h1 | h1
 ·exact key i j hi h1
 ·rw [h.sym i j hi hj];exact key j i hj h1
theorem qvr {d e x y u v C:Int} (hd:1≤d) (he:1≤e) (he2:e≤65536) (h:d*y=e*x-u*v) (hx1:x≤d*C) (hx2: -(d*C)≤x) (hu1:2*u≤e) (hu2: -(2*u)≤e) (hv1:2*v≤e) (hv2: -(2*v)≤e):
  y≤e*(C+16384)∧ -(e*(C+16384))≤y:=by
 have m:=znj (x:=2*u) (y:=2*v) hu1 (by omega) hv1 (by omega)
 have e4:2*u*(2*v)=4*(u*v):=by grind
 rw [e4] at m
 have k1:e*x≤e*(d*C):=qX hx1 (by omega)
 have k2:e*(-(d*C))≤e*x:=qX hx2 (by omega)
 have k3:e*e≤e*(d*65536):=qX (by omega) (by omega)
 have c1:d*y≤d*(e*(C+16384)):=by
  have:d*(e*(C+16384))=e*(d*C)+e*d*16384:=by grind
  have t:e*(d*65536)=4*(e*d*16384):=by grind
  omega
 have c2:d*(-(e*(C+16384)))≤d*y:=by
  have:d*(-(e*(C+16384)))=e*(-(d*C))-e*d*16384:=by grind
  have t:e*(d*65536)=4*(e*d*16384):=by grind
  omega
 exact ⟨qU c1 (by omega),qU c2 (by omega)⟩
end Go.Det
namespace Go.Proofs.YtpflahgcdgdkjaaGreatDoor
open List renaming getD_eq_getElem?_getD → qQ, getElem?_eq_getElem → qY, getElem?_append_right → qC, length_append → qN, getElem?_append_left → qP, getElem?_set_self → qR, getElem?_eq_none → qS, getElem?_set_ne → xU, getElem?_map → yU, length_set → yM
open Nat renaming le_refl → qK, lt_or_ge → qV, mul_le_mul_left → qO, le_trans → xX, sub_self → xK, lt_of_le_of_lt → xD, mul_le_mul → xE, lt_irrefl → yJ, zero_le → yH
open Option renaming bind_some → qA, bind_eq_some_iff → qG, map_some → yN
open Option.some renaming injEq → qI
set_option linter.unusedSimpArgs false
set_option linter.unusedVariables false
open Go Go.AL Go.Det
structure Shp (n:Nat) (M:List (List Int)):Prop where
 len:M.length=n
 row:∀i,i<n→(M.getD i []).length=n
theorem zhh {α:Type} {l:List α} {i j:Nat} {x d:α} (hi:i<l.length):(l.set i x).getD j d=if j=i then x else l.getD j d:=by
 rw [qQ]
 by_cases h:j=i
 ·subst h;rw [qR hi,if_pos rfl];rfl
 ·rw [xU (fun e=>h e.symm),if_neg h,qQ]
theorem Shp.set {n:Nat} {M:List (List Int)} (h:Shp n M) {i j:Nat} {z:Int} (hi:i<n):Shp n (setM M i j z):=by
 refine ⟨by rw [zcn];exact h.len,fun i' hi'=>?_⟩
 unfold setM
 rw [zhh (by rw [h.len];exact hi)]
 split
 ·rw [yM];exact h.row i hi
 ·exact h.row i' hi'
theorem Shp.ent_set {n:Nat} {M:List (List Int)} (h:Shp n M) {i j:Nat} {z:Int} (hi:i<n) (hj:j<n) (i' l:Nat):ent (setM M i j z) i' l=if i'=i∧l=j then z else ent M i' l:=by
 unfold ent setM
 rw [zhh (by rw [h.len];exact hi)]
 by_cases h1:i'=i
 ·subst h1
  rw [if_pos rfl,zhh (by rw [h.row i' hi];exact hj)]
  by_cases h2:l=j
  ·rw [if_pos h2,if_pos ⟨rfl,h2⟩]
  ·rw [if_neg h2,if_neg (fun e=>h2 e.2)]
 ·rw [if_neg h1,if_neg (fun e=>h1 e.1)]
theorem zxz {B n k i:Nat} {last:Int} (hki:k<i) (hi:i<n):∀(m j:Nat) (M fin:List (List Int)),Shp n M→k<j→j+m≤n→elJ B k i last m j M=some fin→
  Shp n fin∧∀i' l,ent fin i' l=if i'=i∧j≤l∧l<j+m then (ent M k k*ent M i l-ent M i k*ent M k l)/last else ent M i' l:=by
 intro m
 induction m with
 | zero=>
  intro j M fin h _ _ he
  simp only [elJ,qI] at he
  subst he
  refine ⟨h,fun i' l=>?_⟩
  rw [if_neg (by omega)]
 | succ m ih=>
  intro j M fin h hj hm he
  simp only [elJ,qG] at he
  obtain ⟨z,hz,he⟩:=he
  obtain ⟨_,_,_,_,_,hz,_⟩:=zta hz
  obtain ⟨h1,h2⟩:=ih (j+1) _ _ (h.set hi) (by omega) (by omega) he
  refine ⟨h1,fun i' l=>?_⟩
  have es:=fun i' l=>h.ent_set (i:=i) (j:=j) (z:=z) hi (by omega) i' l
  rw [h2 i' l,es k k,es i l,es i k,es k l,es i' l]
  by_cases c1:i'=i∧j+1≤l∧l<j+1+m
  ·rw [if_pos c1,if_neg (by omega),if_neg (by omega),if_neg (by omega),if_neg (by omega),if_pos (by omega)]
  ·rw [if_neg c1]
   by_cases c2:i'=i∧l=j
   ·rw [if_pos c2,if_pos (by omega),c2.2];exact hz
   ·rw [if_neg c2,if_neg (by omega)]
theorem zya {B n k:Nat} {last:Int}:∀(m i:Nat) (M fin:List (List Int)),Shp n M→k<i→i+m=n→elI B n k last m i M=some fin→
  Shp n fin∧∀i' l,ent fin i' l=if i≤i'∧i'<n∧k+1≤l∧l<n then (ent M k k*ent M i' l-ent M i' k*ent M k l)/last else ent M i' l:=by
 intro m
 induction m with
 | zero=>
  intro i M fin h _ _ he
  simp only [elI,qI] at he
  subst he
  refine ⟨h,fun i' l=>?_⟩
  rw [if_neg (by omega)]
 | succ m ih=>
  intro i M fin h hi hm he
  simp only [elI,qG] at he
  obtain ⟨M1,hM1,he⟩:=he
  obtain ⟨h1,h2⟩:=zxz hi (by omega) (n-(k+1)) (k+1) M M1 h (by omega) (by omega) hM1
  obtain ⟨h3,h4⟩:=ih (i+1) M1 fin h1 (by omega) (by omega) he
  refine ⟨h3,fun i' l=>?_⟩
  rw [h4 i' l,h2 k k,h2 i' l,h2 i' k,h2 k l]
  by_cases c1:i+1≤i'∧i'<n∧k+1≤l∧l<n
  ·rw [if_pos c1,if_neg (by omega),if_neg (by omega),if_neg (by omega),if_neg (by omega),if_pos (by omega)]
  ·rw [if_neg c1]
   by_cases c2:i'=i∧k+1≤l∧l<k+1+(n-(k+1))
   ·rw [if_pos c2,if_pos (by omega),c2.1]
   ·rw [if_neg c2,if_neg (by omega)]
def rowF (M:List (List Int)):Nat→Row:=fun i j=>ent M i j
theorem qfy {B n:Nat} {N:List (List Int)} (hp:∀t,t<n→lead (rowF N) t≠0):∀(m k:Nat) (M:List (List Int)) (last d:Int),k+m=n→Shp n M→(∀i j,k≤i→i<n→k≤j→j<n→ent M i j=stg (rowF N) k i j)→
  last=lead (rowF N) k→detG B n m k M last false=some d→d=lead (rowF N) n:=by
 intro m
 induction m with
 | zero=>
  intro k M last d hk _ _ hl h
  simp only [detG,qI] at h
  have:k=n:=by omega
  subst this
  simp at h
  rw [←h,hl]
 | succ m ih=>
  intro k M last d hk hs he hl h
  have hkk:ent M k k=lead (rowF N) (k+1):=by rw [he k k (qK _) (by omega) (qK _) (by omega),←zay]
  obtain ⟨m',hm'⟩:∃m',n-k=m'+1:=⟨n-k-1,by omega⟩
  by_cases h0:ent M k k=0
  ·
   have hkn:k+1=n:=by
    rcases qV (k+1) n with hlt | hge
    ·exact absurd (hkk.symm.trans h0) (hp (k+1) hlt)
    ·omega
   have hm0:m'=0:=by omega
   have hpv:piv M k (n-k) k=n:=by
    rw [hm',hm0]
    simp only [piv]
    rw [if_pos h0];exact hkn
   simp only [detG] at h
   rw [if_pos hpv,qI] at h
   rw [←h,←hkn,←hkk,h0]
  ·have hpv:piv M k (n-k) k=k:=by
    rw [hm']
    simp only [piv]
    rw [if_neg h0]
   simp only [detG,hpv] at h
   rw [if_neg (by omega),if_neg (yJ _),if_neg (yJ _),qG] at h
   obtain ⟨M2,hM2,h⟩:=h
   obtain ⟨s1,s2⟩:=zya (n-(k+1)) (k+1) M M2 hs (by omega) (by omega) hM2
   have e2:ent M2 k k=lead (rowF N) (k+1):=by rw [s2,if_neg (by omega)];exact hkk
   refine ih (k+1) M2 _ d (by omega) s1 (fun i j hi hin hj hjn=>?_) e2 h
   rw [s2,if_pos ⟨hi,hin,hj,hjn⟩,hkk,hl,he i j (by omega) hin (by omega) hjn,he i k (by omega) hin (qK _) (by omega),he k j (qK _) (by omega) (by omega) hjn]
   have r:=zbs (a:=rowF N) (k:=k) (fun t ht=>hp t (by omega)) i j
   rw [←r,Int.mul_ediv_cancel_left _ (hp k (by omega))]
theorem zhi {B n:Nat} {N:List (List Int)} (hs:Shp n N) (hp:∀t,t<n→lead (rowF N) t≠0) {d:Int} (h:detO B N=some d):d=lead (rowF N) n:=by
 unfold detO at h
 rw [hs.len] at h
 exact qfy hp n 0 N 1 d (by omega) hs (fun i j _ _ _ _=>(zdm (rowF N) i j).symm) rfl h
theorem ztj:∀(cs:List Nat) (R R':List Row),R.length=R'.length→(∀i,i<R.length→∀c∈cs,(R.getD i (fun _=>0)) c=(R'.getD i (fun _=>0)) c)→det cs R=det cs R':=by
 intro cs
 induction cs with
 | nil=>intro R R' hl _;cases R<;>cases R'<;>simp at hl<;>rfl
 | cons c cs ih=>
  intro R R' hl h
  have key:∀(L L' p p':List Row),L.length=L'.length→p.length=p'.length→(∀i,i<L.length→∀x∈c::cs,(L.getD i (fun _=>0)) x=(L'.getD i (fun _=>0)) x)→
    (∀i,i<p.length→∀x∈c::cs,(p.getD i (fun _=>0)) x=(p'.getD i (fun _=>0)) x)→zbz (det cs) c p L=zbz (det cs) c p' L':=by
   intro L
   induction L with
   | nil=>intro L' p p' h1 _ _ _;cases L' with | nil=>rfl | cons _ _=>simp at h1
   | cons v L ihL=>
    intro L' p p' h1 h2 h3 h4
    cases L' with
    | nil=>simp at h1
    | cons v' L'=>
     have hv:∀x∈c::cs,v x=v' x:=fun x hx=>by simpa using h3 0 (by simp) x hx
     have hL:∀i,i<L.length→∀x∈c::cs,(L.getD i (fun _=>0)) x=(L'.getD i (fun _=>0)) x:=fun i hi x hx=>by simpa using h3 (i+1) (by simpa using hi) x hx
     have hll:L.length=L'.length:=by simpa using h1
     simp only [zbz]
     have app:∀(A A' X X':List Row),A.length=A'.length→(∀i,i<A.length→∀x∈c::cs,(A.getD i (fun _=>0)) x=(A'.getD i (fun _=>0)) x)→(∀i,i<X.length→∀x∈c::cs,(X.getD i (fun _=>0)) x=(X'.getD i (fun _=>0)) x)→
       ∀i,i<(A++X).length→∀x∈c::cs,((A++X).getD i (fun _=>0)) x=((A'++X').getD i (fun _=>0)) x:=by
      intro A A' X X' hA k1 k2 i hi x hx
      rw [qQ,qQ]
      rcases qV i A.length with hlt | hge
      ·rw [qP hlt,qP (by omega),←qQ,←qQ]
       exact k1 i hlt x hx
      ·rw [qC hge,qC (by omega),hA,←qQ,←qQ]
       refine k2 (i-A'.length) ?_ x hx
       rw [qN] at hi;omega
     have e1:det cs (p++L)=det cs (p'++L'):=ih _ _ (by simp [h2,hll]) (fun i hi x hx=>app p p' L L' h2 h4 hL i hi x (List.mem_cons_of_mem _ hx))
     have e2:=ihL L' (p++[v]) (p'++[v']) hll (by simp [h2]) hL (app p p' [v] [v'] h2 h4 (fun i hi x hx=>by
      have:i=0:=by simpa using hi
      subst this
      exact hv x hx))
     rw [e1,e2,hll,hv c (by simp)]
  exact key R R' [] [] hl rfl h (fun i hi=>by simp at hi)
theorem qrw {M:List (List Int)} {rs cs:List Nat} {s t:Nat} (hs:s<rs.length) (ht:t<cs.length):ent (selM M rs cs) s t=ent M (rs.getD s 0) (cs.getD t 0):=by
 simp only [ent,selM,selR,qQ,yU,qY hs,qY ht,yN,Option.getD_some]
theorem ztk {j i t:Nat} (h:t<j):(List.range j++[i]).getD t 0=t:=by
 rw [qQ,qP (by simpa using h),List.getElem?_range h];rfl
theorem zpa {j i:Nat}:(List.range j++[i]).getD j 0=i:=by
 rw [qQ,qC (by simp)];simp
theorem zvu {M:List (List Int)} {i j s t:Nat} (hs:s≤j) (ht:t≤j):ent (lamM M i j) s t=ent M (if s=j then i else s) t:=by
 unfold lamM
 rw [qrw (by simp;omega) (by simp;omega)]
 have e:(List.range j++[j]).getD t 0=t:=by
  rcases qV t j with h | h
  ·exact ztk h
  ·have:t=j:=by omega
   rw [this];exact zpa
 rw [e]
 split
 ·rename_i h;rw [h,zpa]
 ·rw [ztk (by omega)]
theorem zvv (M:List (List Int)) (i j:Nat):Shp (j+1) (lamM M i j):=by
 refine ⟨by simp [lamM,selM],fun t ht=>?_⟩
 simp only [lamM,selM,qQ,yU]
 rw [qY (by simpa using ht)]
 simp [selR]
theorem qlw {M:List (List Int)} {i j t:Nat} (ht:t≤j):lead (rowF (lamM M i j)) t=lead (rowF M) t:=by
 unfold lead
 refine ztj _ _ _ (by rw [zbw,zbw]) (fun s hs c hc=>?_)
 rw [zbw] at hs
 have:=zni hc
 rw [zhg _ hs,zhg _ hs]
 show ent (lamM M i j) s c=ent M s c
 rw [zvu (by omega) (by omega),if_neg (by omega)]
theorem qlx {M:List (List Int)} {i j:Nat}:lead (rowF (lamM M i j)) (j+1)=stg (rowF M) j i j:=by
 unfold lead stg bord
 refine ztj _ _ _ (by rw [zbw,qN,zbw];rfl) (fun s hs c hc=>?_)
 rw [zbw] at hs
 have hc:c≤j:=by
  rcases List.mem_cons.1 hc with e | e
  ·omega
  ·have:=zni e;omega
 rw [zhg _ hs]
 show ent (lamM M i j) s c=_
 rw [zvu (by omega) hc,qQ]
 rcases qV s j with h | h
 ·rw [if_neg (by omega),qP (by rw [zbw];exact h),←qQ,zhg _ h];rfl
 ·have:s=j:=by omega
  subst this
  rw [if_pos rfl,qC (by rw [zbw];exact qK _),zbw,xK];rfl
theorem zjt {B i j:Nat} {M:List (List Int)} (hp:∀t,t≤j→lead (rowF M) t≠0) {d:Int} (h:detO B (lamM M i j)=some d):d=stg (rowF M) j i j:=by
 rw [←qlx]
 exact zhi (zvv M i j) (fun t ht=>by rw [qlw (by omega)];exact hp t (by omega)) h
theorem qly (M:List (List Int)) (k:Nat):minK M k=lamM M k k:=rfl
theorem ztl {B:Nat} {M:List (List Int)}:∀{n:Nat} {ds:List Int},zdk B M n=some ds→∀k,k<n→detO B (minK M k)=some (ds.getD k 0):=by
 intro n
 induction n with
 | zero=>intro ds _ k hk;omega
 | succ n ih=>
  intro ds h k hk
  have hpre:=znb (m:=1) h
  have hl:=zda h
  rcases qV k n with hlt | hge
  ·have:=ih hpre k hlt
   rw [this,qQ,qQ,List.getElem?_take_of_lt hlt]
  ·have:k=n:=by omega
   subst this
   simp only [zdk,qG,qI] at h
   obtain ⟨l,h1,h⟩:=h
   have hl1:=zda h1
   obtain ⟨d,h2,d',h3,h⟩:=h
   obtain ⟨rfl,_⟩:=zch h3
   subst h
   rw [qQ,qC (by omega),hl1,xK]
   simpa using h2
theorem qfz {B n:Nat} {M:List (List Int)} {ds:List Int} (h:zdk B M n=some ds):∀k,k≤n→(∀t,t<k→0<ds.getD t 0)→(∀t,t≤k→0<lead (rowF M) t)∧∀t,t<k→ds.getD t 0=lead (rowF M) (t+1):=by
 intro k
 induction k with
 | zero=>intro _ _;exact ⟨fun t ht=>(by
  have e:t=0:=Nat.le_zero.1 ht
  rw [e,zaz]
  decide),fun t ht=>absurd ht (by omega)⟩
 | succ k ih=>
  intro hk hp
  obtain ⟨h1,h2⟩:=ih (by omega) (fun t ht=>hp t (by omega))
  have e:ds.getD k 0=lead (rowF M) (k+1):=by
   have:=zjt (i:=k) (j:=k) (fun t ht=>by have:=h1 t ht;omega) (ztl h k (by omega))
   rw [this,zay]
  refine ⟨fun t ht=>?_,fun t ht=>?_⟩
  ·rcases qV t (k+1) with hlt | hge
   ·exact h1 t (by omega)
   ·have:t=k+1:=by omega
    rw [this,←e];exact hp k (by omega)
  ·rcases qV t k with hlt | hge
   ·exact h2 t hlt
   ·have:t=k:=by omega
    rw [this];exact e
theorem zrb {B n:Nat} {M:List (List Int)} {ds:List Int} (h:zdk B M n=some ds) (hp:∀t,t≤n→0<lead (rowF M) t):∀k,k<n→ds.getD k 0=lead (rowF M) (k+1):=by
 intro k hk
 have:=zjt (i:=k) (j:=k) (fun t ht=>by have:=hp t (by omega);omega) (ztl h k hk)
 rw [this,zay]
theorem znk {ds:List Int}:(ds.all fun d=>decide (0<d))=true↔∀t,t<ds.length→0<ds.getD t 0:=by
 rw [List.all_eq_true]
 constructor
 ·intro h t ht
  rw [qQ,qY ht]
  exact of_decide_eq_true (h _ (List.getElem_mem ht))
 ·intro h d hd
  obtain ⟨t,ht,rfl⟩:=List.mem_iff_getElem.1 hd
  have:=h t ht
  rw [qQ,qY ht] at this
  exact decide_eq_true this
def szP (M:List (List Int)) (i j:Nat):Prop:=2*stg (rowF M) j i j≤lead (rowF M) (j+1)∧ -(2*stg (rowF M) j i j)≤lead (rowF M) (j+1)
def lvP (M:List (List Int)) (i:Nat):Prop:=3*(lead (rowF M) i*lead (rowF M) i)≤4*(lead (rowF M) (i-1)*lead (rowF M) (i+1)+stg (rowF M) (i-1) i (i-1)*stg (rowF M) (i-1) i (i-1))
section
variable {B n:Nat} {M:List (List Int)} {ds:List Int}
theorem zfx (h:zdk B M n=some ds) (hp:∀t,t≤n→0<lead (rowF M) t) {k:Nat} (hk:k≤n):zcf ds k=lead (rowF M) k:=by
 unfold zcf
 split
 ·rename_i e;rw [e,zaz]
 ·rw [zrb h hp (k-1) (by omega)];congr 1;omega
theorem ztm (h:zdk B M n=some ds) (hp:∀t,t≤n→0<lead (rowF M) t) {i j:Nat} (hj:j<n) {b:Bool} (hb:zjn B M ds i j=some b):b=true↔szP M i j:=by
 unfold zjn at hb
 simp only [qG,qI] at hb
 obtain ⟨l,hl,x,hx,rfl⟩:=hb
 have e:=zjt (fun t ht=>by have:=hp t (by omega);omega) (zfw hl).1
 rw [decide_eq_true_eq,zfx h hp (by omega),e]
 unfold szP
 omega
theorem qga (h:zdk B M n=some ds) (hp:∀t,t≤n→0<lead (rowF M) t) {i:Nat} (h0:0<i) (hi:i<n) {b:Bool} (hb:lovO B M ds i=some b):b=true↔lvP M i:=by
 unfold lovO at hb
 simp only [qG,qI] at hb
 obtain ⟨l,hl,p,hp1,q,hq,s,hs,x,hx,r,hr,y,hy,rfl⟩:=hb
 have e:=zjt (fun t ht=>by have:=hp t (by omega);omega) (zfw hl).1
 obtain ⟨rfl,_⟩:=zch hp1
 obtain ⟨rfl,_⟩:=zch hq
 obtain ⟨rfl,_⟩:=zch hs
 obtain ⟨rfl,_⟩:=zch hx
 obtain ⟨rfl,_⟩:=zch hr
 obtain ⟨rfl,_⟩:=zch hy
 rw [decide_eq_true_eq,zfx h hp (by omega),zfx h hp (by omega),zfx h hp (by omega),e]
 exact Iff.rfl
theorem qlz (h:zdk B M n=some ds) (hp:∀t,t≤n→0<lead (rowF M) t) {i:Nat}:∀(m j:Nat) {b:Bool},j+m≤n→redJ B M ds i m j=some b→(b=true↔∀j',j≤j'→j'<j+m→szP M i j'):=by
 intro m
 induction m with
 | zero=>
  intro j b _ hb
  simp only [redJ,qI] at hb
  exact ⟨fun _ j' h1 h2=>absurd h2 (by omega),fun _=>hb.symm⟩
 | succ m ih=>
  intro j b hn hb
  simp only [redJ,qG] at hb
  obtain ⟨b1,h1,h2⟩:=hb
  have k1:=ztm h hp (by omega) h1
  cases b1 with
  | false=>
   simp at h2
   subst h2
   refine ⟨fun e=>by simp at e,fun e=>?_⟩
   have:=k1.2 (e j (qK _) (by omega))
   simp at this
  | true=>
   simp only [if_true] at h2
   have k2:=ih (j+1) (by omega) h2
   rw [k2]
   constructor
   ·intro e j' g1 g2
    rcases qV j j' with hlt | hge
    ·exact e j' (by omega) (by omega)
    ·have:j'=j:=by omega
     rw [this];exact k1.1 rfl
   ·intro e j' g1 g2;exact e j' (by omega) (by omega)
theorem zyb (h:zdk B M n=some ds) (hp:∀t,t≤n→0<lead (rowF M) t):∀(m i:Nat) {b:Bool},i+m=n→redI B M ds m i=some b→(b=true↔∀i',i≤i'→i'<n→(∀j,j<i'→szP M i' j)∧(0<i'→lvP M i')):=by
 intro m
 induction m with
 | zero=>
  intro i b hi hb
  simp only [redI,qI] at hb
  exact ⟨fun _ i' h1 h2=>absurd h2 (by omega),fun _=>hb.symm⟩
 | succ m ih=>
  intro i b hi hb
  simp only [redI,qG] at hb
  obtain ⟨b1,h1,h2⟩:=hb
  have k1:=qlz h hp i 0 (by omega) h1
  cases b1 with
  | false=>
   simp at h2
   subst h2
   refine ⟨fun e=>by simp at e,fun e=>?_⟩
   have:=k1.2 (fun j' _ h2=>(e i (qK _) (by omega)).1 j' (by omega))
   simp at this
  | true=>
   have k1':∀j,j<i→szP M i j:=fun j hj=>k1.1 rfl j (yH _) (by omega)
   rw [if_neg (by decide)] at h2
   have fin:∀{b:Bool},(0<i→lvP M i)→redI B M ds m (i+1)=some b→(b=true↔∀i',i≤i'→i'<n→(∀j,j<i'→szP M i' j)∧(0<i'→lvP M i')):=by
    intro b hl h3
    rw [ih (i+1) (by omega) h3]
    constructor
    ·intro e i' g1 g2
     rcases qV i i' with hlt | hge
     ·exact e i' (by omega) g2
     ·have:i'=i:=by omega
      rw [this];exact ⟨k1',hl⟩
    ·intro e i' g1 g2;exact e i' (by omega) g2
   by_cases h0:i=0
   ·rw [if_pos h0] at h2
    exact fin (fun h=>absurd h (by omega)) h2
   ·rw [if_neg h0,qG] at h2
    obtain ⟨b2,h3,h4⟩:=h2
    have k2:=qga h hp (by omega) (by omega) h3
    cases b2 with
    | true=>exact fin (fun _=>k2.1 rfl) (by simpa using h4)
    | false=>
     simp at h4
     subst h4
     refine ⟨fun e=>by simp at e,fun e=>?_⟩
     have:=k2.2 ((e i (qK _) (by omega)).2 (by omega))
     simp at this
theorem zlu (hs:Shp n M):symB M=true↔∀i j,i<n→j<n→rowF M i j=rowF M j i:=by
 rw [znc,hs.len]
 constructor
 ·intro h i j hi hj
  rcases qV j i with h1 | h1
  ·exact h i hi j h1
  ·rcases qV i j with h2 | h2
   ·exact (h j hj i h2).symm
   ·have:i=j:=by omega
    rw [this]
 ·intro h i hi j hj;exact h i j hi (by omega)
theorem qrx (hs:Shp n M) (h1:1≤n) (h8:n≤8) (h:zdk B M n=some ds) {d0:Int} (hd:detO B M=some d0):
  (valZ M ds=0∧d0≤10000∧∃b,redI B M ds n 0=some b∧b=true)→Red n (rowF M):=by
 rintro ⟨hv,hd0,b,hb,hbt⟩
 have hsy:symB M=true:=by
  unfold valZ at hv
  cases e:symB M with
  | true=>rfl
  | false=>rw [e] at hv;simp at hv
 have hdf:defB M ds=true:=by
  unfold valZ at hv
  rw [hsy] at hv
  cases e:defB M ds with
  | true=>rfl
  | false=>rw [e] at hv;simp at hv
 unfold defB at hdf
 rw [hsy,Bool.true_and,znk,zda h] at hdf
 obtain ⟨hp,_⟩:=qfz h n (qK _) hdf
 have hr:=(zyb h hp n 0 (by omega) hb).1 hbt
 have hdet:d0=lead (rowF M) n:=zhi hs (fun t ht=>by have:=hp t (by omega);omega) hd
 exact ⟨h1,h8,(zlu hs).1 hsy,fun k hk=>hp (k+1) (by omega),by omega,fun i j hi hj=>(hr i (yH _) hi).1 j hj,fun i h0 hi=>(hr i (yH _) hi).2 h0⟩
theorem qry (hs:Shp n M) (h:zdk B M n=some ds) {d0:Int} (hd:detO B M=some d0) (hr:Red n (rowF M)):
  valZ M ds=0∧d0≤10000∧∀b,redI B M ds n 0=some b→b=true:=by
 have hp:=hr.pos'
 have hsy:=(zlu hs).2 hr.sym
 have hdf:defB M ds=true:=by
  unfold defB
  rw [hsy,Bool.true_and,znk,zda h]
  intro t ht
  rw [zrb h hp t ht]
  exact hr.pos t ht
 have hdet:d0=lead (rowF M) n:=zhi hs (fun t ht=>by have:=hp t (by omega);omega) hd
 refine ⟨?_,by rw [hdet];exact hr.small,fun b hb=>?_⟩
 ·unfold valZ;rw [hsy,hdf];rfl
 ·exact (zyb h hp n 0 (by omega) hb).2 (fun i' _ hi=>⟨fun j hj=>hr.sized i' j hi hj,fun h0=>hr.lov i' h0 hi⟩)
end
def Bnd (A:Nat) (M:List (List Int)):Prop:= ∀i j,(ent M i j).natAbs≤A
theorem qrz (x y:Int):(x/y).natAbs≤x.natAbs:=Int.natAbs_ediv_le_natAbs x y
theorem zdn {x y:Int} {a b:Nat} (hx:x.natAbs≤a) (hy:y.natAbs≤b):(x*y).natAbs≤a*b:=by
 rw [Int.natAbs_mul];exact xE hx hy
theorem zju {B:Nat} {z:Int} (h:z.natAbs<B):ck B z=some z:=by unfold ck;rw [if_pos h]
section
variable {B n A:Nat}
theorem qvs {k i:Nat} {last:Int} (hki:k<i) (hi:i<n) (hl:last≠0) (hlA:last.natAbs≤A) (hB:2*(A*A)<B) (hA:A<B):∀(m j:Nat) (M:List (List Int)),Shp n M→k<j→j+m≤n→
  (∀i' l,(ent M i' l).natAbs≤2*(A*A))→(∀l,(ent M k l).natAbs≤A)→(∀i',(ent M i' k).natAbs≤A)→(∀l,j≤l→(ent M i l).natAbs≤A)→∃fin,elJ B k i last m j M=some fin∧Shp n fin∧∀i' l,(ent fin i' l).natAbs≤2*(A*A):=by
 intro m
 induction m with
 | zero=>intro j M h _ _ h1 _ _ _;exact ⟨M,rfl,h,h1⟩
 | succ m ih=>
  intro j M h hj hm h1 h2 h3 h4
  have p:=zdn (h2 k) (h4 j (qK _))
  have q:=zdn (h3 i) (h2 j)
  have s:(ent M k k*ent M i j-ent M i k*ent M k j).natAbs≤2*(A*A):=by omega
  have t:=qrz (ent M k k*ent M i j-ent M i k*ent M k j) last
  have hn:newE B M k i j last=some ((ent M k k*ent M i j-ent M i k*ent M k j)/last):=by
   unfold newE
   rw [if_neg hl,zju (by omega),zju (by omega),zju (by omega)]
   simp only [qA]
   rw [zju (by omega)]
   simp only [qA]
   rw [zju (by omega)]
  have es:=fun i' l=>h.ent_set (i:=i) (j:=j) (z:=(ent M k k*ent M i j-ent M i k*ent M k j)/last) hi (by omega) i' l
  simp only [elJ,hn,qA]
  refine ih (j+1) _ (h.set hi) (by omega) (by omega) (fun i' l=>?_) (fun l=>?_) (fun i'=>?_) (fun l hl=>?_)
  ·rw [es];split
   ·omega
   ·exact h1 i' l
  ·rw [es,if_neg (by omega)];exact h2 l
  ·rw [es,if_neg (by omega)];exact h3 i'
  ·rw [es,if_neg (by omega)];exact h4 l (by omega)
theorem qvt {k:Nat} {last:Int} (hl:last≠0) (hlA:last.natAbs≤A) (hB:2*(A*A)<B) (hA:A<B):∀(m i:Nat) (M:List (List Int)),Shp n M→k<i→i+m=n→
  (∀i' l,(ent M i' l).natAbs≤2*(A*A))→(∀l,(ent M k l).natAbs≤A)→(∀i',(ent M i' k).natAbs≤A)→(∀i' l,i≤i'→(ent M i' l).natAbs≤A)→∃fin,elI B n k last m i M=some fin∧Shp n fin∧∀i' l,(ent fin i' l).natAbs≤2*(A*A):=by
 intro m
 induction m with
 | zero=>intro i M h _ _ h1 _ _ _;exact ⟨M,rfl,h,h1⟩
 | succ m ih=>
  intro i M h hi hm h1 h2 h3 h4
  obtain ⟨M1,e1,s1,b1⟩:=qvs hi (by omega) hl hlA hB hA (n-(k+1)) (k+1) M h (by omega) (by omega) h1 h2 h3 (fun l _=>h4 i l (qK _))
  obtain ⟨_,f1⟩:=zxz hi (by omega) (n-(k+1)) (k+1) M M1 h (by omega) (by omega) e1
  simp only [elI,e1,qA]
  refine ih (i+1) M1 s1 (by omega) (by omega) b1 (fun l=>?_) (fun i'=>?_) (fun i' l hi'=>?_)
  ·rw [f1,if_neg (by omega)];exact h2 l
  ·rw [f1,if_neg (by omega)];exact h3 i'
  ·rw [f1,if_neg (by omega)];exact h4 i' l (by omega)
def bndS (A:Nat):Nat→Nat
 | 0=>A
 | k+1=>2*(bndS A k*bndS A k)
theorem zjv {M:List (List Int)} {p k:Nat} (h:Shp n M) (hp:p<n) (hk:k<n):Shp n (zde M p k)∧∀i l,ent (zde M p k) i l=ent M (if i=k then p else if i=p then k else i) l:=by
 have g:∀i,(zde M p k).getD i []=M.getD (if i=k then p else if i=p then k else i) []:=by
  intro i
  unfold zde
  rw [zhh (by rw [yM,h.len];exact hk)]
  split
  ·rfl
  ·rw [zhh (by rw [h.len];exact hp)]
   split<;>rfl
 refine ⟨⟨by simp [zde,h.len],fun i hi=>?_⟩,fun i l=>by unfold ent;rw [g]⟩
 rw [g]
 refine h.row _ ?_
 split
 ·exact hp
 ·split<;>assumption
theorem qsa {A0:Nat} (hA0:1≤A0) (hB:∀k,k≤n→2*(bndS A0 k*bndS A0 k)<B):∀(m k:Nat) (M:List (List Int)) (last:Int) (neg:Bool),k+m=n→Shp n M→Bnd (bndS A0 k) M→last≠0→last.natAbs≤bndS A0 k→
  ∃d,detG B n m k M last neg=some d∧d.natAbs≤bndS A0 n:=by
 have pos:∀k,1≤bndS A0 k:=by
  intro k
  induction k with
  | zero=>exact hA0
  | succ k ih=>have:=xE ih ih;simp only [bndS];omega
 have mono:∀k,bndS A0 k≤bndS A0 (k+1):=by
  intro k
  have:=qO (bndS A0 k) (pos k)
  simp only [bndS];omega
 have monoN:∀m k,bndS A0 k≤bndS A0 (k+m):=by
  intro m
  induction m with
  | zero=>intro k;exact qK _
  | succ m ih=>intro k;exact xX (ih k) (mono (k+m))
 intro m
 induction m with
 | zero=>
  intro k M last neg hk _ _ _ hl
  have:k=n:=by omega
  subst this
  cases neg
  ·exact ⟨last,by simp [detG],hl⟩
  ·exact ⟨-last,by simp [detG],by omega⟩
 | succ m ih=>
  intro k M last neg hk hs hb hl0 hl
  simp only [detG]
  by_cases hpn:piv M k (n-k) k=n
  ·rw [if_pos hpn];exact ⟨0,rfl,by simp⟩
  ·rw [if_neg hpn]
   have hpl:=qop (M:=M) (k:=k) (m:=n-k) (p:=k)
   have hpne:=qvj (M:=M) (k:=k) (m:=n-k) (p:=k) (by omega)
   generalize hpe:piv M k (n-k) k=p at*
   obtain ⟨hs',hb',hne⟩:Shp n (if k<p then zde M p k else M)∧Bnd (bndS A0 k) (if k<p then zde M p k else M)∧ent (if k<p then zde M p k else M) k k≠0:=by
    by_cases hkp:k<p
    ·rw [if_pos hkp]
     obtain ⟨g1,g2⟩:=zjv hs (p:=p) (k:=k) (by omega) (by omega)
     exact ⟨g1,fun i j=>by rw [g2];exact hb _ _,by rw [g2,if_pos rfl];exact hpne⟩
    ·rw [if_neg hkp]
     have:p=k:=by omega
     subst this
     exact ⟨hs,hb,hpne⟩
   generalize (if k<p then zde M p k else M)=M1 at*
   have hB1:=hB k (by omega)
   have hA1:bndS A0 k≤2*(bndS A0 k*bndS A0 k):=mono k
   obtain ⟨M2,e2,s2,b2⟩:=qvt hl0 hl hB1 (by omega) (n-(k+1)) (k+1) M1 hs' (by omega) (by omega) (fun i l=>xX (hb' i l) hA1) (fun l=>hb' k l) (fun i=>hb' i k) (fun i l _=>hb' i l)
   obtain ⟨_,f2⟩:=zya (n-(k+1)) (k+1) M1 M2 hs' (by omega) (by omega) e2
   have ek:ent M2 k k=ent M1 k k:=by rw [f2,if_neg (by omega)]
   rw [e2,qA]
   exact ih (k+1) M2 _ _ (by omega) s2 b2 (by rw [ek];exact hne) (by rw [ek];exact xX (hb' k k) (mono k))
theorem zrc {A0:Nat} {M:List (List Int)} (hA0:1≤A0) (hB:∀k,k≤n→2*(bndS A0 k*bndS A0 k)<B) (hs:Shp n M) (hb:Bnd A0 M):∃d,detO B M=some d∧d.natAbs≤bndS A0 n:=by
 unfold detO
 rw [hs.len]
 exact qsa hA0 hB n 0 M 1 false (by omega) hs hb (by decide) hA0
theorem zjw {A0:Nat} (hA0:1≤A0):∀k,1≤bndS A0 k:=by
 intro k
 induction k with
 | zero=>exact hA0
 | succ k ih=>have:=xE ih ih;simp only [bndS];omega
theorem qgb {A0:Nat} (hA0:1≤A0):∀m k,bndS A0 k≤bndS A0 (k+m):=by
 intro m
 induction m with
 | zero=>intro k;exact qK _
 | succ m ih=>
  intro k
  have:=qO (bndS A0 (k+m)) (zjw hA0 (k+m))
  refine xX (ih k) ?_
  show _≤2*(bndS A0 (k+m)*bndS A0 (k+m))
  omega
structure FitN (N B A0:Nat):Prop where
 one:1≤A0
 fit:8*(bndS A0 N*bndS A0 N)<B
theorem FitN.all {N A0:Nat} (h:FitN N B A0) {k:Nat} (hk:k≤N):bndS A0 k≤bndS A0 N∧2*(bndS A0 k*bndS A0 k)<B:=by
 have m:=qgb h.one (N-k) k
 have e:k+(N-k)=N:=by omega
 rw [e] at m
 have:=xE m m
 have:=h.fit
 exact ⟨m,by omega⟩
theorem FitN.lt {N A0:Nat} (h:FitN N B A0):bndS A0 N<B:=by
 have:=qO (bndS A0 N) (zjw h.one N)
 have:=h.fit
 omega
theorem qsb {A0:Nat} {M:List (List Int)} (hb:Bnd A0 M) (i j:Nat):Bnd A0 (lamM M i j):=by
 intro s t
 rcases qV j s with h | h
 ·have:ent (lamM M i j) s t=0:=by
   unfold ent
   have:(lamM M i j).getD s []=[]:=by
    rw [qQ,qS (by simp [lamM,selM];omega)];rfl
   rw [this];rfl
  rw [this];simp
 ·rcases qV j t with h2 | h2
  ·have:ent (lamM M i j) s t=0:=by
    have hl:=(zvv M i j).row s (by omega)
    unfold ent
    rw [qQ,qS (by omega)];rfl
   rw [this];simp
  ·rw [zvu h h2];exact hb _ _
theorem qot {N A0:Nat} {M:List (List Int)} (hF:FitN N B A0) (hb:Bnd A0 M) {i j:Nat} (hj:j<N):∃d,detO B (lamM M i j)=some d∧d.natAbs≤bndS A0 N:=by
 obtain ⟨d,h1,h2⟩:=zrc (B:=B) hF.one (fun k hk=>(hF.all (k:=k) (by omega)).2) (zvv M i j) (qsb hb i j)
 exact ⟨d,h1,xX h2 (hF.all (k:=j+1) (by omega)).1⟩
theorem zlv {N A0:Nat} {M:List (List Int)} (hF:FitN N B A0) (hb:Bnd A0 M):∀k,k≤N→∃ds,zdk B M k=some ds∧∀z∈ds,z.natAbs≤bndS A0 N:=by
 intro k
 induction k with
 | zero=>intro _;exact ⟨[],rfl,fun z h=>by simp at h⟩
 | succ k ih=>
  intro hk
  obtain ⟨l,h1,h2⟩:=ih (by omega)
  obtain ⟨d,h3,h4⟩:=qot hF hb (i:=k) (j:=k) (by omega)
  refine ⟨l++[d],?_,fun z hz=>?_⟩
  ·simp only [zdk,h1,qA,qly,h3]
   rw [zju (xD h4 hF.lt)];rfl
  ·rcases List.mem_append.1 hz with e | e
   ·exact h2 z e
   ·have:z=d:=by simpa using e
    rw [this];exact h4
theorem zhj {N A0:Nat} (hF:FitN N B A0) {ds:List Int} (h:∀z∈ds,z.natAbs≤bndS A0 N) (k:Nat):(zcf ds k).natAbs≤bndS A0 N:=by
 unfold zcf
 split
 ·exact zjw hF.one N
 ·rw [qQ]
  cases e:ds[k-1]? with
  | none=>simp
  | some z=>exact h z (List.mem_of_getElem? e)
theorem zvw {N A0:Nat} {M:List (List Int)} (hF:FitN N B A0) (hb:Bnd A0 M) {i j:Nat} (hj:j<N):∃l,lamO B M i j=some l∧l.natAbs≤bndS A0 N:=by
 obtain ⟨d,h3,h4⟩:=qot hF hb (i:=i) (j:=j) hj
 refine ⟨d,?_,h4⟩
 unfold lamO
 rw [h3,qA,zju (xD h4 hF.lt)]
theorem ztn {N A0:Nat} {M:List (List Int)} {ds:List Int} (hF:FitN N B A0) (hb:Bnd A0 M) {i j:Nat} (hj:j<N):∃b,zjn B M ds i j=some b:=by
 obtain ⟨l,h1,h2⟩:=zvw hF hb (i:=i) (j:=j) hj
 have:=hF.fit
 have:=qO (bndS A0 N) (zjw hF.one N)
 unfold zjn
 rw [h1,qA,zju (by omega)]
 exact ⟨_,rfl⟩
theorem qgc {N A0:Nat} {M:List (List Int)} {ds:List Int} (hF:FitN N B A0) (hb:Bnd A0 M) (hd:∀z∈ds,z.natAbs≤bndS A0 N) {i:Nat} (hi:i-1<N):∃b,lovO B M ds i=some b:=by
 obtain ⟨l,h1,h2⟩:=zvw hF hb (i:=i) (j:=i-1) hi
 have hf:=hF.fit
 have p:=zdn (zhj hF hd (i-1)) (zhj hF hd (i+1))
 have q:=zdn h2 h2
 have r:=zdn (zhj hF hd i) (zhj hF hd i)
 unfold lovO
 rw [h1,qA,zju (by omega),qA,zju (by omega),qA,zju (by omega),qA,zju (by omega),qA,zju (by omega),qA,zju (by omega)]
 exact ⟨_,rfl⟩
theorem qsc {N A0:Nat} {M:List (List Int)} {ds:List Int} (hF:FitN N B A0) (hb:Bnd A0 M) {i:Nat}:∀m j,j+m≤N→∃b,redJ B M ds i m j=some b:=by
 intro m
 induction m with
 | zero=>intro j _;exact ⟨true,rfl⟩
 | succ m ih=>
  intro j hj
  obtain ⟨b,h⟩:=ztn (ds:=ds) hF hb (i:=i) (j:=j) (by omega)
  simp only [redJ,h,qA]
  cases b
  ·exact ⟨false,rfl⟩
  ·exact ih (j+1) (by omega)
theorem qsd {N A0:Nat} {M:List (List Int)} {ds:List Int} (hF:FitN N B A0) (hb:Bnd A0 M) (hd:∀z∈ds,z.natAbs≤bndS A0 N):∀m i,i+m≤N→∃b,redI B M ds m i=some b:=by
 intro m
 induction m with
 | zero=>intro i _;exact ⟨true,rfl⟩
 | succ m ih=>
  intro i hi
  obtain ⟨b,h⟩:=qsc (ds:=ds) hF hb (i:=i) i 0 (by omega)
  simp only [redI,h,qA]
  cases b
  ·exact ⟨false,rfl⟩
  ·rw [if_neg (by decide)]
   by_cases h0:i=0
   ·rw [if_pos h0];exact ih (i+1) (by omega)
   ·rw [if_neg h0]
    obtain ⟨b2,h2⟩:=qgc hF hb hd (i:=i) (by omega)
    rw [h2,qA]
    cases b2
    ·exact ⟨false,rfl⟩
    ·exact ih (i+1) (by omega)
end
end Go.Proofs.YtpflahgcdgdkjaaGreatDoor
namespace Go.Det
open Int renaming mul_le_mul_of_nonneg_left → qX, mul_le_mul_of_nonneg_right → qJ, mul_nonneg → qW, le_of_mul_le_mul_left → qU, eq_of_mul_eq_mul_left → qB, add_zero → qM, mul_nonneg_of_nonpos_of_nonpos → xJ, mul_comm → xW, mul_pos → xA, le_trans → xP, le_refl → xT, pow_succ → yA
open Nat renaming le_refl → qK, lt_or_ge → qV, add_sub_cancel → xG, add_zero → xO, lt_of_not_le → yC, le_of_not_lt → yD
set_option linter.unusedSimpArgs false
set_option linter.unusedVariables false
theorem zrd {a:Nat→Row} {k j c:Nat} (hj:j<k):stg a k j c=0:=by
 unfold stg bord
 have hm:a j∈zcv a k:=by simp only [zcv,List.mem_map,List.mem_range];exact ⟨j,hj,rfl⟩
 exact zxw (qfu _) (qfv _) (L2:=[]) hm
def addG (a:Nat→Row) (i j:Nat) (c:Int):Nat→Row:=fun s t=>a s t+(if s=i then c*a j t else 0)+(if t=i then c*a s j else 0)+(if s=i∧t=i then c*c*a j j else 0)
theorem qgd {a:Nat→Row} {i j:Nat} {c:Int} (hji:j<i) (hp:∀t,t≤i→lead a t≠0):∀k,k≤i→(∀t,t≤k→lead (addG a i j c) t=lead a t)∧
  ∀s t,stg (addG a i j c) k s t=stg a k s t+(if s=i then c*stg a k j t else 0)+(if t=i then c*stg a k s j else 0)+(if s=i∧t=i then c*c*stg a k j j else 0):=by
 intro k
 induction k with
 | zero=>
  intro _
  refine ⟨fun t ht=>?_,fun s t=>?_⟩
  ·have:t=0:=Nat.le_zero.1 ht
   subst this;rfl
  ·simp only [zdm];rfl
 | succ k ih=>
  intro hk
  obtain ⟨h1,h2⟩:=ih (by omega)
  have hki:k≠i:=by omega
  have hl:lead (addG a i j c) (k+1)=lead a (k+1):=by
   rw [zay,h2,if_neg hki,if_neg hki,if_neg (fun e=>hki e.1),zay];omega
  refine ⟨fun t ht=>?_,fun s t=>?_⟩
  ·rcases qV t (k+1) with e | e
   ·exact h1 t (by omega)
   ·have:t=k+1:=by omega
    rw [this];exact hl
  ·have hne:∀t,t≤k→lead (addG a i j c) t≠0:=fun t ht=>by rw [h1 t ht];exact hp t (by omega)
   have hne0:∀t,t≤k→lead a t≠0:=fun t ht=>hp t (by omega)
   have e:=zbs hne s t
   rw [h1 k (qK _),hl,h2 s t,h2 s k,h2 k t] at e
   simp only [hki,and_false,false_and,if_false,qM] at e
   have r1:=zbs hne0 s t
   have r2:=zbs hne0 j t
   have r3:=zbs hne0 s j
   have r4:=zbs hne0 j j
   refine qB (hp k (by omega)) ?_
   rw [e]
   by_cases hs:s=i
   ·by_cases ht:t=i
    ·subst hs ht
     simp only [and_self,if_true]
     grind
    ·simp only [hs,ht,if_true,if_false,and_false]
     subst hs
     grind
   ·by_cases ht:t=i
    ·simp only [hs,ht,if_true,if_false,false_and]
     subst ht
     grind
    ·simp only [hs,ht,if_false,false_and]
     grind
theorem zyc {a:Nat→Row} {i j n:Nat} {c:Int} (hji:j<i) (hp:∀t,t≤n→lead a t≠0) (hin:i≤n):∀m,i+m≤n→(∀t,t≤i+m→lead (addG a i j c) t=lead a t)∧∀s t,stg (addG a i j c) (i+m) s t=stg a (i+m) s t:=by
 intro m
 induction m with
 | zero=>
  intro _
  obtain ⟨h1,h2⟩:=qgd (c:=c) hji (fun t ht=>hp t (by omega)) i (qK _)
  refine ⟨h1,fun s t=>?_⟩
  have z1:∀t,stg a i j t=0:=fun t=>zrd hji
  have z2:∀s,stg a i s j=0:=fun s=>zra (fun t ht=>hp t (by omega)) s j hji
  rw [xO,h2,z1,z1,z2]
  simp
 | succ m ih=>
  intro hm
  obtain ⟨h1,h2⟩:=ih (by omega)
  have hl:lead (addG a i j c) (i+m+1)=lead a (i+m+1):=by rw [zay,h2,zay]
  refine ⟨fun t ht=>?_,fun s t=>?_⟩
  ·rcases qV t (i+m+1) with e | e
   ·exact h1 t (by omega)
   ·have:t=i+m+1:=by omega
    rw [this];exact hl
  ·have hne:∀t,t≤i+m→lead (addG a i j c) t≠0:=fun t ht=>by rw [h1 t ht];exact hp t (by omega)
   have hne0:∀t,t≤i+m→lead a t≠0:=fun t ht=>hp t (by omega)
   have e:=zbs hne s t
   rw [h1 _ (qK _),hl,h2,h2,h2,←zbs hne0 s t] at e
   exact qB (hne0 _ (qK _)) e
theorem zjx {a:Nat→Row} {i j n:Nat} {c:Int} (hji:j<i) (hin:i<n) (hp:∀t,t≤n→lead a t≠0) {t:Nat} (ht:t≤n):lead (addG a i j c) t=lead a t:=by
 have:=(zyc (c:=c) hji hp (by omega) (n-i) (by omega)).1 t (by omega)
 exact this
theorem qse {a:Nat→Row} {i j n:Nat} {c:Int} (hji:j<i) (hin:i<n) (hp:∀t,t≤n→lead a t≠0) {s t:Nat} (hts:t<s) (hs:s<n):
  stg (addG a i j c) t s t=stg a t s t+if s=i then (if t≤j then c*stg a t j t else 0) else 0:=by
 rcases qV t i with hlt | hge
 ·rw [(qgd (c:=c) hji (fun t ht=>hp t (by omega)) t (by omega)).2 s t]
  rw [if_neg (show ¬t=i by omega),if_neg (show ¬(s=i∧t=i) by omega)]
  by_cases e:s=i
  ·rw [if_pos e,if_pos e]
   by_cases h:t≤j
   ·rw [if_pos h];omega
   ·rw [if_neg h,zrd (show j<t by omega)];simp
  ·rw [if_neg e,if_neg e];omega
 ·obtain ⟨m,rfl⟩:∃m,t=i+m:=⟨t-i,by omega⟩
  rw [(zyc (c:=c) hji hp (by omega) m (by omega)).2 s (i+m),if_neg (by omega)];omega
def sw (p:Nat) (s:Nat):Nat:=if s=p then p+1 else if s=p+1 then p else s
theorem qaw {p s:Nat} (h1:s≠p) (h2:s≠p+1):sw p s=s:=by unfold sw;rw [if_neg h1,if_neg h2]
theorem sw_p {p:Nat}:sw p p=p+1:=by unfold sw;rw [if_pos rfl]
theorem sw_q {p:Nat}:sw p (p+1)=p:=by unfold sw;rw [if_neg (by omega),if_pos rfl]
def swG (a:Nat→Row) (p:Nat):Nat→Row:=fun s t=>a (sw p s) (sw p t)
theorem qge {a:Nat→Row} {p:Nat} (hp:∀t,t≤p→lead a t≠0):∀k,k≤p→(∀t,t≤k→lead (swG a p) t=lead a t)∧∀s t,stg (swG a p) k s t=stg a k (sw p s) (sw p t):=by
 intro k
 induction k with
 | zero=>
  intro _
  refine ⟨fun t ht=>?_,fun s t=>by simp only [zdm];rfl⟩
  have:t=0:=Nat.le_zero.1 ht
  subst this;rfl
 | succ k ih=>
  intro hk
  obtain ⟨h1,h2⟩:=ih (by omega)
  have hkk:sw p k=k:=qaw (by omega) (by omega)
  have hl:lead (swG a p) (k+1)=lead a (k+1):=by rw [zay,h2,hkk,zay]
  refine ⟨fun t ht=>?_,fun s t=>?_⟩
  ·rcases qV t (k+1) with e | e
   ·exact h1 t (by omega)
   ·have:t=k+1:=by omega
    rw [this];exact hl
  ·have hne:∀t,t≤k→lead (swG a p) t≠0:=fun t ht=>by rw [h1 t ht];exact hp t (by omega)
   have hne0:∀t,t≤k→lead a t≠0:=fun t ht=>hp t (by omega)
   have e:=zbs hne s t
   rw [h1 k (qK _),hl,h2,h2,h2,hkk,←zbs hne0] at e
   exact qB (hp k (by omega)) e
theorem qvu {a:Nat→Row} {n p:Nat} (hs:∀i j,i<n→j<n→a i j=a j i) (hpn:p+1<n) (hp:∀t,t≤p+1→lead a t≠0):
  lead a (p+1)*lead (swG a p) (p+1)=lead a p*lead a (p+2)+stg a p (p+1) p*stg a p (p+1) p:=by
 have h2:=(qge (fun t ht=>hp t (by omega)) p (qK _)).2
 have r:=zbs (a:=a) (k:=p) (fun t ht=>hp t (by omega)) (p+1) (p+1)
 have sy:=zgm hs p (by omega) (fun t ht=>hp t (by omega)) p (p+1) (by omega) hpn (qK _) (by omega)
 rw [zay (swG a p) p,h2,sw_p,zay a (p+1)]
 rw [sy] at r
 omega
theorem dd (d U V W Z:Int):d*d*(U*V-W*Z)=d*U*(d*V)-d*W*(d*Z):=by grind
theorem qxm (a11 a12 a21 a22 a1t a2t as1 as2 ast:Int):(a11*a22-a21*a12)*(a11*ast-as1*a1t)-(a11*as2-as1*a12)*(a11*a2t-a21*a1t)=a11*(a11*(a22*ast-as2*a2t)-a12*(a21*ast-as1*a2t)+a1t*(a21*as2-as1*a22)):=by grind
theorem qxn (a11 a12 a21 a22 a1t a2t as1 as2 ast:Int):(a11*a22-a21*a12)*(a22*ast-as2*a2t)-(a22*as1-as2*a21)*(a22*a1t-a12*a2t)=a22*(a11*(a22*ast-as2*a2t)-a12*(a21*ast-as1*a2t)+a1t*(a21*as2-as1*a22)):=by grind
theorem mlc (u d x:Int):u*(d*d*x)=d*d*(u*x):=by grind
theorem qsf {a:Nat→Row} {n p:Nat} (hs:∀i j,i<n→j<n→a i j=a j i) (hpn:p+1<n) (hp:∀t,t≤n→lead a t≠0) (hm:lead (swG a p) (p+1)≠0):
  ∀m,p+2+m≤n→(∀t,t≤p+2+m→t≠p+1→lead (swG a p) t=lead a t)∧∀s t,stg (swG a p) (p+2+m) s t=stg a (p+2+m) (sw p s) (sw p t):=by
 have ne0:∀{k},k≤n→∀t,t≤k→lead a t≠0:=fun hk t ht=>hp t (by omega)
 obtain ⟨l1,l2⟩:=qge (a:=a) (p:=p) (ne0 (by omega)) p (qK _)
 have np:∀t,t≤p→lead (swG a p) t≠0:=fun t ht=>by rw [l1 t ht];exact hp t (by omega)
 have np1:∀t,t≤p+1→lead (swG a p) t≠0:=fun t ht=>by
  rcases qV t (p+1) with e | e
  ·exact np t (by omega)
  ·have:t=p+1:=by omega
   rw [this];exact hm
 have e1:lead (swG a p) (p+1)=stg a p (p+1) (p+1):=by rw [zay,l2,sw_p]
 have dp:lead a (p+1)=stg a p p p:=zay a p
 have A:∀s t,lead a p*stg a (p+1) s t=stg a p p p*stg a p s t-stg a p s p*stg a p p t:=fun s t=>by rw [←dp];exact zbs (ne0 (by omega)) s t
 have B:∀s t,lead a p*stg (swG a p) (p+1) s t=stg a p (p+1) (p+1)*stg a p (sw p s) (sw p t)-stg a p (sw p s) (p+1)*stg a p (p+1) (sw p t):=fun s t=>by
  have:=zbs np s t
  rw [l1 p (qK _),e1,l2,l2,l2,sw_p] at this
  exact this
 have q2:lead (swG a p) (p+2)=lead a (p+2):=by
  rw [zay (swG a p) (p+1),zay a (p+1)]
  refine qB (hp p (by omega)) ?_
  rw [A,B,sw_q]
  grind
 intro m
 induction m with
 | zero=>
  intro _
  refine ⟨fun t ht hne=>?_,fun s t=>?_⟩
  ·rcases qV t (p+1) with e | e
   ·exact l1 t (by omega)
   ·have:t=p+2:=by omega
    rw [this];exact q2
  ·have ra:=zbs (a:=a) (k:=p+1) (ne0 (by omega)) (sw p s) (sw p t)
   have rb:=zbs np1 s t
   rw [q2,e1] at rb
   rw [dp] at ra
   have x1:=A (sw p s) (sw p t)
   have x2:=A (sw p s) (p+1)
   have x3:=A (p+1) (sw p t)
   have x4:=A (p+1) (p+1)
   have y1:=B s t
   have y2:=B s (p+1)
   have y3:=B (p+1) t
   rw [sw_q] at y2 y3
   have hd2:=zay a (p+1)
   rw [hd2] at ra rb
   have key:lead a p*lead a p*stg (swG a p) (p+2) s t=lead a p*lead a p*stg a (p+2) (sw p s) (sw p t):=by
    have ka:stg a p p p*(lead a p*lead a p*stg a (p+1+1) (sw p s) (sw p t))=stg a p p p*(stg a p p p*(stg a p (p+1) (p+1)*stg a p (sw p s) (sw p t)-stg a p (sw p s) (p+1)*stg a p (p+1) (sw p t))-stg a p p (p+1)*(stg a p (p+1) p*stg a p (sw p s) (sw p t)-stg a p (sw p s) p*stg a p (p+1) (sw p t))+stg a p p (sw p t)*(stg a p (p+1) p*stg a p (sw p s) (p+1)-stg a p (sw p s) p*stg a p (p+1) (p+1))):=by
     rw [mlc,ra,dd,x1,x2,x3,x4,qxm]
    have kb:stg a p (p+1) (p+1)*(lead a p*lead a p*stg (swG a p) (p+1+1) s t)=stg a p (p+1) (p+1)*(stg a p p p*(stg a p (p+1) (p+1)*stg a p (sw p s) (sw p t)-stg a p (sw p s) (p+1)*stg a p (p+1) (sw p t))-stg a p p (p+1)*(stg a p (p+1) p*stg a p (sw p s) (sw p t)-stg a p (sw p s) p*stg a p (p+1) (sw p t))+stg a p p (sw p t)*(stg a p (p+1) p*stg a p (sw p s) (p+1)-stg a p (sw p s) p*stg a p (p+1) (p+1))):=by
     rw [mlc,rb,dd,x4,y1,y2,y3,qxn]
    have n1:stg a p p p≠0:=by rw [←dp];exact hp (p+1) (by omega)
    have n2:stg a p (p+1) (p+1)≠0:=by rw [←e1];exact hm
    exact (qB n2 kb).trans (qB n1 ka).symm
   have h0:=hp p (by omega)
   exact qB (Int.mul_ne_zero h0 h0) key
 | succ m ih=>
  intro hm'
  obtain ⟨h1,h2⟩:=ih (by omega)
  have hk:sw p (p+2+m)=p+2+m:=qaw (by omega) (by omega)
  have hl:lead (swG a p) (p+2+m+1)=lead a (p+2+m+1):=by rw [zay,h2,hk,zay]
  refine ⟨fun t ht hne=>?_,fun s t=>?_⟩
  ·rcases qV t (p+2+m+1) with e | e
   ·exact h1 t (by omega) hne
   ·have:t=p+2+m+1:=by omega
    rw [this];exact hl
  ·have hne:∀t,t≤p+2+m→lead (swG a p) t≠0:=fun t ht=>by
    rcases qV t (p+2) with e | e
    ·exact np1 t (by omega)
    ·rw [h1 t ht (by omega)];exact hp t (by omega)
   have e:=zbs hne s t
   rw [h1 _ (qK _) (by omega),hl,h2,h2,h2,hk,←zbs (ne0 (by omega))] at e
   exact qB (hp _ (by omega)) e
theorem qsg {a:Nat→Row} {n p:Nat} (hs:∀i j,i<n→j<n→a i j=a j i) (hpn:p+1<n) (hp:∀t,t≤n→0<lead a t) (hlov:¬3*(lead a (p+1)*lead a (p+1))≤4*(lead a p*lead a (p+2)+stg a p (p+1) p*stg a p (p+1) p)):
  (∀t,t≤n→t≠p+1→lead (swG a p) t=lead a t)∧0<lead (swG a p) (p+1)∧lead (swG a p) (p+1)<lead a (p+1):=by
 have hne:∀t,t≤n→lead a t≠0:=fun t ht=>by have:=hp t ht;omega
 have mid:=qvu hs hpn (fun t ht=>hne t (by omega))
 have p0:=hp p (by omega)
 have p1:=hp (p+1) (by omega)
 have p2:=hp (p+2) (by omega)
 have m1:=xA p0 p2
 have m2:0≤stg a p (p+1) p*stg a p (p+1) p:=by
  rcases Int.le_total 0 (stg a p (p+1) p) with h | h
  ·exact qW h h
  ·exact xJ h h
 have pm:0<lead (swG a p) (p+1):=by
  have:0<lead a (p+1)*lead (swG a p) (p+1):=by omega
  rcases (by omega:lead (swG a p) (p+1)≤0∨0<lead (swG a p) (p+1)) with h | h
  ·have:=qX h (show 0≤lead a (p+1) by omega)
   omega
  ·exact h
 refine ⟨fun t ht hne2=>?_,pm,?_⟩
 ·rcases qV t (p+2) with e | e
  ·exact (qge (fun t ht=>hne t (by omega)) p (qK _)).1 t (by omega)
  ·exact (qsf hs hpn hne (by omega) (n-(p+2)) (by omega)).1 t (by omega) hne2
 ·have h1:lead a (p+1)*lead (swG a p) (p+1)<lead a (p+1)*lead a (p+1):=by
   have:=xA p1 p1
   omega
  exact Int.lt_of_mul_lt_mul_left h1 (by omega)
structure Pos (n:Nat) (D:Int) (a:Nat→Row):Prop where
 sym:∀i j,i<n→j<n→a i j=a j i
 pos:∀k,k≤n→0<lead a k
 le:∀k,k≤n→lead a k≤D
section
variable {n:Nat} {D:Int} {a:Nat→Row}
theorem Pos.ne (h:Pos n D a) {k:Nat} (hk:k≤n):∀t,t≤k→lead a t≠0:=fun t ht=>by have:=h.pos t (by omega);omega
theorem Pos.sq (h:Pos n D a) {s k:Nat} (hs:s<n) (hk:k<s):lead a k*stg a (k+1) s s=lead a (k+1)*stg a k s s-stg a k s k*stg a k s k:=by
 have e:=zbs (h.ne (k:=k) (by omega)) s s
 rw [zgm h.sym k (by omega) (h.ne (by omega)) k s (by omega) hs (qK _) (by omega)] at e
 exact e
theorem zed (x:Int):0≤x*x:=by
 rcases Int.le_total 0 x with h | h
 ·exact qW h h
 ·exact xJ h h
theorem qax {x y:Int} (hx:0<x) (h:0<x*y):0<y:=by
 rcases (by omega:y≤0∨0<y) with h2 | h2
 ·have:=qX h2 (show 0≤x by omega)
  omega
 ·exact h2
theorem Pos.diag (h:Pos n D a) {s:Nat} (hs:s<n):∀m k,k+m=s→0<stg a k s s:=by
 intro m
 induction m with
 | zero=>
  intro k hk
  have:k=s:=by omega
  subst this
  rw [←zay];exact h.pos _ (by omega)
 | succ m ih=>
  intro k hk
  have e:=h.sq hs (show k<s by omega)
  have h1:=ih (k+1) (by omega)
  have h2:=xA (h.pos k (by omega)) h1
  have h3:=zed (stg a k s k)
  exact qax (h.pos (k+1) (by omega)) (by omega)
theorem Pos.down (h:Pos n D a) {s:Nat} (hs:s<n):∀k,k≤s→stg a k s s≤lead a k*a s s:=by
 intro k
 induction k with
 | zero=>intro _;rw [zdm,zaz];omega
 | succ k ih=>
  intro hk
  have e:=h.sq hs (show k<s by omega)
  have h3:=zed (stg a k s k)
  have h1:=qX (ih (by omega)) (show 0≤lead a (k+1) by have:=h.pos (k+1) (by omega);omega)
  have h2:lead a k*stg a (k+1) s s≤lead a k*(lead a (k+1)*a s s):=by
   have:lead a (k+1)*(lead a k*a s s)=lead a k*(lead a (k+1)*a s s):=by grind
   omega
  exact qU h2 (h.pos k (by omega))
theorem Pos.lam_sq (h:Pos n D a) {s k:Nat} (hs:s<n) (hk:k<s):stg a k s k*stg a k s k≤lead a (k+1)*(lead a k*a s s):=by
 have e:=h.sq hs hk
 have h1:=xA (h.pos k (by omega)) (h.diag hs (s-(k+1)) (k+1) (by omega))
 have h2:=qX (h.down hs k (by omega)) (show 0≤lead a (k+1) by have:=h.pos (k+1) (by omega);omega)
 omega
theorem zhk {x m:Int} (hm:0≤m) (h:x*x≤m*m):x≤m∧ -m≤x:=by
 constructor
 ·rcases (by omega:x≤m∨m<x) with h1 | h1
  ·exact h1
  ·have h2:=qX (show m+1≤x by omega) (show 0≤x by omega)
   have h3:=qJ (show m+1≤x by omega) (show 0≤m+1 by omega)
   have e1:(m+1)*(m+1)=m*m+2*m+1:=by grind
   have e2:x*(m+1)=(m+1)*x:=xW _ _
   omega
 ·rcases (by omega: -m≤x∨x< -m) with h1 | h1
  ·exact h1
  ·have h2:=qX (show m+1≤ -x by omega) (show 0≤ -x by omega)
   have h3:=qJ (show m+1≤ -x by omega) (show 0≤m+1 by omega)
   have e1:(m+1)*(m+1)=m*m+2*m+1:=by grind
   have e2: -x*(m+1)=(m+1)* -x:=xW _ _
   have e3: -x* -x=x*x:=by grind
   omega
theorem Pos.one (h:Pos n D a):1≤D:=by have:=h.le 0 (by omega);rw [zaz] at this;omega
theorem Pos.lam_le (h:Pos n D a) {s k:Nat} {K:Int} (hs:s<n) (hk:k<s) (hK:a s s≤K) (hK1:1≤K):stg a k s k≤lead a (k+1)*(K*D)∧ -(lead a (k+1)*(K*D))≤stg a k s k:=by
 have p1:=h.pos (k+1) (by omega)
 have p0:=h.pos k (by omega)
 have l0:=h.le k (by omega)
 have hD:=h.one
 have hKD:1≤K*D:=by have:=qX hD (show 0≤K by omega);omega
 refine zhk (qW (by omega) (by omega)) ?_
 have q:=h.lam_sq hs hk
 have q1:lead a k*a s s≤D*K:=by
  have m1:=qX hK (show 0≤lead a k by omega)
  have m2:=qJ l0 (show 0≤K by omega)
  omega
 have q2:=qX q1 (show 0≤lead a (k+1) by omega)
 have c:D*K=K*D:=xW _ _
 have q3:lead a (k+1)*(K*D)≤(lead a (k+1)*(K*D))*(lead a (k+1)*(K*D)):=by
  have z:1≤lead a (k+1)*(K*D):=by have:=qX hKD (show 0≤lead a (k+1) by omega);omega
  have:=qX z (show 0≤lead a (k+1)*(K*D) by omega)
  omega
 rw [c] at q2
 omega
theorem Pos.norm_le (h:Pos n D a) {s:Nat} (hs:s<n) {m:Int} (hl:∀k,k<s→stg a k s k≤lead a (k+1)*m∧ -(lead a (k+1)*m)≤stg a k s k):∀c k,k+c=s→stg a k s s≤lead a k*(D+(c:Int)*(D*(m*m))):=by
 intro c
 induction c with
 | zero=>
  intro k hk
  have:k=s:=by omega
  subst this
  rw [←zay]
  have h1:=h.le (k+1) (by omega)
  have h0:=h.pos k (by omega)
  have:=qJ (show (1:Int)≤lead a k by omega) (show 0≤D by have:=h.one;omega)
  have e:lead a k*(D+((0:Nat):Int)*(D*(m*m)))=lead a k*D:=by simp
  omega
 | succ c ih=>
  intro k hk
  have e:=h.sq hs (show k<s by omega)
  have i1:=ih (k+1) (by omega)
  obtain ⟨l1,l2⟩:=hl k (by omega)
  have q:=qvq l1 l2
  have p0:=h.pos k (by omega)
  have p1:=h.pos (k+1) (by omega)
  have d1:=h.le (k+1) (by omega)
  have m1:=qX i1 (show 0≤lead a k by omega)
  have mm:=zed m
  have x1:lead a (k+1)*(lead a (k+1)*(m*m))≤lead a (k+1)*(lead a k*(D*(m*m))):=by
   refine qX ?_ (by omega)
   have y1:=qJ d1 mm
   have y2:=qJ (show (1:Int)≤lead a k by omega) (qW (show 0≤D by omega) mm)
   omega
  have z:lead a (k+1)*stg a k s s≤lead a (k+1)*(lead a k*(D+((c+1:Nat):Int)*(D*(m*m)))):=by
   have e1:lead a (k+1)*m*(lead a (k+1)*m)=lead a (k+1)*(lead a (k+1)*(m*m)):=by grind
   have e2:lead a k*(lead a (k+1)*(D+(c:Int)*(D*(m*m))))=lead a (k+1)*(lead a k*(D+(c:Int)*(D*(m*m)))):=by grind
   have e3:lead a (k+1)*(lead a k*(D+((c+1:Nat):Int)*(D*(m*m))))=lead a (k+1)*(lead a k*(D+(c:Int)*(D*(m*m))))+lead a (k+1)*(lead a k*(D*(m*m))):=by
    have:((c+1:Nat):Int)=(c:Int)+1:=by omega
    rw [this];grind
   omega
  exact qU z p1
theorem Pos.norm (h:Pos n D a) {s:Nat} (hs:s<n) {m:Int} (hl:∀k,k<s→stg a k s k≤lead a (k+1)*m∧ -(lead a (k+1)*m)≤stg a k s k):a s s≤D+(s:Int)*(D*(m*m)):=by
 have:=h.norm_le hs hl s 0 (by omega)
 rw [zdm,zaz] at this
 omega
theorem Pos.entry (h:Pos n D a) {s t:Nat} (hs:s<n) (ht:t≤s):∀m k,k+m=t→2*stg a k s t≤stg a k s s+stg a k t t∧ -(2*stg a k s t)≤stg a k s s+stg a k t t:=by
 intro m
 induction m with
 | zero=>
  intro k hk
  have hkt:k=t:=by omega
  subst hkt
  rcases qV k s with h1 | h1
  ·have e:=h.sq hs h1
   have p:=xA (h.pos k (by omega)) (h.diag hs (s-(k+1)) (k+1) (by omega))
   have d:=zay a k
   rw [d] at e
   have p1:=h.diag hs (s-k) k (by omega)
   have p2:0<stg a k k k:=by rw [←d];exact h.pos _ (by omega)
   have q:2*stg a k s k*(2*stg a k s k)≤(stg a k s s+stg a k k k)*(stg a k s s+stg a k k k):=by
    have w:=zed (stg a k s s-stg a k k k)
    have e1:(stg a k s s-stg a k k k)*(stg a k s s-stg a k k k)=(stg a k s s+stg a k k k)*(stg a k s s+stg a k k k)-4*(stg a k k k*stg a k s s):=by grind
    have e2:2*stg a k s k*(2*stg a k s k)=4*(stg a k s k*stg a k s k):=by grind
    omega
   have:=zhk (by omega) q
   omega
  ·have:k=s:=by omega
   subst this
   have:=h.diag hs 0 k (by omega)
   omega
 | succ m ih=>
  intro k hk
  obtain ⟨i1,i2⟩:=ih (k+1) (by omega)
  have e1:=h.sq hs (show k<s by omega)
  have e2:=h.sq (show t<n by omega) (show k<t by omega)
  have hn:=h.ne (k:=k) (by omega)
  have e3:=zbs hn s t
  rw [zgm h.sym k (by omega) hn k t (by omega) (by omega) (qK _) (by omega)] at e3
  have p0:=h.pos k (by omega)
  have p1:=h.pos (k+1) (by omega)
  have w1:=zed (stg a k s k-stg a k t k)
  have w2:=zed (stg a k s k+stg a k t k)
  have f1:(stg a k s k-stg a k t k)*(stg a k s k-stg a k t k)=stg a k s k*stg a k s k+stg a k t k*stg a k t k-2*(stg a k s k*stg a k t k):=by grind
  have f2:(stg a k s k+stg a k t k)*(stg a k s k+stg a k t k)=stg a k s k*stg a k s k+stg a k t k*stg a k t k+2*(stg a k s k*stg a k t k):=by grind
  have m1:=qX i1 (show 0≤lead a k by omega)
  have m2:=qX i2 (show 0≤lead a k by omega)
  have g1:lead a k*(2*stg a (k+1) s t)=2*(lead a k*stg a (k+1) s t):=by grind
  have g2:lead a k*(-(2*stg a (k+1) s t))= -(2*(lead a k*stg a (k+1) s t)):=by grind
  have g3:lead a k*(stg a (k+1) s s+stg a (k+1) t t)=lead a k*stg a (k+1) s s+lead a k*stg a (k+1) t t:=by grind
  have c1:lead a (k+1)*(2*stg a k s t)≤lead a (k+1)*(stg a k s s+stg a k t t):=by
   have h1:lead a (k+1)*(2*stg a k s t)=2*(lead a (k+1)*stg a k s t):=by grind
   have h2:lead a (k+1)*(stg a k s s+stg a k t t)=lead a (k+1)*stg a k s s+lead a (k+1)*stg a k t t:=by grind
   omega
  have c2:lead a (k+1)*(-(2*stg a k s t))≤lead a (k+1)*(stg a k s s+stg a k t t):=by
   have h1:lead a (k+1)*(-(2*stg a k s t))= -(2*(lead a (k+1)*stg a k s t)):=by grind
   have h2:lead a (k+1)*(stg a k s s+stg a k t t)=lead a (k+1)*stg a k s s+lead a (k+1)*stg a k t t:=by grind
   omega
  exact ⟨qU c1 p1,qU c2 p1⟩
theorem Pos.bound (h:Pos n D a) {K:Int} (hK:∀s,s<n→a s s≤K) {s t:Nat} (hs:s<n) (ht:t<n):a s t≤K∧ -K≤a s t:=by
 have key:∀s t,s<n→t≤s→a s t≤K∧ -K≤a s t:=by
  intro s t hs ht
  have:=h.entry hs ht t 0 (by omega)
  simp only [zdm] at this
  have:=hK s hs
  have:=hK t (by omega)
  omega
 rcases Nat.le_total t s with h1 | h1
 ·exact key s t hs h1
 ·rw [h.sym s t hs ht];exact key t s ht h1
end
def SZ (a:Nat→Row) (i j:Nat):Prop:=2*stg a j i j≤lead a (j+1)∧ -(2*stg a j i j)≤lead a (j+1)
def LV (a:Nat→Row) (i:Nat):Prop:=3*(lead a i*lead a i)≤4*(lead a (i-1)*lead a (i+1)+stg a (i-1) i (i-1)*stg a (i-1) i (i-1))
def OKr (a:Nat→Row) (i:Nat):Prop:=(∀j,j<i→SZ a i j)∧(0<i→LV a i)
structure CurA (n:Nat) (a:Nat→Row) (i j:Nat):Prop where
 hi:i<n
 hj:j<i
 pre:∀s,s<i→OKr a s
 up:∀l,j<l→l<i→SZ a i l
 no:¬SZ a i j
structure CurS (n:Nat) (a:Nat→Row) (i:Nat):Prop where
 hi:i<n
 h0:0<i
 pre:∀s,s<i→OKr a s
 up:∀l,l<i→SZ a i l
 no:¬LV a i
structure Good (n:Nat) (D K:Int) (a:Nat→Row):Prop where
 cA:∀i j,CurA n a i j→(∀s,s<n→s≠i→a s s≤K)∧∀l,l≤j→stg a l i l≤lead a (l+1)*(2^(i-1-j)*(K*D))∧ -(lead a (l+1)*(2^(i-1-j)*(K*D)))≤stg a l i l
 cS:∀i,CurS n a i→∀s,s<n→a s s≤K
 cE:(∀i,i<n→OKr a i)→∀s,s<n→a s s≤K
section
variable {n:Nat} {D K:Int} {a:Nat→Row}
theorem zre (e:Nat):(1:Int)≤2^e:=by
 induction e with
 | zero=>decide
 | succ e ih=>rw [yA];omega
theorem zto {e f:Nat} (h:e≤f):(2:Int)^e≤2^f:=by
 induction f with
 | zero=>have:e=0:=by omega
         subst this;exact xT _
 | succ f ih=>
  rcases qV e (f+1) with h1 | h1
  ·have:=ih (by omega)
   have:=zre f
   rw [yA];omega
  ·have:e=f+1:=by omega
   rw [this];exact xT _
theorem zrf (h:Pos n D a) (hK:1≤K) (ha:∀s,s<n→a s s≤K):Good n D K a:=by
 refine ⟨fun i j c=>⟨fun s hs _=>ha s hs,fun l hl=>?_⟩,fun _ _=>ha,fun _=>ha⟩
 have:=h.lam_le c.hi (show l<i by have:=c.hj;omega) (ha i c.hi) hK
 have p:=h.pos (l+1) (by have:=c.hj;have:=c.hi;omega)
 have hKD:0≤K*D:=qW (by omega) (by have:=h.one;omega)
 have q:lead a (l+1)*(K*D)≤lead a (l+1)*(2^(i-1-j)*(K*D)):=by
  refine qX ?_ (by omega)
  have:=qJ (zre (i-1-j)) hKD
  omega
 omega
theorem qsh (h:Pos n D a) (h8:n≤8) (hKD:8*D≤K) {s:Nat} (hs:s<n) (hz:∀l,l<s→SZ a s l):a s s≤K:=by
 have:=h.norm hs (m:=1) (fun k hk=>by
  obtain ⟨z1,z2⟩:=hz k hk
  have:=h.pos (k+1) (by omega)
  omega)
 have e:(D:Int)*(1*1)=D:=by omega
 rw [e] at this
 have hD:=h.one
 have:(s:Int)*D≤7*D:=qJ (by omega) (by omega)
 omega
theorem qsi {i j:Nat} {c:Int} (h:Pos n D a) (hi:i<n) (hj:j<i):Pos n D (addG a i j c):=by
 have hn:=h.ne (k:=n) (qK _)
 refine ⟨fun s t hs ht=>?_,fun k hk=>by rw [zjx hj hi hn hk];exact h.pos k hk,fun k hk=>by rw [zjx hj hi hn hk];exact h.le k hk⟩
 unfold addG
 rw [h.sym s t hs ht,h.sym j t (by omega) ht,h.sym s j hs (by omega)]
 have e:(s=i∧t=i)↔(t=i∧s=i):=And.comm
 simp only [e]
 omega
theorem zyd {i j:Nat} {c:Int} (h:Pos n D a) (h8:n≤8) (hK:1≤K) (hKD:8*D≤K) (hc:CurA n a i j) (hg:Good n D K a) (hz:2*(stg a j i j+c*lead a (j+1))≤lead a (j+1)∧ -(2*(stg a j i j+c*lead a (j+1)))≤lead a (j+1)):
  (c≤2^(i-1-j)*(K*D)∧ -(2^(i-1-j)*(K*D))≤c)∧Pos n D (addG a i j c)∧Good n D K (addG a i j c)∧
   (∀i' j',CurA n (addG a i j c) i' j'→i≤i'∧(i'=i→j'<j))∧∀i',CurS n (addG a i j c) i'→i≤i':=by
 have hi:=hc.hi
 have hj:=hc.hj
 have hn:=h.ne (k:=n) (qK _)
 have hp':=qsi (c:=c) h hi hj
 obtain ⟨g1,g2⟩:=hg.cA i j hc
 have hM:1≤2^(i-1-j)*(K*D):=by
  have h1:=zre (i-1-j)
  have h2:1≤K*D:=by have:=qX h.one (show 0≤K by omega);omega
  have:=qX h2 (show (0:Int)≤2^(i-1-j) by omega)
  omega
 have hcb:c≤2^(i-1-j)*(K*D)∧ -(2^(i-1-j)*(K*D))≤c:=by
  obtain ⟨b1,b2⟩:=g2 j (qK _)
  have p:=h.pos (j+1) (by omega)
  generalize 2^(i-1-j)*(K*D)=M at*
  generalize lead a (j+1)=d at*
  have t1:d*(2*c)≤d*(2*M+1):=by
   have e1:d*(2*c)=2*(c*d):=by grind
   have e2:d*(2*M+1)=2*(d*M)+d:=by grind
   omega
  have t2:d*(-(2*c))≤d*(2*M+1):=by
   have e1:d*(-(2*c))= -(2*(c*d)):=by grind
   have e2:d*(2*M+1)=2*(d*M)+d:=by grind
   omega
  have u1:=qU t1 p
  have u2:=qU t2 p
  omega
 have lam:∀s t,t<s→s<n→stg (addG a i j c) t s t=stg a t s t+if s=i then (if t≤j then c*stg a t j t else 0) else 0:=fun s t h1 h2=>qse hj hi hn h1 h2
 have ld:∀t,t≤n→lead (addG a i j c) t=lead a t:=fun t ht=>zjx hj hi hn ht
 have szk:∀s l,l<s→s<n→s≠i→(SZ (addG a i j c) s l↔SZ a s l):=fun s l h1 h2 h3=>by
  unfold SZ
  rw [lam s l h1 h2,if_neg h3,ld _ (by omega),qM]
 have lvk:∀s,0<s→s<n→s≠i→(LV (addG a i j c) s↔LV a s):=fun s h1 h2 h3=>by
  unfold LV
  rw [lam s (s-1) (by omega) h2,if_neg h3,ld _ (by omega),ld _ (by omega),ld _ (by omega),qM]
 have dg:∀s,s≠i→(addG a i j c) s s=a s s:=fun s hs=>by
  unfold addG
  rw [if_neg hs,if_neg hs,if_neg (fun e=>hs e.1)];omega
 have low:∀i' j',CurA n (addG a i j c) i' j'→i≤i'∧(i'=i→j'<j):=by
  intro i' j' hc'
  refine ⟨yD fun hlt=>?_,fun e=>?_⟩
  ·have:=(hc.pre i' hlt).1 j' hc'.hj
   exact hc'.no ((szk i' j' hc'.hj hc'.hi (by omega)).2 this)
  ·subst e
   refine yC fun hle=>?_
   have hj':=hc'.hj
   apply hc'.no
   unfold SZ
   rw [lam i' j' hj' hi,if_pos rfl,ld _ (by omega)]
   rcases qV j j' with h1 | h1
   ·rw [if_neg (by omega),qM];exact hc.up j' h1 hj'
   ·have:j'=j:=by omega
    subst this
    rw [if_pos (qK _),←zay]
    exact hz
 have lowS:∀i',CurS n (addG a i j c) i'→i≤i':=by
  intro i' hc'
  refine yD fun hlt=>?_
  have:=(hc.pre i' hlt).2 hc'.h0
  exact hc'.no ((lvk i' hc'.h0 hc'.hi (by omega)).2 this)
 have done:(∀l,l<i→SZ (addG a i j c) i l)→∀s,s<n→(addG a i j c) s s≤K:=by
  intro hz' s hs
  by_cases e:s=i
  ·subst e;exact qsh hp' h8 hKD hs hz'
  ·rw [dg s e];exact g1 s hs e
 refine ⟨hcb,hp',⟨fun i' j' hc'=>?_,fun i' hc'=>?_,fun hall=>done (hall i hi).1⟩,low,lowS⟩
 ·obtain ⟨l1,l2⟩:=low i' j' hc'
  by_cases e:i'=i
  ·subst e
   have hlt:=l2 rfl
   refine ⟨fun s hs hne=>by rw [dg s hne];exact g1 s hs hne,fun l hl=>?_⟩
   obtain ⟨b1,b2⟩:=g2 l (by omega)
   obtain ⟨z1,z2⟩:=(hc.pre j hj).1 l (by omega)
   have p:=h.pos (l+1) (by omega)
   rw [lam i' l (by omega) hi,if_pos rfl,if_pos (by omega),ld _ (by omega)]
   have m:=znj hcb.1 hcb.2 z1 (by omega)
   have e2:c*(2*stg a l j l)=2*(c*stg a l j l):=by grind
   rw [e2] at m
   have pw:(2:Int)^(i'-1-j)*2≤2^(i'-1-j'):=by
    rw [←yA];exact zto (by omega)
   have hKD0:0≤K*D:=qW (by omega) (by have:=h.one;omega)
   have pw2:=qJ pw hKD0
   have pw3:=qX pw2 (show 0≤lead a (l+1) by omega)
   have e3:lead a (l+1)*(2^(i'-1-j)*2*(K*D))=2*(lead a (l+1)*(2^(i'-1-j)*(K*D))):=by grind
   have e4:2^(i'-1-j)*(K*D)*lead a (l+1)=lead a (l+1)*(2^(i'-1-j)*(K*D)):=xW _ _
   have pp:=qW (show 0≤lead a (l+1) by omega) (show 0≤2^(i'-1-j)*(K*D) by omega)
   rw [e3] at pw3
   rw [e4] at m
   omega
  ·have hlt:i<i':=by omega
   have hall:=done (hc'.pre i hlt).1
   exact (zrf hp' hK hall).cA i' j' hc'
 ·have l1:=lowS i' hc'
  by_cases e:i'=i
  ·subst e;exact done hc'.up
  ·exact done (hc'.pre i (by omega)).1
theorem zvx {p s:Nat} (hp:p+1<n) (hs:s<n):sw p s<n:=by
 unfold sw
 split
 ·omega
 ·split<;>omega
theorem zvy {i:Nat} (h:Pos n D a) (hK:1≤K) (hc:CurS n a i) (hg:Good n D K a):Pos n D (swG a (i-1))∧Good n D K (swG a (i-1))∧(∀t,t≤n→t≠i→lead (swG a (i-1)) t=lead a t)∧lead (swG a (i-1)) i<lead a i:=by
 have hi:=hc.hi
 have h0:=hc.h0
 obtain ⟨p,rfl⟩:∃p,i=p+1:=⟨i-1,by omega⟩
 simp only [xG]
 have hno:=hc.no
 unfold LV at hno
 simp only [xG] at hno
 obtain ⟨s1,s2,s3⟩:=qsg h.sym hi h.pos hno
 have hP:Pos n D (swG a p):=by
  refine ⟨fun s t hs ht=>h.sym _ _ (zvx hi hs) (zvx hi ht),fun k hk=>?_,fun k hk=>?_⟩
  ·by_cases e:k=p+1
   ·rw [e];exact s2
   ·rw [s1 k hk e];exact h.pos k hk
  ·by_cases e:k=p+1
   ·rw [e];have:=h.le (p+1) (by omega);omega
   ·rw [s1 k hk e];exact h.le k hk
 exact ⟨hP,zrf hP hK (fun s hs=>hg.cS _ hc _ (zvx hi hs)),s1,s3⟩
def ziy (a:Nat→Row):Nat→Nat
 | 0=>1
 | k+1=>ziy a k*(lead a (k+1)).toNat
theorem zpb {b:Nat→Row}:∀k,(∀t,t≤k→lead b t=lead a t)→ziy b k=ziy a k:=by
 intro k
 induction k with
 | zero=>intro _;rfl
 | succ k ih=>intro h;simp only [ziy];rw [ih (fun t ht=>h t (by omega)),h (k+1) (qK _)]
theorem qma:∀k,(∀t,t≤k→0<lead a t)→0<ziy a k:=by
 intro k
 induction k with
 | zero=>intro _;exact Nat.one_pos
 | succ k ih=>
  intro h
  have:=h (k+1) (qK _)
  exact Nat.mul_pos (ih (fun t ht=>h t (by omega))) (by omega)
theorem qsj {b:Nat→Row} {i:Nat} (h0:0<i) (hl:lead b i<lead a i) (hb:0<lead b i):∀k,i≤k→(∀t,t≤k→t≠i→lead b t=lead a t)→(∀t,t≤k→0<lead a t)→ziy b k<ziy a k:=by
 intro k
 induction k with
 | zero=>intro h1;omega
 | succ k ih=>
  intro h1 h2 h3
  simp only [ziy]
  by_cases e:i=k+1
  ·subst e
   rw [zpb k (fun t ht=>h2 t (by omega) (by omega))]
   have:=qma k (fun t ht=>h3 t (by omega))
   exact Nat.mul_lt_mul_of_pos_left (by omega) this
  ·rw [h2 (k+1) (qK _) (fun x=>e x.symm)]
   have:=h3 (k+1) (qK _)
   exact Nat.mul_lt_mul_of_pos_right (ih (by omega) (fun t ht hne=>h2 t (by omega) hne) (fun t ht=>h3 t (by omega))) (by omega)
def bigK (D K:Int):Int:=D+8*(D*((2^7*(K*D))*(2^7*(K*D))))
theorem qgf (h:Pos n D a) (h8:n≤8) (hK:1≤K) (hg:Good n D K a) (hcase:(∃i j,CurA n a i j)∨(∃i,CurS n a i)∨∀i,i<n→OKr a i) {s:Nat} (hs:s<n):a s s≤bigK D K:=by
 have hD:=h.one
 have h1:1≤K*D:=by have:=qX hD (show 0≤K by omega);omega
 have hm:K*D≤2^7*(K*D):=by omega
 have hmm:2^7*(K*D)≤(2^7*(K*D))*(2^7*(K*D)):=by
  have:=qX (show 1≤2^7*(K*D) by omega) (show 0≤2^7*(K*D) by omega)
  omega
 have hK2:K≤K*D:=by have:=qX hD (show 0≤K by omega);omega
 have hDm:(2^7*(K*D))*(2^7*(K*D))≤D*((2^7*(K*D))*(2^7*(K*D))):=by
  have:=qJ hD (show 0≤(2^7*(K*D))*(2^7*(K*D)) by omega)
  omega
 have hKB:K≤bigK D K:=by unfold bigK;omega
 rcases hcase with ⟨i,j,hc⟩ | ⟨i,hc⟩ | hall
 ·obtain ⟨g1,g2⟩:=hg.cA i j hc
  by_cases e:s=i
  ·subst e
   have:=h.norm hs (m:=2^7*(K*D)) (fun k hk=>by
    have p:=h.pos (k+1) (by omega)
    have q:lead a (k+1)≤lead a (k+1)*(2^7*(K*D)):=by
     have:=qX (show 1≤2^7*(K*D) by omega) (show 0≤lead a (k+1) by omega)
     omega
    rcases qV j k with h2 | h2
    ·obtain ⟨z1,z2⟩:=hc.up k h2 hk
     omega
    ·obtain ⟨b1,b2⟩:=g2 k h2
     have w:(2:Int)^(s-1-j)≤2^7:=zto (by omega)
     have w2:=qJ w (show 0≤K*D by omega)
     have w3:=qX w2 (show 0≤lead a (k+1) by omega)
     omega)
   have f:(s:Int)*(D*((2^7*(K*D))*(2^7*(K*D))))≤8*(D*((2^7*(K*D))*(2^7*(K*D)))):=qJ (by omega) (by omega)
   unfold bigK
   omega
  ·exact xP (g1 s hs e) hKB
 ·exact xP (hg.cS i hc s hs) hKB
 ·exact xP (hg.cE hall s hs) hKB
end
theorem zem (f g:Nat→Int) (n:Nat):sumR (fun i=>f i+g i) n=sumR f n+sumR g n:=by
 induction n with
 | zero=>rfl
 | succ n ih=>simp only [sumR,ih];omega
theorem zdd (c:Int) (f:Nat→Int) (n:Nat):sumR (fun i=>c*f i) n=c*sumR f n:=by
 induction n with
 | zero=>simp [sumR]
 | succ n ih=>simp only [sumR,ih];grind
theorem zic {f:Nat→Int} {n k:Nat} (hk:k<n) (h:∀t,t<n→t≠k→f t=0):sumR f n=f k:=by
 induction n with
 | zero=>omega
 | succ n ih=>
  simp only [sumR]
  by_cases e:k=n
  ·subst e
   rw [zfd (fun t ht=>h t (by omega) (by omega))];omega
  ·rw [ih (by omega) (fun t ht hne=>h t (by omega) hne),h n (by omega) (fun x=>e x.symm)];omega
theorem zye {f:Nat→Int} {n:Nat} {c:Int} (h:∀t,t<n→f t≤c∧ -c≤f t):sumR f n≤n*c∧ -(n*c)≤sumR f n:=by
 induction n with
 | zero=>simp [sumR]
 | succ n ih=>
  obtain ⟨h1,h2⟩:=ih (fun t ht=>h t (by omega))
  obtain ⟨h3,h4⟩:=h n (by omega)
  simp only [sumR]
  have e:((n+1:Nat):Int)*c=(n:Int)*c+c:=by rw [show ((n+1:Nat):Int)=(n:Int)+1 by omega];grind
  omega
def linK (a:Nat→Row) (n k s:Nat) (v:Nat→Int):Int:=sumR (fun t=>stg a k s t*v t) n
def quaK (a:Nat→Row) (n k:Nat) (v:Nat→Int):Int:=sumR (fun s=>linK a n k s v*v s) n
section
variable {n:Nat} {D:Int} {a:Nat→Row}
theorem qsk (h:Pos n D a) {k s:Nat} (hk:k<n) (v:Nat→Int):lead a k*linK a n (k+1) s v=lead a (k+1)*linK a n k s v-stg a k s k*linK a n k k v:=by
 unfold linK
 rw [←zdd,←zdd,←zdd]
 have e:sumR (fun i=>lead a k*(stg a (k+1) s i*v i)) n=sumR (fun i=>lead a (k+1)*(stg a k s i*v i)+(-1)*(stg a k s k*(stg a k k i*v i))) n:=by
  refine zas fun i _=>?_
  have r:=zbs (h.ne (k:=k) (by omega)) s i
  have:lead a k*(stg a (k+1) s i*v i)=(lead a k*stg a (k+1) s i)*v i:=by grind
  rw [this,r];grind
 rw [e,zem,zdd (-1)]
 omega
theorem zvz (h:Pos n D a) {k:Nat} (hk:k<n) (v:Nat→Int):lead a k*quaK a n (k+1) v=lead a (k+1)*quaK a n k v-linK a n k k v*linK a n k k v:=by
 unfold quaK
 rw [←zdd,←zdd]
 have hl:linK a n k k v*linK a n k k v=sumR (fun s=>linK a n k k v*(stg a k s k*v s)) n:=by
  rw [zdd]
  congr 1
  unfold linK
  refine zas fun s hs=>?_
  rcases qV s k with h1 | h1
  ·rw [zrd h1,zra (h.ne (k:=k) (by omega)) k s h1]
  ·rw [zgm h.sym k hk (h.ne (by omega)) k s hk hs (qK _) h1]
 have e:sumR (fun i=>lead a k*(linK a n (k+1) i v*v i)) n=sumR (fun i=>lead a (k+1)*(linK a n k i v*v i)+(-1)*(linK a n k k v*(stg a k i k*v i))) n:=by
  refine zas fun i _=>?_
  have r:=qsk h (s:=i) hk v
  have:lead a k*(linK a n (k+1) i v*v i)=(lead a k*linK a n (k+1) i v)*v i:=by grind
  rw [this,r];grind
 rw [e,zem,zdd (-1),hl]
 omega
theorem qsl (v:Nat→Int):quaK a n n v=0:=by
 unfold quaK
 refine zfd fun s hs=>?_
 have:linK a n n s v=0:=by
  unfold linK
  exact zfd fun t _=>by rw [zrd hs];simp
 rw [this];simp
theorem zid (h:Pos n D a) (v:Nat→Int):∀m k,k+m=n→0≤quaK a n k v:=by
 intro m
 induction m with
 | zero=>
  intro k hk
  have:k=n:=by omega
  subst this
  rw [qsl];exact xT _
 | succ m ih=>
  intro k hk
  have e:=zvz h (show k<n by omega) v
  have h1:=qW (show 0≤lead a k by have:=h.pos k (by omega);omega) (ih (k+1) (by omega))
  have h2:=zed (linK a n k k v)
  have h3:0≤lead a (k+1)*quaK a n k v:=by omega
  rcases (by omega:quaK a n k v<0∨0≤quaK a n k v) with h4 | h4
  ·have:=xA (h.pos (k+1) (by omega)) (show 0< -quaK a n k v by omega)
   have e2:lead a (k+1)* -quaK a n k v= -(lead a (k+1)*quaK a n k v):=by grind
   omega
  ·exact h4
theorem qmb (h:Pos n D a) (v:Nat→Int):∀k,k≤n→quaK a n k v≤lead a k*quaK a n 0 v:=by
 intro k
 induction k with
 | zero=>intro _;rw [zaz];omega
 | succ k ih=>
  intro hk
  have e:=zvz h (show k<n by omega) v
  have h2:=zed (linK a n k k v)
  have h1:=qX (ih (by omega)) (show 0≤lead a (k+1) by have:=h.pos (k+1) (by omega);omega)
  have h3:lead a k*quaK a n (k+1) v≤lead a k*(lead a (k+1)*quaK a n 0 v):=by
   have:lead a (k+1)*(lead a k*quaK a n 0 v)=lead a k*(lead a (k+1)*quaK a n 0 v):=by grind
   omega
  exact qU h3 (h.pos k (by omega))
theorem qgg (h:Pos n D a) (v:Nat→Int) {Q:Int} (hQ:quaK a n 0 v≤Q) {k:Nat} (hk:k<n):linK a n k k v≤D*(Q+1)∧ -(D*(Q+1))≤linK a n k k v:=by
 have q0:=zid h v n 0 (by omega)
 have hD:=h.one
 refine zhk (qW (by omega) (by omega)) ?_
 have e:=zvz h hk v
 have h1:=qW (show 0≤lead a k by have:=h.pos k (by omega);omega) (zid h v (n-(k+1)) (k+1) (by omega))
 have p1:=h.pos (k+1) (by omega)
 have p0:=h.pos k (by omega)
 have l1:=h.le (k+1) (by omega)
 have l0:=h.le k (by omega)
 have m1:=qX (qmb h v k (by omega)) (show 0≤lead a (k+1) by omega)
 have m2:lead a k*quaK a n 0 v≤D*Q:=by
  have x1:=qX hQ (show 0≤lead a k by omega)
  have x2:=qJ l0 (show 0≤Q by omega)
  omega
 have m3:lead a (k+1)*(lead a k*quaK a n 0 v)≤D*(D*Q):=by
  have x1:=qX m2 (show 0≤lead a (k+1) by omega)
  have x2:=qJ l1 (show 0≤D*Q from qW (by omega) (by omega))
  omega
 have m4:D*(D*Q)≤D*(Q+1)*(D*(Q+1)):=by
  have e1:D*(Q+1)*(D*(Q+1))=D*(D*Q)+D*D*(Q*Q+Q+1):=by grind
  have:=qW (qW (show 0≤D by omega) (show 0≤D by omega)) (show 0≤Q*Q+Q+1 by have:=zed Q;omega)
  omega
 omega
def vecB (D K Q:Int):Nat→Int
 | 0=>D*(Q+1)
 | m+1=>D*(Q+1)+8*(D*K*vecB D K Q m)
theorem znl {K Q:Int} (hD:1≤D) (hK:0≤K) (hQ:0≤Q):∀m,0≤vecB D K Q m:=by
 intro m
 induction m with
 | zero=>exact qW (by omega) (by omega)
 | succ m ih=>
  have h1:=qW (show 0≤D by omega) (show 0≤Q+1 by omega)
  have h2:=qW (qW (show 0≤D by omega) hK) ih
  simp only [vecB];omega
theorem qgh {K Q:Int} (hD:1≤D) (hK:1≤K) (hQ:0≤Q):∀m,vecB D K Q m≤vecB D K Q (m+1):=by
 intro m
 have h0:=znl hD (show 0≤K by omega) hQ m
 have h1:=qW (show 0≤D by omega) (show 0≤Q+1 by omega)
 have h2:1≤D*K:=by have:=qX hK (show 0≤D by omega);omega
 have h3:=qJ h2 h0
 simp only [vecB]
 omega
theorem qgi {K Q:Int} (hD:1≤D) (hK:1≤K) (hQ:0≤Q):∀c m,vecB D K Q m≤vecB D K Q (m+c):=by
 intro c
 induction c with
 | zero=>intro m;exact xT _
 | succ c ih=>intro m;exact xP (ih m) (qgh hD hK hQ (m+c))
theorem qgj (h:Pos n D a) (h8:n≤8) {K:Int} (hK:1≤K) (ha:∀s,s<n→a s s≤K) (v:Nat→Int) {Q:Int} (hQ:quaK a n 0 v≤Q):∀m k,k+m+1=n→v k≤vecB D K Q m∧ -(vecB D K Q m)≤v k:=by
 have hD:=h.one
 have hQ0:0≤Q:=by have:=zid h v n 0 (by omega);omega
 intro m
 induction m using Nat.strongRecOn with
 | ind m ih=>
 intro k hk
 obtain ⟨b1,b2⟩:=qgg h v hQ (show k<n by omega)
 have rest:∃x,linK a n k k v=lead a (k+1)*v k+x∧x≤(if m=0 then 0 else 8*(D*K*vecB D K Q (m-1)))∧ -(if m=0 then 0 else 8*(D*K*vecB D K Q (m-1)))≤x:=by
  refine ⟨sumR (fun t=>if t=k then 0 else stg a k k t*v t) n,?_,?_⟩
  ·have e:linK a n k k v=sumR (fun t=>(if t=k then stg a k k k*v k else 0)+(if t=k then 0 else stg a k k t*v t)) n:=by
    unfold linK
    refine zas fun t _=>?_
    split
    ·rename_i e;rw [e];omega
    ·omega
   rw [e,zem,zic (k:=k) (by omega) (fun t _ hne=>if_neg hne),if_pos rfl,zay]
  ·by_cases hm:m=0
   ·rw [if_pos hm]
    have:sumR (fun t=>if t=k then 0 else stg a k k t*v t) n=0:=zfd fun t ht=>by
     split
     ·rfl
     ·rw [zra (h.ne (k:=k) (by omega)) k t (by omega)];simp
    rw [this];omega
   ·rw [if_neg hm]
    have hb:=znl hD (show 0≤K by omega) hQ0 (m-1)
    have hDK:0≤D*K:=qW (by omega) (by omega)
    have:=zye (f:=fun t=>if t=k then 0 else stg a k k t*v t) (n:=n) (c:=D*K*vecB D K Q (m-1)) (fun t ht=>by
     have hz:=qW hDK hb
     split
     ·omega
     ·rename_i hne
      rcases qV t k with h1 | h1
      ·rw [zra (h.ne (k:=k) (by omega)) k t h1];omega
      ·obtain ⟨v1,v2⟩:=ih (n-1-t) (by omega) t (by omega)
       have vm:=qgi hD hK hQ0 (m-1-(n-1-t)) (n-1-t)
       have em:n-1-t+(m-1-(n-1-t))=m-1:=by omega
       rw [em] at vm
       have en:=h.entry ht (show k≤t by omega) 0 k (by omega)
       have sy:=zgm h.sym k (by omega) (h.ne (by omega)) k t (by omega) ht (qK _) (by omega)
       have d1:=h.down ht k (by omega)
       have d2:=h.down (show k<n by omega) k (qK _)
       have p0:=h.pos k (by omega)
       have l0:=h.le k (by omega)
       have f:∀s,s<n→lead a k*a s s≤D*K:=fun s hs=>by
        have x1:=qX (ha s hs) (show 0≤lead a k by omega)
        have x2:=qJ l0 (show 0≤K by omega)
        omega
       have f1:=f t ht
       have f2:=f k (by omega)
       rw [sy]
       exact znj (by omega) (by omega) (by omega) (by omega))
    have e8:(n:Int)*(D*K*vecB D K Q (m-1))≤8*(D*K*vecB D K Q (m-1)):=qJ (by omega) (qW hDK hb)
    omega
 obtain ⟨x,e,x1,x2⟩:=rest
 have p1:=h.pos (k+1) (by omega)
 have key:∀{w:Int},lead a (k+1)*v k≤w→ -w≤lead a (k+1)*v k→v k≤w∧ -w≤v k:=by
  intro w h1 h2
  rcases (by omega:v k≤0∨0<v k) with h3 | h3
  ·have:=qJ (show (1:Int)≤lead a (k+1) by omega) (show 0≤ -v k by omega)
   have e2:lead a (k+1)* -v k= -(lead a (k+1)*v k):=by grind
   have:=qW (show 0≤lead a (k+1) by omega) (show 0≤ -v k by omega)
   omega
  ·have:=qJ (show (1:Int)≤lead a (k+1) by omega) (show 0≤v k by omega)
   omega
 by_cases hm:m=0
 ·subst hm
  simp only [if_true] at x1 x2
  simp only [vecB]
  exact key (by omega) (by omega)
 ·obtain ⟨m',rfl⟩:∃m',m=m'+1:=⟨m-1,by omega⟩
  rw [if_neg (by omega)] at x1 x2
  simp only [xG] at x1 x2
  simp only [vecB]
  exact key (by omega) (by omega)
theorem qsm (h:Pos n D a) (h8:n≤8) {K:Int} (hK:1≤K) (ha:∀s,s<n→a s s≤K) (v:Nat→Int) {Q:Int} (hQ:quaK a n 0 v≤Q) {k:Nat} (hk:k<n):v k≤vecB D K Q 7∧ -(vecB D K Q 7)≤v k:=by
 have hQ0:0≤Q:=by have:=zid h v n 0 (by omega);omega
 obtain ⟨h1,h2⟩:=qgj h h8 hK ha v hQ (n-1-k) k (by omega)
 have:=qgi h.one hK hQ0 (7-(n-1-k)) (n-1-k)
 have e:n-1-k+(7-(n-1-k))=7:=by omega
 rw [e] at this
 omega
def znm (a:Nat→Row) (n:Nat) (T:Nat→Nat→Int):Nat→Row:=fun s t=>sumR (fun x=>sumR (fun y=>a x y*T y t) n*T x s) n
theorem qay (T:Nat→Nat→Int) (s:Nat):znm a n T s s=quaK a n 0 (fun x=>T x s):=by
 unfold znm quaK linK
 refine zas fun x _=>?_
 congr 1
 exact zas fun y _=>by rw [zdm]
theorem qgk (T:Nat→Nat→Int) (i j:Nat) (c:Int):znm a n (fun x s=>T x s+if s=i then c*T x j else 0)=addG (znm a n T) i j c:=by
 funext s t
 have col:∀x t,sumR (fun y=>a x y*(T y t+if t=i then c*T y j else 0)) n=sumR (fun y=>a x y*T y t) n+if t=i then c*sumR (fun y=>a x y*T y j) n else 0:=by
  intro x t
  split
  ·rw [←zdd,←zem];exact zas fun y _=>by grind
  ·rw [qM];exact zas fun y _=>by rw [qM]
 show sumR (fun x=>sumR (fun y=>a x y*(T y t+if t=i then c*T y j else 0)) n*(T x s+if s=i then c*T x j else 0)) n=_
 have e1:sumR (fun x=>sumR (fun y=>a x y*(T y t+if t=i then c*T y j else 0)) n*(T x s+if s=i then c*T x j else 0)) n=
   sumR (fun x=>(sumR (fun y=>a x y*T y t) n+if t=i then c*sumR (fun y=>a x y*T y j) n else 0)*(T x s+if s=i then c*T x j else 0)) n:=
  zas fun x _=>by rw [col]
 rw [e1]
 unfold addG znm
 by_cases hs:s=i
 ·by_cases ht:t=i
  ·simp only [hs,ht,if_true,and_self]
   rw [←zdd,←zdd,←zdd,←zem,←zem,←zem]
   exact zas fun x _=>by grind
  ·simp only [hs,ht,if_true,if_false,and_false,qM]
   rw [←zdd,←zem]
   exact zas fun x _=>by grind
 ·by_cases ht:t=i
  ·simp only [hs,ht,if_true,if_false,false_and,qM]
   rw [←zdd,←zem]
   exact zas fun x _=>by grind
  ·simp only [hs,ht,if_false,false_and,qM]
end
end Go.Det
namespace Go.Proofs.YtpflahgcdgdkjaaGreatDoor
open List renaming getD_eq_getElem?_getD → qQ, getElem?_eq_getElem → qY, getElem?_eq_none → qS, ext_getElem → xY
open Int renaming add_zero → qM, mul_comm → xW
open Nat renaming lt_or_ge → qV
set_option linter.unusedSimpArgs false
set_option linter.unusedVariables false
open Go Go.AL Go.Det
def mkM (n:Nat) (f:Nat→Nat→Int):List (List Int):=(List.range n).map fun i=>(List.range n).map fun j=>f i j
theorem zcj (n:Nat) (f:Nat→Nat→Int):Shp n (mkM n f):=by
 refine ⟨by simp [mkM],fun i hi=>?_⟩
 rw [qQ];simp [mkM,hi]
theorem zcd {n:Nat} {f:Nat→Nat→Int} {i j:Nat} (hi:i<n) (hj:j<n):ent (mkM n f) i j=f i j:=by
 unfold ent
 simp [mkM,qQ,hi,hj]
theorem Shp.out {n:Nat} {M:List (List Int)} (h:Shp n M) {i j:Nat} (hij:n≤i∨n≤j):ent M i j=0:=by
 unfold ent
 rcases qV i n with h1 | h1
 ·rw [qQ,qS (by rw [h.row i h1];omega)];rfl
 ·have:M.getD i []=[]:=by rw [qQ,qS (by rw [h.len];exact h1)];rfl
  rw [this];rfl
theorem zrg {n:Nat} {M M':List (List Int)} (h:Shp n M) (h':Shp n M') (he:∀i j,i<n→j<n→ent M i j=ent M' i j):M=M':=by
 refine xY (h.len.trans h'.len.symm) fun i hi hi'=>?_
 have e1:M.getD i []=M[i]:=by rw [qQ,qY hi];rfl
 have e2:M'.getD i []=M'[i]:=by rw [qQ,qY hi'];rfl
 have hin:i<n:=by rw [←h.len];exact hi
 have l1:=h.row i hin
 have l2:=h'.row i hin
 rw [e1] at l1
 rw [e2] at l2
 refine xY (l1.trans l2.symm) fun j hj hj'=>?_
 have:=he i j hin (by omega)
 unfold ent at this
 rw [e1,e2,qQ,qQ,qY hj,qY hj'] at this
 simpa using this
def mulM (n:Nat) (A B:List (List Int)):List (List Int):=mkM n fun i j=>sumR (fun k=>ent A i k*ent B k j) n
def trM (n:Nat) (A:List (List Int)):List (List Int):=mkM n fun i j=>ent A j i
def idM (n:Nat):List (List Int):=mkM n fun i j=>if i=j then 1 else 0
def cgM (n:Nat) (G U:List (List Int)):List (List Int):=mulM n (mulM n (trM n U) G) U
def addU (n i j:Nat) (c:Int):List (List Int):=setM (idM n) j i c
theorem zfe (n:Nat):Shp n (idM n):=zcj n _
theorem zrh (n:Nat) (A B:List (List Int)):Shp n (mulM n A B):=zcj n _
theorem zyf (n:Nat) (G U:List (List Int)):Shp n (cgM n G U):=zcj n _
theorem znn {n i j:Nat} (hi:i<n) (hj:j<n):ent (idM n) i j=if i=j then 1 else 0:=zcd hi hj
theorem zyg {n i j:Nat} {c:Int} (hj:j<n):Shp n (addU n i j c):=(zcj n _).set hj
theorem qmc {n i j x s:Nat} {c:Int} (hij:i≠j) (hi:i<n) (hj:j<n) (hx:x<n) (hs:s<n):ent (addU n i j c) x s=(if x=s then 1 else 0)+(if s=i∧x=j then c else 0):=by
 unfold addU
 rw [(zfe n).ent_set hj hi]
 by_cases h:x=j∧s=i
 ·have h1:¬x=s:=by omega
  have h2:s=i∧x=j:=⟨h.2,h.1⟩
  rw [if_pos h,if_neg h1,if_pos h2];omega
 ·have h2:¬(s=i∧x=j):=fun e=>h ⟨e.2,e.1⟩
  rw [if_neg h,if_neg h2]
  rw [znn hx hs];omega
theorem zri {n i j s:Nat} {c:Int} (hij:i≠j) (hi:i<n) (hj:j<n) (hs:s<n) (f:Nat→Int):sumR (fun x=>f x*ent (addU n i j c) x s) n=f s+if s=i then c*f j else 0:=by
 have e:sumR (fun x=>f x*ent (addU n i j c) x s) n=sumR (fun x=>(if x=s then f s else 0)+(if x=j then (if s=i then c*f j else 0) else 0)) n:=by
  refine zas fun x hx=>?_
  rw [qmc hij hi hj hx hs]
  by_cases h1:x=s
  ·by_cases h2:s=i
   ·have h3:x≠j:=by omega
    rw [if_pos h1,if_neg (by omega),if_pos h1,if_neg h3,h1];omega
   ·rw [if_pos h1,if_neg (by omega),if_pos h1,if_neg h2,h1]
    split<;>omega
  ·by_cases h2:x=j
   ·by_cases h3:s=i
    ·rw [if_neg h1,if_pos ⟨h3,h2⟩,if_neg h1,if_pos h2,if_pos h3,h2];grind
    ·rw [if_neg h1,if_neg (by omega),if_neg h1,if_pos h2,if_neg h3];omega
   ·rw [if_neg h1,if_neg (by omega),if_neg h1,if_neg h2];omega
 rw [e,zem,zic hs (fun t _ hne=>if_neg hne),if_pos rfl,zic hj (fun t _ hne=>if_neg hne),if_pos rfl]
theorem qou {n i j:Nat} {c:Int} {M:List (List Int)} (h:Shp n M) (hij:i≠j) (hi:i<n) (hj:j<n):rowF (cgM n M (addU n i j c))=addG (rowF M) i j c:=by
 funext s t
 show ent (cgM n M (addU n i j c)) s t=addG (rowF M) i j c s t
 by_cases hs:s<n
 ·by_cases ht:t<n
  ·unfold cgM mulM
   rw [zcd hs ht]
   have e:sumR (fun k=>ent (mkM n fun i_1 j_1=>sumR (fun k=>ent (trM n (addU n i j c)) i_1 k*ent M k j_1) n) s k*ent (addU n i j c) k t) n=
     sumR (fun k=>(ent M s k+if s=i then c*ent M j k else 0)*ent (addU n i j c) k t) n:=by
    refine zas fun k hk=>?_
    rw [zcd hs hk]
    congr 1
    have e2:sumR (fun x=>ent (trM n (addU n i j c)) s x*ent M x k) n=sumR (fun x=>ent M x k*ent (addU n i j c) x s) n:=by
     refine zas fun x hx=>?_
     unfold trM
     rw [zcd hs hx,xW]
    rw [e2,zri hij hi hj hs]
   rw [e,zri hij hi hj ht]
   unfold addG rowF
   by_cases h1:s=i
   ·by_cases h2:t=i
    ·simp only [h1,h2,if_true,and_self];grind
    ·simp only [h1,h2,if_true,if_false,and_false,qM]
   ·by_cases h2:t=i
    ·simp only [h1,h2,if_true,if_false,false_and,qM]
    ·simp only [h1,h2,if_false,false_and,qM]
  ·rw [(zyf n _ _).out (.inr (by omega))]
   unfold addG rowF
   have z:∀x,ent M x t=0:=fun x=>h.out (.inr (by omega))
   rw [z,z,if_neg (show ¬t=i by omega),if_neg (show ¬(s=i∧t=i) by omega)]
   split<;>omega
 ·rw [(zyf n _ _).out (.inl (by omega))]
  unfold addG rowF
  have z:∀x,ent M s x=0:=fun x=>h.out (.inl (by omega))
  rw [z,z,if_neg (show ¬s=i by omega),if_neg (show ¬(s=i∧t=i) by omega)]
  split<;>omega
theorem qvv (p s:Nat):sw p (sw p s)=s:=by
 by_cases h1:s=p
 ·rw [h1,sw_p,sw_q]
 ·by_cases h2:s=p+1
  ·rw [h2,sw_q,sw_p]
  ·rw [qaw h1 h2,qaw h1 h2]
theorem qvw {p x s:Nat}:sw p x=s↔x=sw p s:=by
 constructor
 ·intro h;rw [←h,qvv]
 ·intro h;rw [h,qvv]
theorem qsn {n p x s:Nat} (hp:p+1<n) (hx:x<n) (hs:s<n):ent (zde (idM n) (p+1) p) x s=if x=sw p s then 1 else 0:=by
 rw [(zjv (zfe n) hp (by omega)).2]
 show ent (idM n) (sw p x) s=_
 rw [znn (zvx hp hx) hs]
 by_cases h:sw p x=s
 ·rw [if_pos h,if_pos (qvw.1 h)]
 ·rw [if_neg h,if_neg (fun e=>h (qvw.2 e))]
theorem zwa {n p s:Nat} (hp:p+1<n) (hs:s<n) (f:Nat→Int):sumR (fun x=>f x*ent (zde (idM n) (p+1) p) x s) n=f (sw p s):=by
 have e:sumR (fun x=>f x*ent (zde (idM n) (p+1) p) x s) n=sumR (fun x=>if x=sw p s then f (sw p s) else 0) n:=by
  refine zas fun x hx=>?_
  rw [qsn hp hx hs]
  split
  ·rename_i e;rw [e];omega
  ·omega
 rw [e,zic (zvx hp hs) (fun t _ hne=>if_neg hne),if_pos rfl]
theorem qvx {n p:Nat} {M:List (List Int)} (h:Shp n M) (hp:p+1<n):rowF (cgM n M (zde (idM n) (p+1) p))=swG (rowF M) p:=by
 funext s t
 show ent (cgM n M (zde (idM n) (p+1) p)) s t=ent M (sw p s) (sw p t)
 by_cases hs:s<n
 ·by_cases ht:t<n
  ·unfold cgM mulM
   rw [zcd hs ht]
   have e:sumR (fun k=>ent (mkM n fun i_1 j_1=>sumR (fun k=>ent (trM n (zde (idM n) (p+1) p)) i_1 k*ent M k j_1) n) s k*ent (zde (idM n) (p+1) p) k t) n=sumR (fun k=>ent M (sw p s) k*ent (zde (idM n) (p+1) p) k t) n:=by
    refine zas fun k hk=>?_
    rw [zcd hs hk]
    congr 1
    have e2:sumR (fun x=>ent (trM n (zde (idM n) (p+1) p)) s x*ent M x k) n=sumR (fun x=>ent M x k*ent (zde (idM n) (p+1) p) x s) n:=by
     refine zas fun x hx=>?_
     unfold trM
     rw [zcd hs hx,xW]
    rw [e2,zwa hp hs]
   rw [e,zwa hp ht]
  ·have hne:sw p t=t:=qaw (by omega) (by omega)
   rw [(zyf n _ _).out (.inr (by omega)),hne,h.out (.inr (by omega))]
 ·have hne:sw p s=s:=qaw (by omega) (by omega)
  rw [(zyf n _ _).out (.inl (by omega)),hne,h.out (.inl (by omega))]
theorem mul_add {n i j x s:Nat} {c:Int} {T:List (List Int)} (hij:i≠j) (hi:i<n) (hj:j<n) (hx:x<n) (hs:s<n):ent (mulM n T (addU n i j c)) x s=ent T x s+if s=i then c*ent T x j else 0:=by
 unfold mulM
 rw [zcd hx hs,zri hij hi hj hs]
theorem qov {n p x s:Nat} {T:List (List Int)} (hp:p+1<n) (hx:x<n) (hs:s<n):ent (mulM n T (zde (idM n) (p+1) p)) x s=ent T x (sw p s):=by
 unfold mulM
 rw [zcd hx hs,zwa hp hs]
end Go.Proofs.YtpflahgcdgdkjaaGreatDoor
namespace Go.Proofs.YtpflahgcdgdkjaaGreatDoor
open List renaming getD_eq_getElem?_getD → qQ, getElem?_eq_getElem → qY, getElem?_append_right → qC, getD_cons_succ → qL, getElem?_set_self → qR, getD_cons_zero → xZ, set_append_right → xV, ext_getElem → xY, getElem?_set_ne → xU
open Int renaming toNat_natCast → qT, tmod_lt_of_pos → yK, lt_tmod_of_pos → yW
open Nat renaming reduceEqDiff → qZ, sub_self → xK
set_option linter.unusedSimpArgs false
set_option linter.unusedVariables false
open Go Go.AL Go.Proofs Go.Limb
set_option maxRecDepth 100000
theorem qmd {x m:Int} (hm:0<m):Int.tmod (Int.tmod x m+m) m=x%m:=by
 have h1:=yK x hm
 have h2:=yW x hm
 have h3:0≤Int.tmod x m+m:=by omega
 rw [Int.tmod_eq_emod_of_nonneg h3,Int.add_emod_right]
 have h4:=Int.mul_tdiv_add_tmod x m
 have h5:Int.tmod x m=x+m*(-(Int.tdiv x m)):=by rw [Int.mul_neg];omega
 rw [h5,Int.add_mul_emod_self_left]
theorem qso {m:Int} (hm:2≤m∧m≤2147483647):Ret Tryz.prog G 140 [.int .i64 m] [] (.int .i64 0) []:=by
 have d1:decide (m<2)=false:=decide_eq_false (by omega)
 have d2:decide (2147483647<m)=false:=decide_eq_false (by omega)
 refine zai zah Tryz.func140 comp140 _ 9 res140 nt140 (by simp) (by simp) ?_
 simp only [c140,r140_0,r140_1,SS,forall_const,reduceCtorEq,reduceIte,qZ,d1,d2]
 simp only [r140_3,SS]
 exact ⟨.inl trivial,_,rfl,.drop _ _ rfl (by intro i cs h;omega)⟩
theorem qsp {n:Nat} {M:List (List Int)} {a:AV} (h:ImV M a) (hS:Shp n M) (hn:1≤n∧n≤8):Ret Tryz.prog G 139 [a] [] (.bool true) []:=by
 obtain ⟨rows,c,rfl,hl,hr⟩:=h.val
 have hlen:=hS.len
 obtain ⟨c0,he0⟩:=hr 0 (by omega)
 have hc0:=hS.row 0 (by omega)
 have d1:decide ((n:Int)<1)=false:=decide_eq_false (by omega)
 have d2:decide ((16:Int)<(n:Nat))=false:=decide_eq_false (by omega)
 refine zai zah Tryz.func139 comp139 _ 41 res139 nt139 (by simp) (by simp) ?_
 simp only [c139,r139_0,r139_1,SS,forall_const,reduceCtorEq,reduceIte,qZ,he0,hc0,hl,hlen,Int.toNat_zero,d1,d2]
 refine ⟨⟨by omega,by omega⟩,by omega,⟨by omega,by omega⟩,by omega,?_⟩
 simp only [r139_3,SS,reduceCtorEq,reduceIte,qZ]
 refine zal (fun k E H=>∃i,i+k=n∧E 0= .vec rows n c∧E 27= .vec rows n c∧E 28= .int .i64 (n:Nat)∧E 29= .int .i64 (i:Nat)∧H=[]) (n:=n) ⟨0,by omega,by simp only [zaa,zac,xZ,qZ,if_false],by simp only [zaa,zac,qL,qZ,reduceIte,if_false],by simp only [zaa,zac,qL,qZ,reduceIte,if_false],by simp only [zaa,zac,qL,qZ,reduceIte,if_false];rfl,rfl⟩ ?_
 rintro k E H ⟨i,hik,e0,e27,e28,e29,rfl⟩
 refine zaf zah ?_
 simp only [l139_0,r139_4,SS,reduceCtorEq,reduceIte,e28,e29]
 refine ⟨fun hlt=>?_,fun hge=>?_⟩
 ·obtain ⟨k,rfl⟩:∃k',k=k'+1:=⟨k-1,by omega⟩
  obtain ⟨ci,hei⟩:=hr i (by omega)
  have hci:=hS.row i (by omega)
  have w5:IntKind.i64.wrap ((i:Int)+1)=((i+1:Nat):Int):=by rw [show (i:Int)+1=((i+1:Nat):Int) by omega];exact w64 (by omega) (by omega)
  simp only [r139_5,r139_6,SS,forall_const,reduceCtorEq,reduceIte,qZ,e0,e27,e29,qT,Int.toNat_zero,he0,hc0,hei,hci,hl,hlen]
  refine ⟨⟨by omega,by omega⟩,by omega,⟨by omega,by omega⟩,by omega,fun hne=>absurd rfl hne,fun _=>?_⟩
  simp only [r139_8,SS,reduceIte,qZ,e29,w5]
  refine ⟨k,_,_,by omega,⟨i+1,by omega,?_,?_,?_,?_,rfl⟩,.refl⟩<;>simp only [zaa,qZ,reduceIte,if_false, *]
 ·simp only [r139_9,SS]
  exact ⟨.inl trivial,_,rfl,.drop _ _ rfl (by intro i cs h;omega)⟩
def modM (n:Nat) (M:List (List Int)) (m:Int):List (List Int):=mkM n fun i j=>ent M i j%m
theorem qme {n:Nat} {M:List (List Int)} {rows:List AV} {c:Option Nat} (hn:1≤n∧n≤8) (hS:Shp n M) (hf:∀i j,In64 (ent M i j)) {m:Int} (hm:2≤m∧m≤2147483647) {i:Nat} (hi:i<n) {ci:Option Nat} {rs:List (List Int)} (hrl:rs.length=i+1) (hr0:(rs.getD i []).length=n) {E:Env} {Q:Post}
  (e0:E 0= .vec rows n c) (e1:E 1= .int .i64 m) (e5:E 5= .sl 0 0 n 1 (some n)) (e6:E 6= .int .i64 (i:Nat)) (e13:E 13= .vec rows n c) (e14:E 14= .int .i64 (n:Nat)) (e15:E 15= .int .i64 (i:Nat)) (e26:E 26= .vec (i64z (M.getD i [])) n ci) (e27:E 27= .int .i64 (n:Nat)) (e28:E 28= .int .i64 0)
  (hQ:∀E' r,r.length=n→(∀j,j<n→r.getD j 0=ent M i j%m)→E' 0= .vec rows n c→E' 1= .int .i64 m→E' 5= .sl 0 0 n 1 (some n)→E' 13= .vec rows n c→E' 14= .int .i64 (n:Nat)→E' 15= .int .i64 (i:Nat)→Q (.exit 2) E' (bH n n (rs.set i r))):
  W Tryz.prog G 0 49 (.loop l141_1) E (bH n n rs) Q:=by
 refine zal (fun k E H=>∃j r,j+k=n∧r.length=n∧(∀t,t<j→r.getD t 0=ent M i t%m)∧H=bH n n (rs.set i r)∧E 0= .vec rows n c∧E 1= .int .i64 m∧E 5= .sl 0 0 n 1 (some n)∧E 6= .int .i64 (i:Nat)∧E 13= .vec rows n c∧E 14= .int .i64 (n:Nat)∧E 15= .int .i64 (i:Nat)∧
  E 26= .vec (i64z (M.getD i [])) n ci∧E 27= .int .i64 (n:Nat)∧E 28= .int .i64 (j:Nat)) (n:=n)
  ⟨0,rs.getD i [],by omega,hr0,fun t ht=>absurd ht (by omega),?_,e0,e1,e5,e6,e13,e14,e15,e26,e27,e28⟩ ?_
 ·congr 1
  refine xY (by simp) fun t h1 h2=>?_
  rw [List.getElem_set]
  split
  ·rename_i e;subst e;rw [qQ,qY h1];rfl
  ·rfl
 clear e0 e1 e5 e6 e13 e14 e15 e26 e27 e28 E
 rintro k E H ⟨j,r,hjk,hrm,hr,rfl,e0,e1,e5,e6,e13,e14,e15,e26,e27,e28⟩
 refine zaf zah ?_
 simp only [l141_1,r141_7,SS,reduceIte,e27,e28]
 refine ⟨fun hlt=>?_,fun hge=>?_⟩
 ·obtain ⟨k,rfl⟩:∃k',k=k'+1:=⟨k-1,by omega⟩
  have hj:j<n:=by omega
  have lM:=hS.row i hi
  have g1:(i64z (M.getD i [])).getD j .junk= .int .i64 (ent M i j):=zbv _ j (by omega) _
  have w5:IntKind.i64.wrap ((j:Int)+1)=((j+1:Nat):Int):=by rw [show (j:Int)+1=((j+1:Nat):Int) by omega];exact w64 (by omega) (by omega)
  have hset:(rs.set i r).length=i+1:=by simp [hrl]
  have gr:=zfl (N:=n) (n:=n) (i:=i) (rows:=rs.set i r) (by omega)
  have gri:(rs.set i r).getD i []=r:=by rw [qQ,qR (by omega)];rfl
  rw [gri] at gr
  have go:getB (bH n n (rs.set i r)) 0=some (outS n n (i+1)):=by rw [zdv,hset]
  have gol:=zek (N:=n) (n:=n) (i:=i+1) (by omega)
  have gog:=zel (N:=n) (n:=n) (i:=i+1) (k:=i) (by omega)
  have h1:=yK (ent M i j) (show 0<m by omega)
  have h2:=yW (ent M i j) (show 0<m by omega)
  have h3:=Int.emod_nonneg (ent M i j) (show m≠0 by omega)
  have h4:=Int.emod_lt_of_pos (ent M i j) (show 0<m by omega)
  have t1:=qmd (x:=ent M i j) (show 0<m by omega)
  have w1:IntKind.i64.wrap (Int.tmod (ent M i j) m)=Int.tmod (ent M i j) m:=w64 (by omega) (by omega)
  have w2:IntKind.i64.wrap (Int.tmod (ent M i j) m+m)=Int.tmod (ent M i j) m+m:=w64 (by omega) (by omega)
  have w3:IntKind.i64.wrap (ent M i j%m)=ent M i j%m:=w64 (by omega) (by omega)
  simp only [r141_8,r141_9,SS,forall_const,reduceIte,qZ,e1,e5,e6,e26,e28,qT,go,gol,gog,lM,g1,zax,w2,t1,gr,hrm,zdl]
  refine ⟨⟨by omega,by omega⟩,by omega,⟨by omega,by omega⟩,by omega,by omega,by omega,⟨by omega,by omega⟩,by omega,rfl,?_⟩
  simp only [r141_10,SS,reduceIte,qZ,e28,w5,zgs]
  refine ⟨k,_,_,by omega,⟨j+1,r.set j (ent M i j%m),by omega,by simp [hrm],fun t ht=>?_,?_,?_,?_,?_,?_,?_,?_,?_,?_,?_,?_⟩,.refl⟩
  ·rw [qQ]
   rcases (by omega:t<j∨t=j) with e | e
   ·rw [xU (by omega),←qQ];exact hr t e
   ·rw [e,qR (by omega)];rfl
  ·rw [List.set_set]
  all_goals simp only [zaa,qZ,reduceIte,if_false, *]
 ·have hjm:j=n:=by omega
  subst hjm
  exact hQ _ r hrm hr (by simp only [zaa,qZ,if_false,e0]) (by simp only [zaa,qZ,if_false,e1]) (by simp only [zaa,qZ,if_false,e5]) (by simp only [zaa,qZ,if_false,e13]) (by simp only [zaa,qZ,if_false,e14]) (by simp only [zaa,qZ,if_false,e15])
theorem qaz {T:List (List Int)} {i:Nat} (hi:i<T.length):T.take i++[T.getD i []]=T.take (i+1):=by
 rw [List.take_add_one,qQ,qY hi];rfl
theorem qxo {n:Nat} {M:List (List Int)} {a:AV} (h:ImV M a) (hS:Shp n M) (hn:1≤n∧n≤8) {m:Int} (hm:2≤m∧m≤2147483647):Ret Tryz.prog G 141 [a,.int .i64 m] [] (.vec (zcp n (modM n M m)) n (some n)) []:=by
 have hf:=h.fit
 obtain ⟨rows,c,rfl,hl,hr⟩:=h.val
 have hlen:=hS.len
 have hTs:Shp n (modM n M m):=zcj _ _
 rw [hlen]
 refine zai zah Tryz.func141 comp141 _ 49 res141 nt141 (by simp) (by simp) ?_
 simp only [c141,r141_0,r141_1,SS,reduceCtorEq,reduceIte,qZ,qT]
 refine ⟨by decide,⟨by omega,by omega,by omega,by omega⟩,?_⟩
 simp only [r141_2,SS,reduceCtorEq,reduceIte,qZ]
 have hb0:[some (List.replicate n (AV.vec [] 0 (some 0)))]=bH n n []:=rfl
 rw [hb0]
 refine zal (fun k E H=>∃i,i+k=n∧H=bH n n ((modM n M m).take i)∧E 0= .vec rows n c∧E 1= .int .i64 m∧E 5= .sl 0 0 n 1 (some n)∧E 13= .vec rows n c∧E 14= .int .i64 (n:Nat)∧E 15= .int .i64 (i:Nat)) (n:=n)
  ⟨0,by omega,rfl,by simp only [zaa,zac,xZ,qZ,if_false],by simp only [zaa,zac,xZ,qL,qZ,if_false],by simp only [zaa,zac,qL,qZ,reduceIte,if_false],by simp only [zaa,zac,qL,qZ,reduceIte,if_false],by simp only [zaa,zac,qL,qZ,reduceIte,if_false],by simp only [zaa,zac,qL,qZ,reduceIte,if_false];rfl⟩ ?_
 rintro k E H ⟨i,hik,rfl,e0,e1,e5,e13,e14,e15⟩
 refine zaf zah ?_
 simp only [l141_0,r141_3,SS,reduceCtorEq,reduceIte,e14,e15]
 refine ⟨fun hlt=>?_,fun hge=>?_⟩
 ·obtain ⟨k,rfl⟩:∃k',k=k'+1:=⟨k-1,by omega⟩
  have hi:i<n:=by omega
  have hTl:=hTs.len
  obtain ⟨ci,hei⟩:=hr i (by omega)
  have hci:=hS.row i hi
  have htl:((modM n M m).take i).length=i:=by rw [List.length_take];omega
  have w5:IntKind.i64.wrap ((i:Int)+1)=((i+1:Nat):Int):=by rw [show (i:Int)+1=((i+1:Nat):Int) by omega];exact w64 (by omega) (by omega)
  have hbl:(bH n n ((modM n M m).take i)).length=i+1:=by rw [zxu,htl]
  have go:getB (bH n n ((modM n M m).take i)++[some (i64z (List.replicate n 0))]) 0=some (outS n n i):=by
   have:getB (bH n n ((modM n M m).take i)) 0=some (outS n n i):=by rw [zdv,htl]
   exact this
  have gol:=zek (N:=n) (n:=n) (i:=i) (by omega)
  have hnew:=zxv (N:=n) (n:=n) (rows:=(modM n M m).take i) (List.replicate n 0) (by omega)
  rw [htl] at hnew
  simp only [r141_4,r141_5,SS,forall_const,reduceIte,qZ,e5,e13,e15,qT,hei,hci,hl,hlen,hbl,zjs,go,gol]
  refine ⟨⟨by omega,by omega⟩,by omega,by decide,⟨by omega,by omega,by omega,by omega⟩,⟨by omega,by omega⟩,by omega,?_⟩
  rw [hnew]
  simp only [r141_6,SS,reduceIte,qZ]
  refine qme (rows:=rows) (c:=c) hn hS hf hm hi (ci:=ci) (rs:=(modM n M m).take i++[List.replicate n 0]) (by simp;omega) ?_ (by simp only [zaa,qZ,if_false,e0]) (by simp only [zaa,qZ,if_false,e1]) (by simp only [zaa,qZ,if_false,e5]) (by simp only [zaa,qZ,reduceIte,if_false]) (by simp only [zaa,qZ,if_false,e13]) (by simp only [zaa,qZ,if_false,e14]) (by simp only [zaa,qZ,if_false,e15]) (by simp only [zaa,qZ,reduceIte,if_false]) (by simp only [zaa,qZ,reduceIte,if_false]) (by simp only [zaa,qZ,reduceIte,if_false]) ?_
  ·rw [qQ,qC (by omega),htl,xK]
   simp
  intro E' r hrm hr' f0 f1 f5 f13 f14 f15
  have er:r=(modM n M m).getD i []:=by
   have hTi:=hTs.row i hi
   refine xY (by omega) fun t h1 h2=>?_
   have h3:=hr' t (by omega)
   have h4:ent (modM n M m) i t=ent M i t%m:=zcd hi (by omega)
   rw [←h4] at h3
   unfold ent at h3
   rw [qQ,qY h1,qQ (l:=(modM n M m).getD i []),qY h2] at h3
   exact h3
  have eset:((modM n M m).take i++[List.replicate n 0]).set i r=(modM n M m).take (i+1):=by
   rw [xV _ _ (by omega),htl,xK,er]
   exact qaz (by omega)
  rw [eset]
  simp only [r141_11,SS,reduceCtorEq,reduceIte,qZ,f15,w5]
  refine ⟨k,_,_,by omega,⟨i+1,by omega,rfl,?_,?_,?_,?_,?_,?_⟩,.refl⟩
  all_goals simp only [zaa,qZ,reduceIte,if_false, *]
 ·have hin:i=n:=by omega
  have htl:(modM n M m).take i=modM n M m:=List.take_of_length_le (by rw [hTs.len];omega)
  rw [htl]
  simp only [r141_12,SS,reduceIte,qZ,e5]
  refine ⟨.inl trivial,_,rfl,.freeze 3 _ _ _ ?_ (by intro i cs h;omega)⟩
  exact qft hTs.len hTs.row
theorem qba {n:Nat} {M:List (List Int)} {a:AV} (h:ImV M a) (hS:Shp n M) (hn:1≤n∧n≤8) {m:Int} (hm:2≤m∧m≤2147483647):Ret Tryz.prog G 72 [a,.int .i64 m] [] (.tup [.vec (zcp n (modM n M m)) n (some n),.int .i64 0]) []:=by
 have t1:=qsp h hS hn
 have t2:=qso hm
 have t3:=qxo h hS hn hm
 have hc:AV.closed (.vec (zcp n (modM n M m)) n (some n))=true:=rfl
 obtain ⟨rows,c,rfl,hl,hr⟩:=h.val
 refine zai zah Tryz.func72 comp72 _ 18 res72 nt72 (by simp) (by simp) ?_
 simp only [c72,r72_0,r72_1,SS,reduceCtorEq,reduceIte]
 refine zab t1 ?_
 simp only [SS,forall_const,reduceIte,qZ]
 simp only [r72_3,SS,reduceIte,qZ]
 refine zab t2 ?_
 simp only [SS,reduceIte,qZ]
 simp only [r72_4,SS,reduceIte,qZ]
 refine ⟨fun hne=>absurd rfl hne,fun _=>?_⟩
 simp only [r72_6,SS,reduceCtorEq,reduceIte,qZ]
 refine zab t3 ?_
 simp only [SS,reduceIte,qZ]
 exact ⟨.inl trivial,_,rfl,.drop _ _ rfl (by intro i cs h;omega)⟩
end Go.Proofs.YtpflahgcdgdkjaaGreatDoor
namespace Go.Count
open List renaming getD_eq_getElem?_getD → qQ, getElem?_append_right → qC, append_assoc → qD, nil_append → qE, length_append → qN, getElem?_set_self → qR, length_cons → xQ, set_append_right → xV, getElem?_set_ne → xU, flatMap_cons → xL, countP_cons → xM, getElem?_replicate → xN, foldl_cons → xR, replicate_succ' → yQ, range_eq_range' → yX, replicate_zero → yZ, countP_append → yV, range'_succ → yE, range_succ → yL, countP_nil → yO
open Nat renaming le_refl → qK, zero_add → xC, add_mod → xH, mul_mod → xI, add_zero → xO, pow_succ → yY, zero_mod → yB, add_mul → yI
open Option renaming map_some → yN
open Option.some renaming injEq → qI
set_option linter.unusedSimpArgs false
set_option linter.unusedVariables false
section
variable (g:List (List Nat)) (n M:Nat)
def addR (row:List Nat):Nat→Nat→List Nat→List Nat
 | 0,_,l=>l
 | k+1,j,l=>addR row k (j+1) (l.set j ((l.getD j 0+row.getD j 0)%M))
def bump:Nat→Nat→Nat→List Nat→List Nat→Option (Nat×List Nat×List Nat)
 | 0,_,_,_,_=>none
 | k+1,i,norm,inner,x=>
  if x.getD i 0+1<M then some ((norm+2*inner.getD i 0+(g.getD i []).getD i 0)%M,addR M (g.getD i []) n 0 inner,x.set i (x.getD i 0+1))
  else bump k (i+1) ((norm+2*inner.getD i 0+(g.getD i []).getD i 0)%M) (addR M (g.getD i []) n 0 inner) ((x.set i (x.getD i 0+1)).set i 0)
def runC:Nat→List Nat→Nat→List Nat→List Nat→Option (List Nat)
 | 0,_,_,_,_=>none
 | f+1,cts,norm,inner,x=>match bump g n M n 0 norm inner x with
  | none=>some (cts.set norm (cts.getD norm 0+1))
  | some (norm',inner',x')=>runC f (cts.set norm (cts.getD norm 0+1)) norm' inner' x'
end
def ent (g:List (List Nat)) (i j:Nat):Nat:=(g.getD i []).getD j 0
def sumN (f:Nat→Nat):Nat→Nat
 | 0=>0
 | n+1=>sumN f n+f n
def gx (g:List (List Nat)) (n:Nat) (x:List Nat) (j:Nat):Nat:=sumN (fun i=>ent g i j*x.getD i 0) n
def nrm (g:List (List Nat)) (n:Nat) (x:List Nat):Nat:=sumN (fun j=>gx g n x j*x.getD j 0) n
theorem zdo {f h:Nat→Nat} {n:Nat} (e:∀i,i<n→f i=h i):sumN f n=sumN h n:=by
 induction n with
 | zero=>rfl
 | succ n ih=>simp only [sumN];rw [ih (fun i hi=>e i (by omega)),e n (by omega)]
theorem zie (f h:Nat→Nat) (n:Nat):sumN (fun i=>f i+h i) n=sumN f n+sumN h n:=by
 induction n with
 | zero=>rfl
 | succ n ih=>simp only [sumN,ih];omega
theorem qmf (f:Nat→Nat) (c n:Nat):sumN (fun i=>f i*c) n=sumN f n*c:=by
 induction n with
 | zero=>simp [sumN]
 | succ n ih=>simp only [sumN,ih,yI]
theorem zfy {f:Nat→Nat} {n:Nat} (e:∀i,i<n→f i=0):sumN f n=0:=by
 induction n with
 | zero=>rfl
 | succ n ih=>simp only [sumN];rw [ih (fun i hi=>e i (by omega)),e n (by omega)]
theorem zrj {f:Nat→Nat} {n i:Nat} (hi:i<n) (e:∀j,j<n→j≠i→f j=0):sumN f n=f i:=by
 induction n with
 | zero=>omega
 | succ n ih=>
  simp only [sumN]
  by_cases h:i=n
  ·subst h
   rw [zfy (fun j hj=>e j (by omega) (by omega)),xC]
  ·rw [ih (by omega) (fun j hj hne=>e j (by omega) hne),e n (by omega) (by omega),xO]
theorem zyh {f h:Nat→Nat} {n M:Nat} (e:∀i,i<n→f i%M=h i%M):sumN f n%M=sumN h n%M:=by
 induction n with
 | zero=>rfl
 | succ n ih=>
  simp only [sumN]
  rw [xH,ih (fun i hi=>e i (by omega)),e n (by omega),←xH]
theorem zjy {x:List Nat} {i j a:Nat} (hi:i<x.length):(x.set i a).getD j 0=if j=i then a else x.getD j 0:=by
 rw [qQ]
 by_cases h:j=i
 ·subst h;rw [qR hi,if_pos rfl];rfl
 ·rw [xU (fun e=>h e.symm),if_neg h,qQ]
theorem qgl {g:List (List Nat)} {n i j:Nat} {x:List Nat} (hx:x.length=n) (hi:i<n):gx g n (x.set i (x.getD i 0+1)) j=gx g n x j+ent g i j:=by
 unfold gx
 have e:sumN (fun k=>ent g k j*(x.set i (x.getD i 0+1)).getD k 0) n=sumN (fun k=>ent g k j*x.getD k 0+(if k=i then ent g i j else 0)) n:=by
  refine zdo fun k _=>?_
  rw [zjy (by omega)]
  split
  ·rename_i h;subst h;rw [Nat.mul_add,Nat.mul_one]
  ·rw [xO]
 rw [e,zie,zrj hi (f:=fun k=>if k=i then ent g i j else 0) (fun k _ hne=>if_neg hne),if_pos rfl]
theorem qmg {g:List (List Nat)} {n i:Nat} {x:List Nat} (hx:x.length=n) (hi:i<n) (hs:∀j k,j<n→k<n→ent g j k=ent g k j):
  nrm g n (x.set i (x.getD i 0+1))=nrm g n x+2*gx g n x i+ent g i i:=by
 unfold nrm
 have e:sumN (fun j=>gx g n (x.set i (x.getD i 0+1)) j*(x.set i (x.getD i 0+1)).getD j 0) n=sumN (fun j=>gx g n x j*x.getD j 0+(ent g j i*x.getD j 0+(if j=i then gx g n x i+ent g i i else 0))) n:=by
  refine zdo fun j hj=>?_
  rw [qgl hx hi,zjy (by omega),hs j i hj hi]
  split
  ·rename_i h;subst h
   simp only [yI,Nat.mul_add,Nat.mul_one]
   omega
  ·simp only [yI,xO]
 rw [e,zie,zie,zrj hi (f:=fun j=>if j=i then gx g n x i+ent g i i else 0) (fun k _ hne=>if_neg hne),if_pos rfl]
 have:sumN (fun j=>ent g j i*x.getD j 0) n=gx g n x i:=rfl
 omega
theorem qow {g:List (List Nat)} {n j M:Nat} {x y:List Nat} (h:∀i,i<n→x.getD i 0%M=y.getD i 0%M):gx g n x j%M=gx g n y j%M:=
 zyh fun i hi=>by rw [xI,h i hi,←xI]
theorem qsq {g:List (List Nat)} {n M:Nat} {x y:List Nat} (h:∀i,i<n→x.getD i 0%M=y.getD i 0%M):nrm g n x%M=nrm g n y%M:=
 zyh fun i hi=>by rw [xI,qow h,h i hi,←xI]
theorem qmh (M:Nat) (row:List Nat):∀(k j:Nat) (l:List Nat),(addR M row k j l).length=l.length:=by
 intro k
 induction k with
 | zero=>intro j l;rfl
 | succ k ih=>intro j l;simp only [addR];rw [ih];simp
theorem qmi {M:Nat} (row:List Nat):∀(k j:Nat) (l:List Nat),j+k≤l.length→∀i,(addR M row k j l).getD i 0=if j≤i∧i<j+k then (l.getD i 0+row.getD i 0)%M else l.getD i 0:=by
 intro k
 induction k with
 | zero=>intro j l _ i;simp only [addR];rw [if_neg (by omega)]
 | succ k ih=>
  intro j l h i
  simp only [addR]
  rw [ih _ _ (by simp;omega),zjy (by omega)]
  by_cases h1:i=j
  ·subst h1
   rw [if_neg (by omega),if_pos rfl,if_pos (by omega)]
  ·rw [if_neg h1]
   by_cases h2:j+1≤i∧i<j+1+k
   ·rw [if_pos h2,if_pos (by omega)]
   ·rw [if_neg h2,if_neg (by omega)]
structure At (g:List (List Nat)) (n M:Nat) (norm:Nat) (inner x:List Nat):Prop where
 xlen:x.length=n
 ilen:inner.length=n
 norm:norm=nrm g n x%M
 inner:∀j,j<n→inner.getD j 0=gx g n x j%M
theorem qsr {g:List (List Nat)} {n M norm:Nat} {inner x:List Nat} {i:Nat} (h:At g n M norm inner x) (hi:i<n) (hs:∀j k,j<n→k<n→ent g j k=ent g k j):
  At g n M ((norm+2*inner.getD i 0+(g.getD i []).getD i 0)%M) (addR M (g.getD i []) n 0 inner) (x.set i (x.getD i 0+1)):=by
 refine ⟨by simp [h.xlen],by rw [qmh,h.ilen],?_,fun j hj=>?_⟩
 ·rw [qmg h.xlen hi hs,h.norm,h.inner i hi]
  show (nrm g n x%M+2*(gx g n x i%M)+ent g i i)%M=_
  simp only [xH,xI,Nat.mod_mod]
 ·rw [qmi _ _ _ _ (by rw [h.ilen];omega),if_pos (by omega),h.inner j hj,qgl h.xlen hi]
  show (gx g n x j%M+ent g i j)%M=_
  rw [xH,Nat.mod_mod,←xH]
theorem qss {g:List (List Nat)} {n M norm:Nat} {inner x:List Nat} {i:Nat} (h:At g n M norm inner x) (hi:i<n) (hM:x.getD i 0%M=0):At g n M norm inner (x.set i 0):=by
 have e:∀k,k<n→(x.set i 0).getD k 0%M=x.getD k 0%M:=by
  intro k hk
  rw [zjy (by rw [h.xlen];exact hi)]
  split
  ·rename_i e;subst e;rw [hM,yB]
  ·rfl
 exact ⟨by simp [h.xlen],h.ilen,by rw [qsq e];exact h.norm,fun j hj=>by rw [qow e];exact h.inner j hj⟩
def inc (M:Nat):List Nat→Option (List Nat)
 | []=>none
 | a::r=>if a+1<M then some ((a+1)::r) else (inc M r).map (0:: ·)
theorem qgm {g:List (List Nat)} {n M:Nat} (hM:0<M) (hs:∀j k,j<n→k<n→ent g j k=ent g k j):∀(r:List Nat) (i norm:Nat) (inner:List Nat),i+r.length=n→(∀a∈r,a<M)→At g n M norm inner (List.replicate i 0++r)→
  match inc M r with
  | none=>bump g n M r.length i norm inner (List.replicate i 0++r)=none
  | some r'=>∃norm' inner',bump g n M r.length i norm inner (List.replicate i 0++r)=some (norm',inner',List.replicate i 0++r')∧At g n M norm' inner' (List.replicate i 0++r'):=by
 intro r
 induction r with
 | nil=>intro i norm inner _ _ _;rfl
 | cons a r ih=>
  intro i norm inner hl ha h
  have hi:i<n:=by simp at hl;omega
  have hst:=qsr h hi hs
  have hg:(List.replicate i 0++a::r).getD i 0=a:=by
   rw [qQ,qC (by simp)];simp
  have hset:∀b:Nat,(List.replicate i 0++a::r).set i b=List.replicate i 0++b::r:=by
   intro b;rw [xV _ _ (by simp)];simp
  rw [hg,hset] at hst
  simp only [inc,xQ,bump,hg,hset]
  by_cases hlt:a+1<M
  ·simp only [if_pos hlt]
   exact ⟨_,_,rfl,hst⟩
  ·simp only [if_neg hlt]
   have haM:a+1=M:=by have:=ha a (by simp);omega
   have hset2:(List.replicate i 0++(a+1)::r).set i 0=List.replicate (i+1) 0++r:=by
    rw [xV _ _ (by simp),yQ,qD];simp
   have hg2:(List.replicate i 0++(a+1)::r).getD i 0=a+1:=by
    rw [qQ,qC (by simp)];simp
   have hw:=qss hst hi (by rw [hg2,haM,Nat.mod_self])
   rw [hset2] at hw ⊢
   have:=ih (i+1) _ _ (by simp at hl;omega) (fun b hb=>ha b (by simp [hb])) hw
   cases hinc:inc M r with
   | none=>rw [hinc] at this;exact this
   | some r'=>
    rw [hinc] at this
    obtain ⟨norm',inner',h1,h2⟩:=this
    have e:List.replicate (i+1) 0++r'=List.replicate i 0++0::r':=by rw [yQ,qD];rfl
    rw [e] at h1 h2
    exact ⟨norm',inner',h1,h2⟩
def allV (M:Nat):Nat→List (List Nat)
 | 0=>[[]]
 | n+1=>(allV M n).flatMap fun r=>(List.range M).map fun a=>a::r
inductive Chain (M:Nat):List Nat→List (List Nat)→Prop
 | last {x:List Nat}:inc M x=none→Chain M x [x]
 | next {x y:List Nat} {l:List (List Nat)}:inc M x=some y→Chain M y l→Chain M x (x::l)
theorem qbb {M:Nat} {r:List Nat} {l:List (List Nat)} (h:Chain M r l):∀(k a:Nat),a+k+1=M→Chain M (a::r) (((List.range' a (k+1)).map fun b=>b::r)++l.tail.flatMap fun s=>(List.range M).map fun b=>b::s):=by
 induction h with
 | last hn=>
  rename_i x
  intro k
  induction k with
  | zero=>
   intro a ha
   refine .last ?_
   simp only [inc]
   rw [if_neg (by omega),hn];rfl
  | succ k ih=>
   intro a ha
   rw [yE]
   refine .next (y:=(a+1)::x) ?_ (ih (a+1) (by omega))
   simp only [inc]
   rw [if_pos (by omega)]
 | next hn hc ih0=>
  rename_i x y l
  intro k
  induction k with
  | zero=>
   intro a ha
   have:=ih0 (M-1) 0 (by omega)
   refine .next (y:=0::y) ?_ ?_
   ·simp only [inc]
    rw [if_neg (by omega),hn];rfl
   ·have e:(List.range' 0 (M-1+1)).map (fun b=>b::y)=(List.range M).map fun b=>b::y:=by
     rw [yX,show M-1+1=M by omega]
    rw [e] at this
    cases hc with
    | last h1=>simpa using this
    | next h1 h2=>simpa using this
  | succ k ih=>
   intro a ha
   rw [yE]
   refine .next (y:=(a+1)::x) ?_ (ih (a+1) (by omega))
   simp only [inc]
   rw [if_pos (by omega)]
theorem qbc {M:Nat} {x:List Nat} {l:List (List Nat)} (h:Chain M x l):l=x::l.tail:=by
 cases h<;>rfl
theorem chain_all {M:Nat} (hM:0<M):∀n,Chain M (List.replicate n 0) (allV M n):=by
 intro n
 induction n with
 | zero=>exact .last rfl
 | succ n ih=>
  have:=qbb ih (M-1) 0 (by omega)
  have h2:=qbc ih
  have e:allV M (n+1)=((List.range' 0 (M-1+1)).map fun b=>b::List.replicate n 0)++(allV M n).tail.flatMap fun s=>(List.range M).map fun b=>b::s:=by
   show (allV M n).flatMap _=_
   rw [h2,xL,show M-1+1=M by omega,←yX]
   rw [←h2]
  rw [e]
  exact this
def tally (c:List Nat) (s:Nat):List Nat:=c.set s (c.getD s 0+1)
theorem qgn {g:List (List Nat)} {n M:Nat} (hM:0<M) (hs:∀j k,j<n→k<n→ent g j k=ent g k j) {x:List Nat} {l:List (List Nat)} (h:Chain M x l):
  ∀{f norm:Nat} {inner cts:List Nat},l.length≤f→(∀a∈x,a<M)→At g n M norm inner x→runC g n M f cts norm inner x=some (l.foldl (fun c y=>tally c (nrm g n y%M)) cts):=by
 induction h with
 | last hn=>
  rename_i x
  intro f norm inner cts hf hx ha
  obtain ⟨f,rfl⟩:∃k,f=k+1:=⟨f-1,by simp at hf;omega⟩
  have:=qgm hM hs x 0 norm inner (by rw [xC];exact ha.xlen) hx (by simpa using ha)
  rw [hn] at this
  simp only [yZ,qE,ha.xlen] at this
  simp only [runC,this,xR,List.foldl_nil,tally]
  rw [←ha.norm]
 | next hn hc ih=>
  rename_i x y l
  intro f norm inner cts hf hx ha
  obtain ⟨f,rfl⟩:∃k,f=k+1:=⟨f-1,by simp at hf;omega⟩
  have:=qgm hM hs x 0 norm inner (by rw [xC];exact ha.xlen) hx (by simpa using ha)
  rw [hn] at this
  simp only [yZ,qE,ha.xlen] at this
  obtain ⟨norm',inner',h1,h2⟩:=this
  have hy:∀a∈y,a<M:=by
   have key:∀(r r':List Nat),(∀a∈r,a<M)→inc M r=some r'→∀a∈r',a<M:=by
    intro r
    induction r with
    | nil=>intro r' _ h;simp [inc] at h
    | cons b r ihr=>
     intro r' hr h
     simp only [inc] at h
     split at h
     ·simp only [qI] at h
      subst h
      intro a ha
      rcases List.mem_cons.1 ha with e | e
      ·omega
      ·exact hr a (by simp [e])
     ·cases hi:inc M r with
      | none=>rw [hi] at h;simp at h
      | some s=>
       rw [hi] at h
       simp only [yN,qI] at h
       subst h
       intro a ha
       rcases List.mem_cons.1 ha with e | e
       ·omega
       ·exact ihr s (fun c hc=>hr c (by simp [hc])) hi a e
   exact key _ _ hx hn
  have hr:=ih (f:=f) (cts:=tally cts (nrm g n x%M)) (by simp at hf;omega) hy h2
  simp only [runC,h1,xR,←ha.norm] at hr ⊢
  rw [←hr]
  rfl
theorem tally_len (c:List Nat) (s:Nat):(tally c s).length=c.length:=by simp [tally]
theorem tally_get {c:List Nat} {s t:Nat} (hs:s<c.length):(tally c s).getD t 0=c.getD t 0+if t=s then 1 else 0:=by
 unfold tally
 rw [zjy hs]
 split
 ·rename_i h;subst h;rfl
 ·rfl
theorem zno (f:List Nat→Nat) (M:Nat):∀(l:List (List Nat)) (c:List Nat),c.length=M→(∀y∈l,f y<M)→(l.foldl (fun c y=>tally c (f y)) c).length=M∧∀t,(l.foldl (fun c y=>tally c (f y)) c).getD t 0=c.getD t 0+l.countP fun y=>decide (f y=t):=by
 intro l
 induction l with
 | nil=>intro c hc _;exact ⟨hc,fun t=>by simp⟩
 | cons y l ih=>
  intro c hc hf
  obtain ⟨h1,h2⟩:=ih (tally c (f y)) ((tally_len _ _).trans hc) (fun z hz=>hf z (by simp [hz]))
  refine ⟨h1,fun t=>?_⟩
  rw [xR,h2,tally_get (by rw [hc];exact hf y (by simp)),xM]
  by_cases h:t=f y
  ·rw [if_pos h,decide_eq_true h.symm];simp;omega
  ·rw [if_neg h,decide_eq_false (fun e=>h e.symm)];simp
theorem allV_len (M:Nat):∀n,(allV M n).length=M^n:=by
 intro n
 induction n with
 | zero=>rfl
 | succ n ih=>
  have:∀l:List (List Nat),(l.flatMap fun r=>(List.range M).map fun a=>a::r).length=l.length*M:=by
   intro l
   induction l with
   | nil=>simp
   | cons x l ihl=>rw [xL,qN,ihl,xQ,Nat.succ_mul];simp;omega
  show (List.flatMap _ _).length=_
  rw [this,ih,yY]
theorem qst {g:List (List Nat)} {n M:Nat}:At g n M 0 (List.replicate n 0) (List.replicate n 0):=by
 have hz:∀k,(List.replicate n 0).getD k 0=0:=by
  intro k
  rw [qQ,xN]
  split<;>rfl
 have e:∀j,gx g n (List.replicate n 0) j=0:=fun j=>zfy fun i _=>by rw [hz,Nat.mul_zero]
 refine ⟨by simp,by simp,?_,fun j _=>by rw [hz,e,yB]⟩
 unfold nrm
 rw [zfy fun i _=>by rw [hz,Nat.mul_zero],yB]
theorem runC_ok {g:List (List Nat)} {n M:Nat} (hM:0<M) (hs:∀j k,j<n→k<n→ent g j k=ent g k j):∃fin,runC g n M (M^n) (List.replicate M 0) 0 (List.replicate n 0) (List.replicate n 0)=some fin∧fin.length=M∧
  ∀t,fin.getD t 0=(allV M n).countP fun y=>decide (nrm g n y%M=t):=by
 have h:=qgn hM hs (chain_all hM n) (f:=M^n) (cts:=List.replicate M 0) (by rw [allV_len];exact qK _) (fun a ha=>by rw [List.mem_replicate] at ha;omega) qst
 obtain ⟨h1,h2⟩:=zno (fun y=>nrm g n y%M) M (allV M n) (List.replicate M 0) (by simp) (fun y _=>Nat.mod_lt _ hM)
 refine ⟨_,h,h1,fun t=>?_⟩
 rw [h2]
 have:(List.replicate M 0).getD t 0=0:=by
  rw [qQ,xN]
  split<;>rfl
 omega
theorem zgn (P:List Nat→Bool) (M:Nat):∀l:List (List Nat),(l.flatMap fun r=>(List.range M).map fun a=>a::r).countP P=sumN (fun a=>l.countP fun r=>P (a::r)) M:=by
 intro l
 induction l with
 | nil=>simp only [List.flatMap_nil,yO];exact (zfy fun _ _=>rfl).symm
 | cons x l ih=>
  rw [xL,yV,ih]
  have e:((List.range M).map fun a=>a::x).countP P=sumN (fun a=>if P (a::x) then 1 else 0) M:=by
   clear ih
   induction M with
   | zero=>rfl
   | succ M ihM=>
    rw [yL,List.map_append,yV,ihM]
    simp only [sumN,List.map_cons,List.map_nil,xM,yO,xC]
  rw [e,←zie]
  refine zdo fun a _=>?_
  rw [xM]
  omega
end Go.Count
