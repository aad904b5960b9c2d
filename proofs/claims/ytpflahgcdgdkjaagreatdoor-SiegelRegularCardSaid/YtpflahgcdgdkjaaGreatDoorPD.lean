/- A part of the proof. -/
import Derived.Test.YtpflahgcdgdkjaaGreatDoorAL1
import Derived.Test.YtpflahgcdgdkjaaGreatDoorPB
import Derived.Test.YtpflahgcdgdkjaaGreatDoorPC
set_option linter.all false
set_option maxRecDepth 100000
namespace Go.Det
open Int renaming mul_le_mul_of_nonneg_left -> qQ, mul_le_mul_of_nonneg_right -> qK, mul_nonneg -> qY, le_of_mul_le_mul_left -> qA, eq_of_mul_eq_mul_left -> qC, mul_assoc -> xU
open Nat renaming le_refl -> qV, lt_or_ge -> qU, mul_le_mul_left -> qO, le_trans -> xZ, pow_le_pow_left -> xB, lt_of_le_of_lt -> xC, sub_self -> xH, lt_irrefl -> xO, lt_of_not_le -> xT, mul_pow -> yJ
open List renaming getD_eq_getElem?_getD -> qZ, nil_append -> qG, append_assoc -> qH, cons_append -> qI, getElem?_append_right -> qL, length_append -> qP, length_cons -> xG, length_singleton -> xL
abbrev Row:=Nat->Int
def sg:Nat->Int
 |0=>1
 |n+1=> -sg n
def zav(f:List Row->Int)(c:Nat):List Row->List Row->Int
 |_,[]=>0
 |pre,v::L=>sg L.length*(v c*f (pre++L))+zav f c (pre++[v]) L
def det:List Nat->List Row->Int
 | [],[]=>1
 | [],_::_=>0
 |c::cs,R=>zav (det cs) c [] R
def Lin(f:List Row->Int):Prop:= ∀(L1 L2:List Row) (a b:Int) (x y:Row),f (L1++(λj=>a*x j+b*y j)::L2)=a*f (L1++x::L2)+b*f (L1++y::L2)
def Alt(f:List Row->Int):Prop:= ∀(L1 L2:List Row) (v:Row),f (L1++v::v::L2)=0
theorem qft{f:List Row->Int}(hf:Lin f)(c:Nat)(a b:Int)(x y:Row):∀(L p1 p2:List Row),zav f c (p1++(λj=>a*x j+b*y j)::p2) L=a*zav f c (p1++x::p2) L+b*zav f c (p1++y::p2) L:=by
 intro L
 induction L with
 |nil=>intro p1 p2;simp[zav]
 |cons v L ih=>
  intro p1 p2;simp only[zav,qH,qI];rw[hf p1 (p2++L) a b x y,ih p1 (p2++[v])];grind
theorem qfu{f:List Row->Int}(hf:Lin f)(c:Nat)(a b:Int)(x y:Row)(L2:List Row):∀(L1 pre:List Row),zav f c pre (L1++(λj=>a*x j+b*y j)::L2)=a*zav f c pre (L1++x::L2)+b*zav f c pre (L1++y::L2):=by
 intro L1
 induction L1 with
 |nil=>
  intro pre;simp only[qG,zav];rw[qft hf c a b x y L2 pre []];grind
 |cons w L1 ih=>
  intro pre;simp only[qI,zav,qP,xG];have:=hf (pre++L1) L2 a b x y;simp only[qH]at this;rw[this,ih];grind
theorem zjp:∀cs,Lin (det cs):=by
 intro cs
 induction cs with
 |nil=>
  intro L1 L2 a b x y;have e:∀v:Row,det [] (L1++v::L2)=0:=by intro v;cases L1<;>rfl
  rw[e,e,e];simp
 |cons c cs ih=>intro L1 L2 a b x y;exact qfu ih c a b x y L2 L1 []
theorem zzy{f:List Row->Int}(hf:Alt f)(c:Nat)(v:Row):∀(L p1 p2:List Row),zav f c (p1++v::v::p2) L=0:=by
 intro L
 induction L with
 |nil=>intro p1 p2;rfl
 |cons w L ih=>
  intro p1 p2;simp only[zav,qH,qI];rw[hf p1 (p2++L) v,ih p1 (p2++[w])];simp
theorem qfv{f:List Row->Int}(hf:Alt f)(c:Nat)(v:Row)(L2:List Row):∀(L1 pre:List Row),zav f c pre (L1++v::v::L2)=0:=by
 intro L1
 induction L1 with
 |nil=>
  intro pre;simp only[qG,zav,xG];have:=zzy hf c v L2 pre [];simp only[qH,qI,qG]at this ⊢;rw[this];simp only[sg];grind
 |cons w L1 ih=>
  intro pre;simp only[qI,zav];have:=hf (pre++L1) L2 v;simp only[qH]at this;rw[this,ih];simp
theorem zpi:∀cs,Alt (det cs):=by
 intro cs
 induction cs with
 |nil=>intro L1 L2 v;cases L1<;>rfl
 |cons c cs ih=>intro L1 L2 v;exact qfv ih c v L2 L1 []
theorem swap{f:List Row->Int}(hl:Lin f)(ha:Alt f)(L1 L2:List Row)(x y:Row):f (L1++x::y::L2)= -f (L1++y::x::L2):=by
 have h:=ha L1 L2 (λj=>1*x j+1*y j);rw[hl L1 ((λj=>1*x j+1*y j)::L2) 1 1 x y]at h;have h1:=hl (L1++[x]) L2 1 1 x y;have h2:=hl (L1++[y]) L2 1 1 x y;simp only[qH,qI,qG]at h1 h2;rw[h1,h2,ha L1 L2 x,ha L1 L2 y]at h;omega
theorem zzz{f:List Row->Int}(hl:Lin f)(ha:Alt f)(v:Row):∀(M L1 L2:List Row),f (L1++v::(M++v::L2))=0:=by
 intro M
 induction M with
 |nil=>intro L1 L2;exact ha L1 L2 v
 |cons w M ih=>
  intro L1 L2;rw[qI,swap hl ha L1 (M++v::L2) v w];have:=ih (L1++[w]) L2;simp only[qH,qI,qG]at this;rw[this];simp
theorem ztu{f:List Row->Int}(hl:Lin f)(ha:Alt f){v:Row}{L1 L2:List Row}(hv:v∈L1):f (L1++v::L2)=0:=by
 obtain⟨A,B,rfl⟩:=List.append_of_mem hv;have:=zzz hl ha v B A L2;simpa using this
theorem qcg{f:List Row->Int}(hl:Lin f)(L1 L2:List Row):f (L1++(λ_=>0)::L2)=0:=by
 have:=hl L1 L2 0 0 (λ_=>0) (λ_=>0);simpa using this
def comb(c:Nat->Int)(r:Nat->Row):Nat->Row
 |0=>λ_=>0
 |m+1=>λj=>1*comb c r m j+c m*r m j
theorem qch{f:List Row->Int}(hl:Lin f)(ha:Alt f)(c:Nat->Int)(r:Nat->Row){L1 L2:List Row}:∀m,(∀l,l<m->r l∈L1)->f (L1++comb c r m::L2)=0:=by
 intro m
 induction m with
 |zero=>intro _;exact qcg hl L1 L2
 |succ m ih=>
  intro h
  show f (L1++(λj=>1*comb c r m j+c m*r m j)::L2)=0
  rw[hl,ih (λl hl=>h l (by omega)),ztu hl ha (h m (by omega))];simp
def zcg(r:Nat->Row)(k:Nat):List Row:=(List.range k).map r
def zcw:Nat->List Nat
 |0=>[]
 |k+1=>k::zcw k
theorem zrp(r:Nat->Row)(k:Nat):zcg r (k+1)=zcg r k++[r k]:=by simp[zcg,List.range_succ]
def lead(r:Nat->Row)(k:Nat):Int:=det (zcw k) (zcg r k)
def bord(r:Nat->Row)(k:Nat)(v:Row):Row:=λj=>det (j::zcw k) (zcg r k++[v])
theorem qlb(r:Nat->Row)(k:Nat):lead r (k+1)=bord r k (r k) k:=by
 unfold lead bord;rw[zrp];rfl
def cof(f:List Row->Int)(pre L:List Row)(v:Row)(l:Nat):Int:= -(sg (L.length-l)*f (pre++(L.eraseIdx l++[v])))
def sumR(g:Nat->Int):Nat->Int
 |0=>0
 |n+1=>sumR g n+g n
theorem zae{g h:Nat->Int}{n:Nat}(e:∀i,i<n->g i=h i):sumR g n=sumR h n:=by
 induction n with
 |zero=>rfl
 |succ n ih=>simp only[sumR];rw[ih (λi hi=>e i (by omega)),e n (by omega)]
theorem zcl{g:Nat->Int}{n:Nat}(e:∀i,i<n->g i=0):sumR g n=0:=by
 induction n with
 |zero=>rfl
 |succ n ih=>simp only[sumR];rw[ih (λi hi=>e i (by omega)),e n (by omega)];rfl
theorem zeg(g:Nat->Int)(n:Nat):sumR g (n+1)=g 0+sumR (λi=>g (i+1)) n:=by
 induction n with
 |zero=>simp[sumR]
 |succ n ih=>rw[sumR,ih];simp only[sumR];omega
theorem zhc(f:List Row->Int)(j:Nat)(v:Row):∀(L pre:List Row),zav f j pre (L++[v])=v j*f (pre++L)-sumR (λl=>cof f pre L v l*(L.getD l (λ_=>0)) j) L.length:=by
 intro L
 induction L with
 |nil=>intro pre;simp[zav,sg,sumR]
 |cons w L ih=>
  intro pre;simp only[qI,zav,qP,xG,List.length_nil,Nat.zero_add];rw[ih (pre++[w]),zeg]
  have e:sumR (λi=>cof f pre (w::L) v (i+1)*((w::L).getD (i+1) (λ_=>0)) j) L.length=sumR (λl=>cof f (pre++[w]) L v l*(L.getD l (λ_=>0)) j) L.length:=by
   refine zae λi _=>?_
   simp[cof]
  have e0:cof f pre (w::L) v 0= -(sg (L.length+1)*f (pre++(L++[v]))):=by simp[cof]
  rw[e,e0];simp only[List.getD_cons_zero,qH,qI,qG];grind
theorem qci(c:Nat->Int)(r:Nat->Row)(j:Nat):∀m,comb c r m j=sumR (λl=>c l*r l j) m:=by
 intro m
 induction m with
 |zero=>rfl
 |succ m ih=>simp only[comb,sumR,ih];omega
theorem zbw(r:Nat->Row)(k:Nat):(zcg r k).length=k:=by simp[zcg]
theorem zib(r:Nat->Row){k l:Nat}(h:l<k):(zcg r k).getD l (λ_=>0)=r l:=by
 rw[qZ];simp[zcg,h]
theorem qlc(r:Nat->Row)(k:Nat)(v:Row):bord r k v=λj=>lead r k*v j+(-1)*comb (cof (det (zcw k)) [] (zcg r k) v) r k j:=by
 funext j
 show zav (det (zcw k)) j [] (zcg r k++[v])=_
 rw[zhc,qci,zbw]
 have e:sumR (λl=>cof (det (zcw k)) [] (zcg r k) v l*((zcg r k).getD l (λ_=>0)) j) k=sumR (λl=>cof (det (zcw k)) [] (zcg r k) v l*r l j) k:=
  zae λl hl=>by rw[zib r hl]
 rw[e];unfold lead;simp only[qG];grind
theorem ztv{u:Row}:∀(cs:List Nat),(∀c∈cs,u c=0)->∀L1 L2,det cs (L1++u::L2)=0:=by
 intro cs
 induction cs with
 |nil=>intro _ L1 L2;cases L1<;>rfl
 |cons c cs ih=>
  intro h L1 L2;have hf:=ih (λx hx=>h x (by simp[hx]));have hc:=h c (by simp)
  have pre:∀(L p1 p2:List Row),zav (det cs) c (p1++u::p2) L=0:=by
   intro L
   induction L with
   |nil=>intro p1 p2;rfl
   |cons w L ihL=>
    intro p1 p2;simp only[zav,qH,qI];rw[hf p1 (p2++L),ihL p1 (p2++[w])];simp
  have main:∀(L1 p:List Row),zav (det cs) c p (L1++u::L2)=0:=by
   intro L1
   induction L1 with
   |nil=>
    intro p;simp only[qG,zav];rw[hc,pre L2 p []];simp
   |cons w L1 ihL=>
    intro p;simp only[qI,zav];have:=hf (p++L1) L2;simp only[qH]at this;rw[this,ihL];simp
  exact main L1 []
theorem zic{c:Nat}:∀{k:Nat},c∈zcw k->c<k:=by
 intro k
 induction k with
 |zero=>intro h;simp[zcw]at h
 |succ k ih=>
  intro h;rcases List.mem_cons.1 h with e | e
  ·omega
  ·have:=ih e;omega
theorem zwq{r:Nat->Row}{k:Nat}(hz:∀v c,c<k->bord r k v c=0)(v:Row)(j:Nat):
  lead r k*lead r k*bord r (k+1) v j=lead r k*(bord r k (r k) k*bord r k v j-bord r k v k*bord r k (r k) j):=by
 have hu0:∀w c,c∈zcw k->bord r k w c=0:=λw c hc=>hz w c (zic hc)
 have G0:∀w L1 L2,det (zcw k) (L1++bord r k w::L2)=0:=λw L1 L2=>ztv (zcw k) (hu0 w) L1 L2
 have F1:∀w,det (k::zcw k) (zcg r k++[bord r k w])=bord r k w k*lead r k:=by
  intro w
  show zav (det (zcw k)) k [] (zcg r k++[bord r k w])=_
  rw[zhc]
  have:sumR (λl=>cof (det (zcw k)) [] (zcg r k) (bord r k w) l*((zcg r k).getD l (λ_=>0)) k) (zcg r k).length=0:=
   zcl λl _=>by
    unfold cof;have:=G0 w ((zcg r k).eraseIdx l) [];simp only[qG];rw[this];simp
  rw[this];unfold lead;simp
 have F2:∀R w w',det (k::zcw k) ((R++[bord r k w])++[bord r k w'])=0:=by
  intro R w w'
  show zav (det (zcw k)) k [] ((R++[bord r k w])++[bord r k w'])=_
  rw[zhc]
  have:sumR (λl=>cof (det (zcw k)) [] (R++[bord r k w]) (bord r k w') l*((R++[bord r k w]).getD l (λ_=>0)) k) (R++[bord r k w]).length=0:=
   zcl λl _=>by
    unfold cof;have:=G0 w' ((R++[bord r k w]).eraseIdx l) [];simp only[qG];rw[this];simp
  rw[this,qG,G0 w R []];simp
 have X1:det (j::k::zcw k) ((zcg r k++[bord r k (r k)])++[bord r k v])=lead r k*(bord r k (r k) k*bord r k v j-bord r k v k*bord r k (r k) j):=by
  show zav (det (k::zcw k)) j [] ((zcg r k++[bord r k (r k)])++[bord r k v])=_
  rw[zhc,qG,F1,qP,xL,zbw];simp only[sumR]
  have h0:sumR (λl=>cof (det (k::zcw k)) [] (zcg r k++[bord r k (r k)]) (bord r k v) l*((zcg r k++[bord r k (r k)]).getD l (λ_=>0)) j) k=0:=
   zcl λl hl=>by
    unfold cof;rw[qG,List.eraseIdx_append_of_lt_length (by rw[zbw];exact hl),F2];simp
  have h1:cof (det (k::zcw k)) [] (zcg r k++[bord r k (r k)]) (bord r k v) k=bord r k v k*lead r k:=by
   unfold cof;rw[qG,List.eraseIdx_append_of_length_le (by rw[zbw];exact qV _),zbw,xH,qP,zbw];simp only[List.eraseIdx_zero,List.tail_cons,List.append_nil,xL,Nat.add_sub_cancel_left,sg];rw[F1];grind
  have h2:(zcg r k++[bord r k (r k)]).getD k (λ_=>0)=bord r k (r k):=by
   rw[qZ,qL (by rw[zbw];exact qV _),zbw,xH];rfl
  rw[h0,h1,h2];grind
 have hl:=zjp (j::k::zcw k);have ha:=zpi (j::k::zcw k);have hm:∀l,l<k->r l∈zcg r k:=λl h=>by simp only[zcg,List.mem_map,List.mem_range];exact⟨l,h,rfl⟩
 have X2:det (j::k::zcw k) ((zcg r k++[bord r k (r k)])++[bord r k v])=lead r k*(lead r k*bord r (k+1) v j):=by
  rw[qlc r k v];rw[hl (zcg r k++[bord r k (r k)]) [] (lead r k) (-1) v (comb (cof (det (zcw k)) [] (zcg r k) v) r k)];rw[qch hl ha _ r (L1:=zcg r k++[bord r k (r k)]) (L2:=[]) k (λl h=>by simp[hm l h])];rw[qH,qlc r k (r k)]
  show lead r k*det (j::k::zcw k) (zcg r k++(λj=>lead r k*(r k) j+(-1)*comb (cof (det (zcw k)) [] (zcg r k) (r k)) r k j)::[v])+_=_
  rw[hl (zcg r k) [v] (lead r k) (-1) (r k) (comb (cof (det (zcw k)) [] (zcg r k) (r k)) r k)];rw[qch hl ha _ r (L1:=zcg r k) (L2:=[v]) k hm]
  have:bord r (k+1) v j=det (j::k::zcw k) (zcg r k++r k::[v]):=by
   unfold bord;rw[zrp,qH];rfl
  rw[this];grind
 rw[X1]at X2;grind
theorem qcj{r:Nat->Row}:∀(k:Nat),(∀i,i<=k->lead r i≠0)->(∀v c,c<k->bord r k v c=0)/\∀v j,lead r k*bord r (k+1) v j=bord r k (r k) k*bord r k v j-bord r k v k*bord r k (r k) j:=by
 have canc:∀{a x y:Int},a≠0->a*a*x=a*y->a*x=y:=by
  intro a x y ha h;rw[xU]at h;exact qC ha h
 intro k
 induction k with
 |zero=>intro h;exact⟨λv c hc=>absurd hc (by omega),λv j=>canc (h 0 (by omega)) (zwq (λv c hc=>absurd hc (by omega)) v j)⟩
 |succ k ih=>
  intro h;obtain⟨h1,h2⟩:=ih (λi hi=>h i (by omega))
  have hz:∀v c,c<k+1->bord r (k+1) v c=0:=by
   intro v c hc;have e:=h2 v c
   have:lead r k*bord r (k+1) v c=0:=by
    rw[e];rcases qU c k with hlt | hge
    ·rw[h1 v c hlt,h1 (r k) c hlt];simp
    ·have:c=k:=by omega
     subst this;grind
   rcases Int.mul_eq_zero.1 this with h0 | h0
   ·exact absurd h0 (h k (by omega))
   ·exact h0
  exact⟨hz,λv j=>canc (h (k+1) (by omega)) (zwq hz v j)⟩
def stg(a:Nat->Row)(k i j:Nat):Int:=bord a k (a i) j
theorem zdk(a:Nat->Row)(i j:Nat):stg a 0 i j=a i j:=by
 show zav (det []) j [] [a i]=_
 simp[zav,sg,det]
theorem zbh(a:Nat->Row):lead a 0=1:=rfl
theorem zba(a:Nat->Row)(k:Nat):lead a (k+1)=stg a k k k:=qlb a k
theorem zbz{a:Nat->Row}{k:Nat}(h:∀i,i<=k->lead a i≠0)(i j:Nat):lead a k*stg a (k+1) i j=lead a (k+1)*stg a k i j-stg a k i k*stg a k k j:=by
 rw[zba];exact(qcj k h).2 (a i) j
theorem ztw{a:Nat->Row}{k:Nat}(h:∀i,i<=k->lead a i≠0)(i c:Nat)(hc:c<k):stg a k i c=0:=(qcj k h).1 (a i) c hc
theorem zfn{a:Nat->Row}{n:Nat}(hs:∀i j,i<n->j<n->a i j=a j i):∀k,k<n->(∀i,i<=k->lead a i≠0)->∀i j,i<n->j<n->k<=i->k<=j->stg a k i j=stg a k j i:=by
 intro k
 induction k with
 |zero=>intro _ _ i j hi hj _ _;rw[zdk,zdk];exact hs i j hi hj
 |succ k ih=>
  intro hk h i j hi hj h1 h2;have h':∀i,i<=k->lead a i≠0:=λi hi=>h i (by omega)
  have e1:=zbz h' i j;have e2:=zbz h' j i;have s1:=ih (by omega) h' i j hi hj (by omega) (by omega);have s2:=ih (by omega) h' i k hi (by omega) (by omega) (by omega);have s3:=ih (by omega) h' k j (by omega) hj (by omega) (by omega);refine qC (h' k (by omega)) ?_;rw[e1,e2,s1,s2,s3];grind
theorem jdb{x d:Int}(h1:x<=d)(h2: -d<=x):x*x<=d*d:=by
 have h:=qY (show 0<=d-x by omega) (show 0<=d+x by omega);have e:(d-x)*(d+x)=d*d-x*x:=by grind
 omega
theorem zpj{x y a b:Int}(h1:x<=a)(h2: -a<=x)(h3:y<=b)(h4: -b<=y):x*y<=a*b/\ -(a*b)<=x*y:=by
 have ha:0<=a:=by omega
 have p1:=qY (show 0<=a-x by omega) (show 0<=b+y by omega);have p2:=qY (show 0<=a+x by omega) (show 0<=b-y by omega);have p3:=qY (show 0<=a-x by omega) (show 0<=b-y by omega);have p4:=qY (show 0<=a+x by omega) (show 0<=b+y by omega);have e1:(a-x)*(b+y)+(a+x)*(b-y)=2*(a*b)-2*(x*y):=by grind
 have e2:(a-x)*(b-y)+(a+x)*(b+y)=2*(a*b)+2*(x*y):=by grind
 omega
structure Red(n:Nat)(a:Nat->Row):Prop where
 n1:1<=n
 n8:n<=8
 sym:∀i j,i<n->j<n->a i j=a j i
 pos:∀k,k<n->0<lead a (k+1)
 small:lead a n<=10000
 sized:∀i j,i<n->j<i->2*stg a j i j<=lead a (j+1)/\ -(2*stg a j i j)<=lead a (j+1)
 lov:∀i,0<i->i<n->3*(lead a i*lead a i)<=4*(lead a (i-1)*lead a (i+1)+stg a (i-1) i (i-1)*stg a (i-1) i (i-1))
theorem Red.pos'{n:Nat}{a:Nat->Row}(h:Red n a):∀k,k<=n->0<lead a k:=by
 intro k hk;cases k with
 |zero=>rw[zbh];decide
 |succ k=>exact h.pos k (by omega)
theorem Red.ne{n:Nat}{a:Nat->Row}(h:Red n a){k:Nat}(hk:k<=n):∀i,i<=k->lead a i≠0:=λi hi=>by have:=h.pos' i (by omega);omega
theorem Red.conv{n:Nat}{a:Nat->Row}(h:Red n a){i:Nat}(h0:0<i)(hi:i<n):lead a i*lead a i<=2*(lead a (i-1)*lead a (i+1)):=by
 obtain⟨s1,s2⟩:=h.sized i (i-1) hi (by omega);have e:i-1+1=i:=by omega
 rw[e]at s1 s2;have l:=h.lov i h0 hi;have q:=jdb s1 (by omega);have e2:2*stg a (i-1) i (i-1)*(2*stg a (i-1) i (i-1))=4*(stg a (i-1) i (i-1)*stg a (i-1) i (i-1)):=by grind
 omega
theorem Red.pow{n:Nat}{a:Nat->Row}(h:Red n a):∀k,k<n->(lead a k).toNat^(k+1)<=2^(k*(k+1)/2)*(lead a (k+1)).toNat^k:=by
 intro k
 induction k with
 |zero=>intro _;rw[zbh];simp
 |succ k ih=>
  intro hk;have c:=h.conv (i:=k+1) (by omega) hk;have p0:=h.pos' k (by omega);have p1:=h.pos' (k+1) (by omega);have p2:=h.pos' (k+1+1) (by omega);have e0:k+1-1=k:=by omega
  rw[e0]at c;obtain⟨x,hx⟩:∃x:Nat,lead a k=x:=⟨(lead a k).toNat,by omega⟩
  obtain⟨y,hy⟩:∃x:Nat,lead a (k+1)=x:=⟨(lead a (k+1)).toNat,by omega⟩
  obtain⟨z,hz⟩:∃x:Nat,lead a (k+1+1)=x:=⟨(lead a (k+1+1)).toNat,by omega⟩
  have ih:=ih (by omega);rw[hx,hy]at ih;rw[hx,hy,hz]at c;rw[hy,hz];simp only[Int.toNat_natCast]at ih ⊢
  have c':y*y<=2*(x*z):=by
   have:((y*y:Nat):Int)<=((2*(x*z):Nat):Int):=by simpa using c
   omega
  have hy0:0<y:=by omega
  have q1:(y*y)^(k+1)<=(2*(x*z))^(k+1):=xB c' _;rw[yJ,yJ,yJ]at q1;have q2:2^(k+1)*(x^(k+1)*z^(k+1))<=2^(k+1)*((2^(k*(k+1)/2)*y^k)*z^(k+1)):=qO _ (Nat.mul_le_mul_right _ ih);have q3:=xZ q1 q2
  have ee:(k+1)*(k+1+1)/2=k*(k+1)/2+(k+1):=by
   have:(k+1)*(k+1+1)=k*(k+1)+(k+1)*2:=by grind
   rw[this,Nat.add_mul_div_right _ _ (by decide)]
  rw[ee,Nat.pow_add 2];have e1:y^(k+1)*y^(k+1)=y^k*y^(k+1+1):=by rw[Nat.pow_succ y (k+1),Nat.pow_succ y k];grind
  have e2:2^(k+1)*((2^(k*(k+1)/2)*y^k)*z^(k+1))=y^k*(2^(k*(k+1)/2)*2^(k+1)*z^(k+1)):=by grind
  rw[e1,e2]at q3;exact Nat.le_of_mul_le_mul_left q3 (Nat.pow_pos hy0)
theorem Red.step{n:Nat}{a:Nat->Row}(h:Red n a){k X Y:Nat}(hk:k<n)(hY:lead a (k+1)<=Y)(hX:2^(k*(k+1)/2)*Y^k<(X+1)^(k+1)):lead a k<=X:=by
 have p:=h.pow k hk;have p0:=h.pos' k (by omega);have p1:=h.pos' (k+1) (by omega);have h1:(lead a (k+1)).toNat<=Y:=by omega
 have h2:(lead a k).toNat^(k+1)<(X+1)^(k+1):=xC (xZ p (qO _ (xB h1 _))) hX;have h3:(lead a k).toNat<X+1:=xT λh4=>xO _ (Nat.lt_of_lt_of_le h2 (xB h4 _))
 omega
theorem Red.bnd1{a:Nat->Row}(h:Red 1 a):∀k,k<1->lead a k<=65535:=by
 have b1:lead a 1<=(10000:Nat):=h.small;have b0:lead a 0<=(1:Nat):=by rw[zbh];decide
 intro k hk
 match k,hk with
 |0,_=>omega
 |k+1,hk=>exact absurd hk (by omega)
theorem Red.bnd2{a:Nat->Row}(h:Red 2 a):∀k,k<2->lead a k<=65535:=by
 have b2:lead a 2<=(10000:Nat):=h.small;have b1:lead a 1<=(141:Nat):=h.step (k:=1) (X:=141) (Y:=10000) (by decide) b2 (by decide);have b0:lead a 0<=(1:Nat):=by rw[zbh];decide
 intro k hk
 match k,hk with
 |0,_=>omega
 |1,_=>omega
 |k+2,hk=>exact absurd hk (by omega)
theorem Red.bnd3{a:Nat->Row}(h:Red 3 a):∀k,k<3->lead a k<=65535:=by
 have b3:lead a 3<=(10000:Nat):=h.small;have b2:lead a 2<=(928:Nat):=h.step (k:=2) (X:=928) (Y:=10000) (by decide) b3 (by decide);have b1:lead a 1<=(43:Nat):=h.step (k:=1) (X:=43) (Y:=928) (by decide) b2 (by decide);have b0:lead a 0<=(1:Nat):=by rw[zbh];decide
 intro k hk
 match k,hk with
 |0,_=>omega
 |1,_=>omega
 |2,_=>omega
 |k+3,hk=>exact absurd hk (by omega)
theorem Red.bnd4{a:Nat->Row}(h:Red 4 a):∀k,k<4->lead a k<=65535:=by
 have b4:lead a 4<=(10000:Nat):=h.small;have b3:lead a 3<=(2828:Nat):=h.step (k:=3) (X:=2828) (Y:=10000) (by decide) b4 (by decide);have b2:lead a 2<=(399:Nat):=h.step (k:=2) (X:=399) (Y:=2828) (by decide) b3 (by decide);have b1:lead a 1<=(28:Nat):=h.step (k:=1) (X:=28) (Y:=399) (by decide) b2 (by decide);have b0:lead a 0<=(1:Nat):=by rw[zbh];decide
 intro k hk
 match k,hk with
 |0,_=>omega
 |1,_=>omega
 |2,_=>omega
 |3,_=>omega
 |k+4,hk=>exact absurd hk (by omega)
theorem Red.bnd5{a:Nat->Row}(h:Red 5 a):∀k,k<5->lead a k<=65535:=by
 have b5:lead a 5<=(10000:Nat):=h.small;have b4:lead a 4<=(6339:Nat):=h.step (k:=4) (X:=6339) (Y:=10000) (by decide) b5 (by decide);have b3:lead a 3<=(2009:Nat):=h.step (k:=3) (X:=2009) (Y:=6339) (by decide) b4 (by decide);have b2:lead a 2<=(318:Nat):=h.step (k:=2) (X:=318) (Y:=2009) (by decide) b3 (by decide);have b1:lead a 1<=(25:Nat):=h.step (k:=1) (X:=25) (Y:=318) (by decide) b2 (by decide);have b0:lead a 0<=(1:Nat):=by rw[zbh];decide
 intro k hk
 match k,hk with
 |0,_=>omega
 |1,_=>omega
 |2,_=>omega
 |3,_=>omega
 |4,_=>omega
 |k+5,hk=>exact absurd hk (by omega)
theorem Red.bnd6{a:Nat->Row}(h:Red 6 a):∀k,k<6->lead a k<=65535:=by
 have b6:lead a 6<=(10000:Nat):=h.small;have b5:lead a 5<=(12187:Nat):=h.step (k:=5) (X:=12187) (Y:=10000) (by decide) b6 (by decide);have b4:lead a 4<=(7426:Nat):=h.step (k:=4) (X:=7426) (Y:=12187) (by decide) b5 (by decide);have b3:lead a 3<=(2262:Nat):=h.step (k:=3) (X:=2262) (Y:=7426) (by decide) b4 (by decide);have b2:lead a 2<=(344:Nat):=h.step (k:=2) (X:=344) (Y:=2262) (by decide) b3 (by decide);have b1:lead a 1<=(26:Nat):=h.step (k:=1) (X:=26) (Y:=344) (by decide) b2 (by decide);have b0:lead a 0<=(1:Nat):=by rw[zbh];decide
 intro k hk
 match k,hk with
 |0,_=>omega
 |1,_=>omega
 |2,_=>omega
 |3,_=>omega
 |4,_=>omega
 |5,_=>omega
 |k+6,hk=>exact absurd hk (by omega)
theorem Red.bnd7{a:Nat->Row}(h:Red 7 a):∀k,k<7->lead a k<=65535:=by
 have b7:lead a 7<=(10000:Nat):=h.small;have b6:lead a 6<=(21461:Nat):=h.step (k:=6) (X:=21461) (Y:=10000) (by decide) b7 (by decide);have b5:lead a 5<=(23029:Nat):=h.step (k:=5) (X:=23029) (Y:=21461) (by decide) b6 (by decide);have b4:lead a 4<=(12356:Nat):=h.step (k:=4) (X:=12356) (Y:=23029) (by decide) b5 (by decide);have b3:lead a 3<=(3314:Nat):=h.step (k:=3) (X:=3314) (Y:=12356) (by decide) b4 (by decide);have b2:lead a 2<=(444:Nat):=h.step (k:=2) (X:=444) (Y:=3314) (by decide) b3 (by decide);have b1:lead a 1<=(29:Nat):=h.step (k:=1) (X:=29) (Y:=444) (by decide) b2 (by decide);have b0:lead a 0<=(1:Nat):=by rw[zbh];decide
 intro k hk
 match k,hk with
 |0,_=>omega
 |1,_=>omega
 |2,_=>omega
 |3,_=>omega
 |4,_=>omega
 |5,_=>omega
 |6,_=>omega
 |k+7,hk=>exact absurd hk (by omega)
theorem Red.bnd8{a:Nat->Row}(h:Red 8 a):∀k,k<8->lead a k<=65535:=by
 have b8:lead a 8<=(10000:Nat):=h.small;have b7:lead a 7<=(35777:Nat):=h.step (k:=7) (X:=35777) (Y:=10000) (by decide) b8 (by decide);have b6:lead a 6<=(63999:Nat):=h.step (k:=6) (X:=63999) (Y:=35777) (by decide) b7 (by decide);have b5:lead a 5<=(57242:Nat):=h.step (k:=5) (X:=57242) (Y:=63999) (by decide) b6 (by decide);have b4:lead a 4<=(25599:Nat):=h.step (k:=4) (X:=25599) (Y:=57242) (by decide) b5 (by decide);have b3:lead a 3<=(5724:Nat):=h.step (k:=3) (X:=5724) (Y:=25599) (by decide) b4 (by decide);have b2:lead a 2<=(639:Nat):=h.step (k:=2) (X:=639) (Y:=5724) (by decide) b3 (by decide);have b1:lead a 1<=(35:Nat):=h.step (k:=1) (X:=35) (Y:=639) (by decide) b2 (by decide);have b0:lead a 0<=(1:Nat):=by rw[zbh];decide
 intro k hk
 match k,hk with
 |0,_=>omega
 |1,_=>omega
 |2,_=>omega
 |3,_=>omega
 |4,_=>omega
 |5,_=>omega
 |6,_=>omega
 |7,_=>omega
 |k+8,hk=>exact absurd hk (by omega)
theorem Red.minor{n:Nat}{a:Nat->Row}(h:Red n a){k:Nat}(hk:k<=n):lead a k<=65535:=by
 rcases qU k n with hlt | hge
 ·have h1:=h.n1;have h8:=h.n8
  match n,h1,h8 with
  |1,_,_=>exact h.bnd1 k hlt
  |2,_,_=>exact h.bnd2 k hlt
  |3,_,_=>exact h.bnd3 k hlt
  |4,_,_=>exact h.bnd4 k hlt
  |5,_,_=>exact h.bnd5 k hlt
  |6,_,_=>exact h.bnd6 k hlt
  |7,_,_=>exact h.bnd7 k hlt
  |8,_,_=>exact h.bnd8 k hlt
  |n+9,_,h=>exact absurd h (by omega)
 ·have:k=n:=by omega
  rw[this];have:=h.small;omega
theorem back{d e x y u v C:Int}(hd:1<=d)(he:1<=e)(he2:e<=65536)(h:d*y=e*x-u*v)(hy1:y<=e*C)(hy2: -(e*C)<=y)(hu1:2*u<=e)(hu2: -(2*u)<=e)(hv1:2*v<=e)(hv2: -(2*v)<=e):
  x<=d*(C+16384)/\ -(d*(C+16384))<=x:=by
 have m:=zpj (x:=2*u) (y:=2*v) hu1 (by omega) hv1 (by omega);have e4:2*u*(2*v)=4*(u*v):=by grind
 rw[e4]at m;have k1:d*y<=d*(e*C):=qQ hy1 (by omega);have k2:d*(-(e*C))<=d*y:=qQ hy2 (by omega);have k3:e*e<=e*(d*65536):=qQ (by omega) (by omega)
 have c1:e*x<=e*(d*(C+16384)):=by
  have:e*(d*(C+16384))=d*(e*C)+e*d*16384:=by grind
  have t:e*(d*65536)=4*(e*d*16384):=by grind
  omega
 have c2:e*(-(d*(C+16384)))<=e*x:=by
  have:e*(-(d*(C+16384)))=d*(-(e*C))-e*d*16384:=by grind
  have t:e*(d*65536)=4*(e*d*16384):=by grind
  omega
 exact⟨qA c1 (by omega),qA c2 (by omega)⟩
theorem Red.stage{n:Nat}{a:Nat->Row}(h:Red n a){i j:Nat}(hi:i<n)(hj:j<=i):∀m k,k+m=j->stg a k i j<=lead a k*(65536+16384*(m:Int))/\ -(lead a k*(65536+16384*(m:Int)))<=stg a k i j:=by
 intro m
 induction m with
 |zero=>
  intro k hk;have:k=j:=by omega
  subst this;have p:=h.pos' k (by omega);have b1:=h.minor (k:=k+1) (by omega);have p1:=h.pos' (k+1) (by omega)
  have q:(65536:Int)<=lead a k*(65536+16384*((0:Nat):Int)):=by
   have:1*65536<=lead a k*65536:=qK (by omega) (by decide);simpa using this
  rcases qU k i with hlt | hge
  ·obtain⟨s1,s2⟩:=h.sized i k hi hlt;omega
  ·have:k=i:=by omega
   subst this;rw[<-zba];omega
 |succ m ih=>
  intro k hk;have p:=h.pos' k (by omega);have p1:=h.pos' (k+1) (by omega);have b1:=h.minor (k:=k+1) (by omega);obtain⟨y1,y2⟩:=ih (k+1) (by omega);have hn:=h.ne (k:=k) (by omega);have e:=zbz hn i j;obtain⟨u1,u2⟩:=h.sized i k hi (by omega);obtain⟨v1,v2⟩:=h.sized j k (by omega) (by omega);rw[zfn h.sym k (by omega) hn k j (by omega) (by omega) (by omega) (by omega)]at e;have:=back (by omega) (by omega) (by omega) e y1 y2 u1 u2 v1 v2;have c:(65536+16384*(m:Int)+16384)=65536+16384*((m+1:Nat):Int):=by omega
  rw[c]at this;exact this
theorem Red.entry{n:Nat}{a:Nat->Row}(h:Red n a){i j:Nat}(hi:i<n)(hj:j<n):a i j<=180224/\ -180224<=a i j:=by
 have key:∀i j,i<n->j<=i->a i j<=180224/\ -180224<=a i j:=by
  intro i j hi hj;have:=h.stage hi hj j 0 (by omega);rw[zdk,zbh]at this;have h8:=h.n8;omega
 rcases Nat.le_total j i with h1 | h1
 ·exact key i j hi h1
 ·rw[h.sym i j hi hj];exact key j i hj h1
theorem jdc{d e x y u v C:Int}(hd:1<=d)(he:1<=e)(he2:e<=65536)(h:d*y=e*x-u*v)(hx1:x<=d*C)(hx2: -(d*C)<=x)(hu1:2*u<=e)(hu2: -(2*u)<=e)(hv1:2*v<=e)(hv2: -(2*v)<=e):
  y<=e*(C+16384)/\ -(e*(C+16384))<=y:=by
 have m:=zpj (x:=2*u) (y:=2*v) hu1 (by omega) hv1 (by omega);have e4:2*u*(2*v)=4*(u*v):=by grind
 rw[e4]at m;have k1:e*x<=e*(d*C):=qQ hx1 (by omega);have k2:e*(-(d*C))<=e*x:=qQ hx2 (by omega);have k3:e*e<=e*(d*65536):=qQ (by omega) (by omega)
 have c1:d*y<=d*(e*(C+16384)):=by
  have:d*(e*(C+16384))=e*(d*C)+e*d*16384:=by grind
  have t:e*(d*65536)=4*(e*d*16384):=by grind
  omega
 have c2:d*(-(e*(C+16384)))<=d*y:=by
  have:d*(-(e*(C+16384)))=e*(-(d*C))-e*d*16384:=by grind
  have t:e*(d*65536)=4*(e*d*16384):=by grind
  omega
 exact⟨qA c1 (by omega),qA c2 (by omega)⟩
end Go.Det
namespace Go.Proofs.YtpflahgcdgdkjaaGreatDoor
open Int renaming natAbs_ediv_le_natAbs -> xJ
open Nat renaming le_refl -> qV, lt_or_ge -> qU, mul_le_mul_left -> qO, le_trans -> xZ, lt_of_le_of_lt -> xC, mul_le_mul -> xD, sub_self -> xH, lt_irrefl -> xO, zero_le -> yK
open List renaming getD_eq_getElem?_getD -> qZ, getElem?_eq_getElem -> qD, getElem?_append_right -> qL, length_append -> qP, getElem?_append_left -> qR, getElem?_eq_none -> xX, getElem?_map -> xP, length_set -> yW
open Option renaming bind_some -> qB, bind_eq_some_iff -> qE
open Option.some renaming injEq -> qM
open Go Go.AL Go.Det
structure Shp(n:Nat)(M:List (List Int)):Prop where
 len:M.length=n
 row:∀i,i<n->(M.getD i []).length=n
theorem zid{α:Type}{l:List α}{i j:Nat}{x d:α}(hi:i<l.length):(l.set i x).getD j d=if j=i then x else l.getD j d:=by
 rw[qZ];by_cases h:j=i
 ·subst h;rw[List.getElem?_set_self hi,if_pos rfl];rfl
 ·rw[List.getElem?_set_ne (λe=>h e.symm),if_neg h,qZ]
theorem Shp.set{n:Nat}{M:List (List Int)}(h:Shp n M){i j:Nat}{z:Int}(hi:i<n):Shp n (setM M i j z):=by
 refine⟨by rw[zcu];exact h.len,λi' hi'=>?_⟩;unfold setM;rw[zid (by rw[h.len];exact hi)];split
 ·rw[yW];exact h.row i hi
 ·exact h.row i' hi'
theorem Shp.ent_set{n:Nat}{M:List (List Int)}(h:Shp n M){i j:Nat}{z:Int}(hi:i<n)(hj:j<n)(i' l:Nat):ent (setM M i j z) i' l=if i'=i/\l=j then z else ent M i' l:=by
 unfold ent setM;rw[zid (by rw[h.len];exact hi)];by_cases h1:i'=i
 ·subst h1;rw[if_pos rfl,zid (by rw[h.row i' hi];exact hj)];by_cases h2:l=j
  ·rw[if_pos h2,if_pos ⟨rfl,h2⟩]
  ·rw[if_neg h2,if_neg (λe=>h2 e.2)]
 ·rw[if_neg h1,if_neg (λe=>h1 e.1)]
theorem qck{B n k i:Nat}{last:Int}(hki:k<i)(hi:i<n):∀(m j:Nat) (M fin:List (List Int)),Shp n M->k<j->j+m<=n->elJ B k i last m j M=some fin->
  Shp n fin/\∀i' l,ent fin i' l=if i'=i/\j<=l/\l<j+m then(ent M k k*ent M i l-ent M i k*ent M k l)/last else ent M i' l:=by
 intro m
 induction m with
 |zero=>
  intro j M fin h _ _ he;simp only[elJ,qM]at he;subst he;refine⟨h,λi' l=>?_⟩;rw[if_neg (by omega)]
 |succ m ih=>
  intro j M fin h hj hm he;simp only[elJ,qE]at he;obtain⟨z,hz,he⟩:=he;obtain⟨_,_,_,_,_,hz,_⟩:=zwh hz;obtain⟨h1,h2⟩:=ih (j+1) _ _ (h.set hi) (by omega) (by omega) he;refine⟨h1,λi' l=>?_⟩;have es:=λi' l=>h.ent_set (i:=i) (j:=j) (z:=z) hi (by omega) i' l
  rw[h2 i' l,es k k,es i l,es i k,es k l,es i' l];by_cases c1:i'=i/\j+1<=l/\l<j+1+m
  ·rw[if_pos c1,if_neg (by omega),if_neg (by omega),if_neg (by omega),if_neg (by omega),if_pos (by omega)]
  ·rw[if_neg c1];by_cases c2:i'=i/\l=j
   ·rw[if_pos c2,if_pos (by omega),c2.2];exact hz
   ·rw[if_neg c2,if_neg (by omega)]
theorem qcl{B n k:Nat}{last:Int}:∀(m i:Nat) (M fin:List (List Int)),Shp n M->k<i->i+m=n->elI B n k last m i M=some fin->
  Shp n fin/\∀i' l,ent fin i' l=if i<=i'/\i'<n/\k+1<=l/\l<n then(ent M k k*ent M i' l-ent M i' k*ent M k l)/last else ent M i' l:=by
 intro m
 induction m with
 |zero=>
  intro i M fin h _ _ he;simp only[elI,qM]at he;subst he;refine⟨h,λi' l=>?_⟩;rw[if_neg (by omega)]
 |succ m ih=>
  intro i M fin h hi hm he;simp only[elI,qE]at he;obtain⟨M1,hM1,he⟩:=he;obtain⟨h1,h2⟩:=qck hi (by omega) (n-(k+1)) (k+1) M M1 h (by omega) (by omega) hM1;obtain⟨h3,h4⟩:=ih (i+1) M1 fin h1 (by omega) (by omega) he;refine⟨h3,λi' l=>?_⟩;rw[h4 i' l,h2 k k,h2 i' l,h2 i' k,h2 k l];by_cases c1:i+1<=i'/\i'<n/\k+1<=l/\l<n
  ·rw[if_pos c1,if_neg (by omega),if_neg (by omega),if_neg (by omega),if_neg (by omega),if_pos (by omega)]
  ·rw[if_neg c1];by_cases c2:i'=i/\k+1<=l/\l<k+1+(n-(k+1))
   ·rw[if_pos c2,if_pos (by omega),c2.1]
   ·rw[if_neg c2,if_neg (by omega)]
def rowF(M:List (List Int)):Nat->Row:=λi j=>ent M i j
theorem qld{B n:Nat}{N:List (List Int)}(hp:∀t,t<n->lead (rowF N) t≠0):∀(m k:Nat) (M:List (List Int)) (last d:Int),k+m=n->Shp n M->(∀i j,k<=i->i<n->k<=j->j<n->ent M i j=stg (rowF N) k i j)->
  last=lead (rowF N) k->detG B n m k M last false=some d->d=lead (rowF N) n:=by
 intro m
 induction m with
 |zero=>
  intro k M last d hk _ _ hl h;simp only[detG,qM]at h;have:k=n:=by omega
  subst this;simp at h;rw[<-h,hl]
 |succ m ih=>
  intro k M last d hk hs he hl h;have hkk:ent M k k=lead (rowF N) (k+1):=by rw[he k k (qV _) (by omega) (qV _) (by omega),<-zba]
  obtain⟨m',hm'⟩:∃m',n-k=m'+1:=⟨n-k-1,by omega⟩
  by_cases h0:ent M k k=0
  ·
   have hkn:k+1=n:=by
    rcases qU (k+1) n with hlt | hge
    ·exact absurd (hkk.symm.trans h0) (hp (k+1) hlt)
    ·omega
   have hm0:m'=0:=by omega
   have hpv:piv M k (n-k) k=n:=by
    rw[hm',hm0];simp only[piv];rw[if_pos h0];exact hkn
   simp only[detG]at h;rw[if_pos hpv,qM]at h;rw[<-h,<-hkn,<-hkk,h0]
  ·have hpv:piv M k (n-k) k=k:=by
    rw[hm'];simp only[piv];rw[if_neg h0]
   simp only[detG,hpv]at h;rw[if_neg (by omega),if_neg (xO _),if_neg (xO _),qE]at h;obtain⟨M2,hM2,h⟩:=h;obtain⟨s1,s2⟩:=qcl (n-(k+1)) (k+1) M M2 hs (by omega) (by omega) hM2;have e2:ent M2 k k=lead (rowF N) (k+1):=by rw[s2,if_neg (by omega)];exact hkk
   refine ih (k+1) M2 _ d (by omega) s1 (λi j hi hin hj hjn=>?_) e2 h;rw[s2,if_pos ⟨hi,hin,hj,hjn⟩,hkk,hl,he i j (by omega) hin (by omega) hjn,he i k (by omega) hin (qV _) (by omega),he k j (qV _) (by omega) (by omega) hjn];have r:=zbz (a:=rowF N) (k:=k) (λt ht=>hp t (by omega)) i j;rw[<-r,Int.mul_ediv_cancel_left _ (hp k (by omega))]
theorem zgm{B n:Nat}{N:List (List Int)}(hs:Shp n N)(hp:∀t,t<n->lead (rowF N) t≠0){d:Int}(h:detO B N=some d):d=lead (rowF N) n:=by
 unfold detO at h;rw[hs.len]at h;exact qld hp n 0 N 1 d (by omega) hs (λi j _ _ _ _=>(zdk (rowF N) i j).symm) rfl h
theorem zwr:∀(cs:List Nat) (R R':List Row),R.length=R'.length->(∀i,i<R.length->∀c∈cs,(R.getD i (λ_=>0)) c=(R'.getD i (λ_=>0)) c)->det cs R=det cs R':=by
 intro cs
 induction cs with
 |nil=>intro R R' hl _;cases R<;>cases R'<;>simp at hl<;>rfl
 |cons c cs ih=>
  intro R R' hl h
  have key:∀(L L' p p':List Row),L.length=L'.length->p.length=p'.length->(∀i,i<L.length->∀x∈c::cs,(L.getD i (λ_=>0)) x=(L'.getD i (λ_=>0)) x)->
    (∀i,i<p.length->∀x∈c::cs,(p.getD i (λ_=>0)) x=(p'.getD i (λ_=>0)) x)->zav (det cs) c p L=zav (det cs) c p' L':=by
   intro L
   induction L with
   |nil=>intro L' p p' h1 _ _ _;cases L' with | nil=>rfl | cons _ _=>simp at h1
   |cons v L ihL=>
    intro L' p p' h1 h2 h3 h4;cases L' with
    |nil=>simp at h1
    |cons v' L'=>
     have hv:∀x∈c::cs,v x=v' x:=λx hx=>by simpa using h3 0 (by simp) x hx
     have hL:∀i,i<L.length->∀x∈c::cs,(L.getD i (λ_=>0)) x=(L'.getD i (λ_=>0)) x:=λi hi x hx=>by simpa using h3 (i+1) (by simpa using hi) x hx
     have hll:L.length=L'.length:=by simpa using h1
     simp only[zav]
     have app:∀(A A' X X':List Row),A.length=A'.length->(∀i,i<A.length->∀x∈c::cs,(A.getD i (λ_=>0)) x=(A'.getD i (λ_=>0)) x)->(∀i,i<X.length->∀x∈c::cs,(X.getD i (λ_=>0)) x=(X'.getD i (λ_=>0)) x)->
       ∀i,i<(A++X).length->∀x∈c::cs,((A++X).getD i (λ_=>0)) x=((A'++X').getD i (λ_=>0)) x:=by
      intro A A' X X' hA k1 k2 i hi x hx;rw[qZ,qZ];rcases qU i A.length with hlt | hge
      ·rw[qR hlt,qR (by omega),<-qZ,<-qZ];exact k1 i hlt x hx
      ·rw[qL hge,qL (by omega),hA,<-qZ,<-qZ];refine k2 (i-A'.length) ?_ x hx;rw[qP]at hi;omega
     have e1:det cs (p++L)=det cs (p'++L'):=ih _ _ (by simp[h2,hll]) (λi hi x hx=>app p p' L L' h2 h4 hL i hi x (List.mem_cons_of_mem _ hx))
     have e2:=ihL L' (p++[v]) (p'++[v']) hll (by simp[h2]) hL (app p p' [v] [v'] h2 h4 (λi hi x hx=>by
      have:i=0:=by simpa using hi
      subst this;exact hv x hx))
     rw[e1,e2,hll,hv c (by simp)]
  exact key R R' [] [] hl rfl h (λi hi=>by simp at hi)
theorem qyt{M:List (List Int)}{rs cs:List Nat}{s t:Nat}(hs:s<rs.length)(ht:t<cs.length):ent (selM M rs cs) s t=ent M (rs.getD s 0) (cs.getD t 0):=by
 simp only[ent,selM,selR,qZ,xP,qD hs,qD ht,Option.map_some,Option.getD_some]
theorem zws{j i t:Nat}(h:t<j):(List.range j++[i]).getD t 0=t:=by
 rw[qZ,qR (by simpa using h),List.getElem?_range h];rfl
theorem zrq{j i:Nat}:(List.range j++[i]).getD j 0=i:=by
 rw[qZ,qL (by simp)];simp
theorem qaa{M:List (List Int)}{i j s t:Nat}(hs:s<=j)(ht:t<=j):ent (lamM M i j) s t=ent M (if s=j then i else s) t:=by
 unfold lamM;rw[qyt (by simp;omega) (by simp;omega)]
 have e:(List.range j++[j]).getD t 0=t:=by
  rcases qU t j with h | h
  ·exact zws h
  ·have:t=j:=by omega
   rw[this];exact zrq
 rw[e];split
 ·rename_i h;rw[h,zrq]
 ·rw[zws (by omega)]
theorem qab(M:List (List Int))(i j:Nat):Shp (j+1) (lamM M i j):=by
 refine⟨by simp[lamM,selM],λt ht=>?_⟩;simp only[lamM,selM,qZ,xP];rw[qD (by simpa using ht)];simp[selR]
theorem qrv{M:List (List Int)}{i j t:Nat}(ht:t<=j):lead (rowF (lamM M i j)) t=lead (rowF M) t:=by
 unfold lead;refine zwr _ _ _ (by rw[zbw,zbw]) (λs hs c hc=>?_);rw[zbw]at hs;have:=zic hc;rw[zib _ hs,zib _ hs]
 show ent (lamM M i j) s c=ent M s c
 rw[qaa (by omega) (by omega),if_neg (by omega)]
theorem qrw{M:List (List Int)}{i j:Nat}:lead (rowF (lamM M i j)) (j+1)=stg (rowF M) j i j:=by
 unfold lead stg bord;refine zwr _ _ _ (by rw[zbw,qP,zbw];rfl) (λs hs c hc=>?_);rw[zbw]at hs
 have hc:c<=j:=by
  rcases List.mem_cons.1 hc with e | e
  ·omega
  ·have:=zic e;omega
 rw[zib _ hs]
 show ent (lamM M i j) s c=_
 rw[qaa (by omega) hc,qZ];rcases qU s j with h | h
 ·rw[if_neg (by omega),qR (by rw[zbw];exact h),<-qZ,zib _ h];rfl
 ·have:s=j:=by omega
  subst this;rw[if_pos rfl,qL (by rw[zbw];exact qV _),zbw,xH];rfl
theorem zkq{B i j:Nat}{M:List (List Int)}(hp:∀t,t<=j->lead (rowF M) t≠0){d:Int}(h:detO B (lamM M i j)=some d):d=stg (rowF M) j i j:=by
 rw[<-qrw];exact zgm (qab M i j) (λt ht=>by rw[qrv (by omega)];exact hp t (by omega)) h
theorem qrx(M:List (List Int))(k:Nat):minK M k=lamM M k k:=rfl
theorem zwt{B:Nat}{M:List (List Int)}:∀{n:Nat} {ds:List Int},zds B M n=some ds->∀k,k<n->detO B (minK M k)=some (ds.getD k 0):=by
 intro n
 induction n with
 |zero=>intro ds _ k hk;omega
 |succ n ih=>
  intro ds h k hk;have hpre:=zoz (m:=1) h;have hl:=zdg h;rcases qU k n with hlt | hge
  ·have:=ih hpre k hlt;rw[this,qZ,qZ,List.getElem?_take_of_lt hlt]
  ·have:k=n:=by omega
   subst this;simp only[zds,qE,qM]at h;obtain⟨l,h1,h⟩:=h;have hl1:=zdg h1;obtain⟨d,h2,d',h3,h⟩:=h;obtain⟨rfl,_⟩:=zcr h3;subst h;rw[qZ,qL (by omega),hl1,xH];simpa using h2
theorem qle{B n:Nat}{M:List (List Int)}{ds:List Int}(h:zds B M n=some ds):∀k,k<=n->(∀t,t<k->0<ds.getD t 0)->(∀t,t<=k->0<lead (rowF M) t)/\∀t,t<k->ds.getD t 0=lead (rowF M) (t+1):=by
 intro k
 induction k with
 |zero=>intro _ _;exact⟨λt ht=>(by
  have e:t=0:=Nat.le_zero.1 ht;rw[e,zbh];decide),λt ht=>absurd ht (by omega)⟩
 |succ k ih=>
  intro hk hp;obtain⟨h1,h2⟩:=ih (by omega) (λt ht=>hp t (by omega))
  have e:ds.getD k 0=lead (rowF M) (k+1):=by
   have:=zkq (i:=k) (j:=k) (λt ht=>by have:=h1 t ht;omega) (zwt h k (by omega));rw[this,zba]
  refine⟨λt ht=>?_,λt ht=>?_⟩
  ·rcases qU t (k+1)with hlt | hge
   ·exact h1 t (by omega)
   ·have:t=k+1:=by omega
    rw[this,<-e];exact hp k (by omega)
  ·rcases qU t k with hlt | hge
   ·exact h2 t hlt
   ·have:t=k:=by omega
    rw[this];exact e
theorem ztx{B n:Nat}{M:List (List Int)}{ds:List Int}(h:zds B M n=some ds)(hp:∀t,t<=n->0<lead (rowF M) t):∀k,k<n->ds.getD k 0=lead (rowF M) (k+1):=by
 intro k hk;have:=zkq (i:=k) (j:=k) (λt ht=>by have:=hp t (by omega);omega) (zwt h k hk);rw[this,zba]
theorem zpk{ds:List Int}:(ds.all λd=>decide (0<d))=true↔∀t,t<ds.length->0<ds.getD t 0:=by
 rw[List.all_eq_true];constructor
 ·intro h t ht;rw[qZ,qD ht];exact of_decide_eq_true (h _ (List.getElem_mem ht))
 ·intro h d hd;obtain⟨t,ht,rfl⟩:=List.mem_iff_getElem.1 hd;have:=h t ht;rw[qZ,qD ht]at this;exact decide_eq_true this
def szP(M:List (List Int))(i j:Nat):Prop:=2*stg (rowF M) j i j<=lead (rowF M) (j+1)/\ -(2*stg (rowF M) j i j)<=lead (rowF M) (j+1)
def lvP(M:List (List Int))(i:Nat):Prop:=3*(lead (rowF M) i*lead (rowF M) i)<=4*(lead (rowF M) (i-1)*lead (rowF M) (i+1)+stg (rowF M) (i-1) i (i-1)*stg (rowF M) (i-1) i (i-1))
section
variable{B n:Nat}{M:List (List Int)}{ds:List Int}
theorem zgn(h:zds B M n=some ds)(hp:∀t,t<=n->0<lead (rowF M) t){k:Nat}(hk:k<=n):zcq ds k=lead (rowF M) k:=by
 unfold zcq;split
 ·rename_i e;rw[e,zbh]
 ·rw[ztx h hp (k-1) (by omega)];congr 1;omega
theorem zwu(h:zds B M n=some ds)(hp:∀t,t<=n->0<lead (rowF M) t){i j:Nat}(hj:j<n){b:Bool}(hb:zkl B M ds i j=some b):b=true↔szP M i j:=by
 unfold zkl at hb;simp only[qE,qM]at hb;obtain⟨l,hl,x,hx,rfl⟩:=hb;have e:=zkq (λt ht=>by have:=hp t (by omega);omega) (zgj hl).1;rw[decide_eq_true_eq,zgn h hp (by omega),e];unfold szP;omega
theorem qlf(h:zds B M n=some ds)(hp:∀t,t<=n->0<lead (rowF M) t){i:Nat}(h0:0<i)(hi:i<n){b:Bool}(hb:lovO B M ds i=some b):b=true↔lvP M i:=by
 unfold lovO at hb;simp only[qE,qM]at hb;obtain⟨l,hl,p,hp1,q,hq,s,hs,x,hx,r,hr,y,hy,rfl⟩:=hb;have e:=zkq (λt ht=>by have:=hp t (by omega);omega) (zgj hl).1;obtain⟨rfl,_⟩:=zcr hp1;obtain⟨rfl,_⟩:=zcr hq;obtain⟨rfl,_⟩:=zcr hs;obtain⟨rfl,_⟩:=zcr hx;obtain⟨rfl,_⟩:=zcr hr;obtain⟨rfl,_⟩:=zcr hy;rw[decide_eq_true_eq,zgn h hp (by omega),zgn h hp (by omega),zgn h hp (by omega),e];exact Iff.rfl
theorem qry(h:zds B M n=some ds)(hp:∀t,t<=n->0<lead (rowF M) t){i:Nat}:∀(m j:Nat) {b:Bool},j+m<=n->redJ B M ds i m j=some b->(b=true↔∀j',j<=j'->j'<j+m->szP M i j'):=by
 intro m
 induction m with
 |zero=>
  intro j b _ hb;simp only[redJ,qM]at hb;exact⟨λ_ j' h1 h2=>absurd h2 (by omega),λ_=>hb.symm⟩
 |succ m ih=>
  intro j b hn hb;simp only[redJ,qE]at hb;obtain⟨b1,h1,h2⟩:=hb;have k1:=zwu h hp (by omega) h1;cases b1 with
  |false=>
   simp at h2;subst h2;refine⟨λe=>by simp at e,λe=>?_⟩;have:=k1.2 (e j (qV _) (by omega));simp at this
  |true=>
   simp only[if_true]at h2;have k2:=ih (j+1) (by omega) h2;rw[k2];constructor
   ·intro e j' g1 g2;rcases qU j j' with hlt | hge
    ·exact e j' (by omega) (by omega)
    ·have:j'=j:=by omega
     rw[this];exact k1.1 rfl
   ·intro e j' g1 g2;exact e j' (by omega) (by omega)
theorem qcm(h:zds B M n=some ds)(hp:∀t,t<=n->0<lead (rowF M) t):∀(m i:Nat) {b:Bool},i+m=n->redI B M ds m i=some b->(b=true↔∀i',i<=i'->i'<n->(∀j,j<i'->szP M i' j)/\(0<i'->lvP M i')):=by
 intro m
 induction m with
 |zero=>
  intro i b hi hb;simp only[redI,qM]at hb;exact⟨λ_ i' h1 h2=>absurd h2 (by omega),λ_=>hb.symm⟩
 |succ m ih=>
  intro i b hi hb;simp only[redI,qE]at hb;obtain⟨b1,h1,h2⟩:=hb;have k1:=qry h hp i 0 (by omega) h1;cases b1 with
  |false=>
   simp at h2;subst h2;refine⟨λe=>by simp at e,λe=>?_⟩;have:=k1.2 (λj' _ h2=>(e i (qV _) (by omega)).1 j' (by omega));simp at this
  |true=>
   have k1':∀j,j<i->szP M i j:=λj hj=>k1.1 rfl j (yK _) (by omega)
   rw[if_neg (by decide)]at h2
   have fin:∀{b:Bool},(0<i->lvP M i)->redI B M ds m (i+1)=some b->(b=true↔∀i',i<=i'->i'<n->(∀j,j<i'->szP M i' j)/\(0<i'->lvP M i')):=by
    intro b hl h3;rw[ih (i+1) (by omega) h3];constructor
    ·intro e i' g1 g2;rcases qU i i' with hlt | hge
     ·exact e i' (by omega) g2
     ·have:i'=i:=by omega
      rw[this];exact⟨k1',hl⟩
    ·intro e i' g1 g2;exact e i' (by omega) g2
   by_cases h0:i=0
   ·rw[if_pos h0]at h2;exact fin (λh=>absurd h (by omega)) h2
   ·rw[if_neg h0,qE]at h2;obtain⟨b2,h3,h4⟩:=h2;have k2:=qlf h hp (by omega) (by omega) h3;cases b2 with
    |true=>exact fin (λ_=>k2.1 rfl) (by simpa using h4)
    |false=>
     simp at h4;subst h4;refine⟨λe=>by simp at e,λe=>?_⟩;have:=k2.2 ((e i (qV _) (by omega)).2 (by omega));simp at this
theorem znk(hs:Shp n M):symB M=true↔∀i j,i<n->j<n->rowF M i j=rowF M j i:=by
 rw[zpa,hs.len];constructor
 ·intro h i j hi hj;rcases qU j i with h1 | h1
  ·exact h i hi j h1
  ·rcases qU i j with h2 | h2
   ·exact(h j hj i h2).symm
   ·have:i=j:=by omega
    rw[this]
 ·intro h i hi j hj;exact h i j hi (by omega)
theorem qyu(hs:Shp n M)(h1:1<=n)(h8:n<=8)(h:zds B M n=some ds){d0:Int}(hd:detO B M=some d0):
  (valZ M ds=0/\d0<=10000/\∃b,redI B M ds n 0=some b/\b=true)->Red n (rowF M):=by
 rintro⟨hv,hd0,b,hb,hbt⟩
 have hsy:symB M=true:=by
  unfold valZ at hv;cases e:symB M with
  |true=>rfl
  |false=>rw[e]at hv;simp at hv
 have hdf:defB M ds=true:=by
  unfold valZ at hv;rw[hsy]at hv;cases e:defB M ds with
  |true=>rfl
  |false=>rw[e]at hv;simp at hv
 unfold defB at hdf;rw[hsy,Bool.true_and,zpk,zdg h]at hdf;obtain⟨hp,_⟩:=qle h n (qV _) hdf;have hr:=(qcm h hp n 0 (by omega) hb).1 hbt;have hdet:d0=lead (rowF M) n:=zgm hs (λt ht=>by have:=hp t (by omega);omega) hd;exact⟨h1,h8,(znk hs).1 hsy,λk hk=>hp (k+1) (by omega),by omega,λi j hi hj=>(hr i (yK _) hi).1 j hj,λi h0 hi=>(hr i (yK _) hi).2 h0⟩
theorem qyv(hs:Shp n M)(h:zds B M n=some ds){d0:Int}(hd:detO B M=some d0)(hr:Red n (rowF M)):
  valZ M ds=0/\d0<=10000/\∀b,redI B M ds n 0=some b->b=true:=by
 have hp:=hr.pos';have hsy:=(znk hs).2 hr.sym
 have hdf:defB M ds=true:=by
  unfold defB;rw[hsy,Bool.true_and,zpk,zdg h];intro t ht;rw[ztx h hp t ht];exact hr.pos t ht
 have hdet:d0=lead (rowF M) n:=zgm hs (λt ht=>by have:=hp t (by omega);omega) hd;refine⟨?_,by rw[hdet];exact hr.small,λb hb=>?_⟩
 ·unfold valZ;rw[hsy,hdf];rfl
 ·exact(qcm h hp n 0 (by omega) hb).2 (λi' _ hi=>⟨λj hj=>hr.sized i' j hi hj,λh0=>hr.lov i' h0 hi⟩)
end
def Bnd(A:Nat)(M:List (List Int)):Prop:= ∀i j,(ent M i j).natAbs<=A
theorem qyw(x y:Int):(x/y).natAbs<=x.natAbs:=xJ x y
theorem zdt{x y:Int}{a b:Nat}(hx:x.natAbs<=a)(hy:y.natAbs<=b):(x*y).natAbs<=a*b:=by
 rw[Int.natAbs_mul];exact xD hx hy
theorem zkr{B:Nat}{z:Int}(h:z.natAbs<B):ck B z=some z:=by unfold ck;rw[if_pos h]
section
variable{B n A:Nat}
theorem jdd{k i:Nat}{last:Int}(hki:k<i)(hi:i<n)(hl:last≠0)(hlA:last.natAbs<=A)(hB:2*(A*A)<B)(hA:A<B):∀(m j:Nat) (M:List (List Int)),Shp n M->k<j->j+m<=n->
  (∀i' l,(ent M i' l).natAbs<=2*(A*A))->(∀l,(ent M k l).natAbs<=A)->(∀i',(ent M i' k).natAbs<=A)->(∀l,j<=l->(ent M i l).natAbs<=A)->∃fin,elJ B k i last m j M=some fin/\Shp n fin/\∀i' l,(ent fin i' l).natAbs<=2*(A*A):=by
 intro m
 induction m with
 |zero=>intro j M h _ _ h1 _ _ _;exact⟨M,rfl,h,h1⟩
 |succ m ih=>
  intro j M h hj hm h1 h2 h3 h4;have p:=zdt (h2 k) (h4 j (qV _));have q:=zdt (h3 i) (h2 j);have s:(ent M k k*ent M i j-ent M i k*ent M k j).natAbs<=2*(A*A):=by omega
  have t:=qyw (ent M k k*ent M i j-ent M i k*ent M k j) last
  have hn:newE B M k i j last=some ((ent M k k*ent M i j-ent M i k*ent M k j)/last):=by
   unfold newE;rw[if_neg hl,zkr (by omega),zkr (by omega),zkr (by omega)];simp only[qB];rw[zkr (by omega)];simp only[qB];rw[zkr (by omega)]
  have es:=λi' l=>h.ent_set (i:=i) (j:=j) (z:=(ent M k k*ent M i j-ent M i k*ent M k j)/last) hi (by omega) i' l
  simp only[elJ,hn,qB];refine ih (j+1) _ (h.set hi) (by omega) (by omega) (λi' l=>?_) (λl=>?_) (λi'=>?_) (λl hl=>?_)
  ·rw[es];split
   ·omega
   ·exact h1 i' l
  ·rw[es,if_neg (by omega)];exact h2 l
  ·rw[es,if_neg (by omega)];exact h3 i'
  ·rw[es,if_neg (by omega)];exact h4 l (by omega)
theorem jde{k:Nat}{last:Int}(hl:last≠0)(hlA:last.natAbs<=A)(hB:2*(A*A)<B)(hA:A<B):∀(m i:Nat) (M:List (List Int)),Shp n M->k<i->i+m=n->
  (∀i' l,(ent M i' l).natAbs<=2*(A*A))->(∀l,(ent M k l).natAbs<=A)->(∀i',(ent M i' k).natAbs<=A)->(∀i' l,i<=i'->(ent M i' l).natAbs<=A)->∃fin,elI B n k last m i M=some fin/\Shp n fin/\∀i' l,(ent fin i' l).natAbs<=2*(A*A):=by
 intro m
 induction m with
 |zero=>intro i M h _ _ h1 _ _ _;exact⟨M,rfl,h,h1⟩
 |succ m ih=>
  intro i M h hi hm h1 h2 h3 h4;obtain⟨M1,e1,s1,b1⟩:=jdd hi (by omega) hl hlA hB hA (n-(k+1)) (k+1) M h (by omega) (by omega) h1 h2 h3 (λl _=>h4 i l (qV _));obtain⟨_,f1⟩:=qck hi (by omega) (n-(k+1)) (k+1) M M1 h (by omega) (by omega) e1;simp only[elI,e1,qB];refine ih (i+1) M1 s1 (by omega) (by omega) b1 (λl=>?_) (λi'=>?_) (λi' l hi'=>?_)
  ·rw[f1,if_neg (by omega)];exact h2 l
  ·rw[f1,if_neg (by omega)];exact h3 i'
  ·rw[f1,if_neg (by omega)];exact h4 i' l (by omega)
def bndS(A:Nat):Nat->Nat
 |0=>A
 |k+1=>2*(bndS A k*bndS A k)
theorem zks{M:List (List Int)}{p k:Nat}(h:Shp n M)(hp:p<n)(hk:k<n):Shp n (zdm M p k)/\∀i l,ent (zdm M p k) i l=ent M (if i=k then p else if i=p then k else i) l:=by
 have g:∀i,(zdm M p k).getD i []=M.getD (if i=k then p else if i=p then k else i) []:=by
  intro i;unfold zdm;rw[zid (by rw[yW,h.len];exact hk)];split
  ·rfl
  ·rw[zid (by rw[h.len];exact hp)];split<;>rfl
 refine⟨⟨by simp[zdm,h.len],λi hi=>?_⟩,λi l=>by unfold ent;rw[g]⟩;rw[g];refine h.row _ ?_;split
 ·exact hp
 ·split<;>assumption
theorem qyx{A0:Nat}(hA0:1<=A0)(hB:∀k,k<=n->2*(bndS A0 k*bndS A0 k)<B):∀(m k:Nat) (M:List (List Int)) (last:Int) (neg:Bool),k+m=n->Shp n M->Bnd (bndS A0 k) M->last≠0->last.natAbs<=bndS A0 k->
  ∃d,detG B n m k M last neg=some d/\d.natAbs<=bndS A0 n:=by
 have pos:∀k,1<=bndS A0 k:=by
  intro k
  induction k with
  |zero=>exact hA0
  |succ k ih=>have:=xD ih ih;simp only[bndS];omega
 have mono:∀k,bndS A0 k<=bndS A0 (k+1):=by
  intro k;have:=qO (bndS A0 k) (pos k);simp only[bndS];omega
 have monoN:∀m k,bndS A0 k<=bndS A0 (k+m):=by
  intro m
  induction m with
  |zero=>intro k;exact qV _
  |succ m ih=>intro k;exact xZ (ih k) (mono (k+m))
 intro m
 induction m with
 |zero=>
  intro k M last neg hk _ _ _ hl;have:k=n:=by omega
  subst this;cases neg
  ·exact⟨last,by simp[detG],hl⟩
  ·exact⟨-last,by simp[detG],by omega⟩
 |succ m ih=>
  intro k M last neg hk hs hb hl0 hl;simp only[detG];by_cases hpn:piv M k (n-k) k=n
  ·rw[if_pos hpn];exact⟨0,rfl,by simp⟩
  ·rw[if_neg hpn];have hpl:=quv (M:=M) (k:=k) (m:=n-k) (p:=k);have hpne:=jcr (M:=M) (k:=k) (m:=n-k) (p:=k) (by omega);generalize hpe:piv M k (n-k) k=p at*
   obtain⟨hs',hb',hne⟩:Shp n (if k<p then zdm M p k else M)/\Bnd (bndS A0 k) (if k<p then zdm M p k else M)/\ent (if k<p then zdm M p k else M) k k≠0:=by
    by_cases hkp:k<p
    ·rw[if_pos hkp];obtain⟨g1,g2⟩:=zks hs (p:=p) (k:=k) (by omega) (by omega);exact⟨g1,λi j=>by rw[g2];exact hb _ _,by rw[g2,if_pos rfl];exact hpne⟩
    ·rw[if_neg hkp];have:p=k:=by omega
     subst this;exact⟨hs,hb,hpne⟩
   generalize (if k<p then zdm M p k else M)=M1 at*;have hB1:=hB k (by omega);have hA1:bndS A0 k<=2*(bndS A0 k*bndS A0 k):=mono k;obtain⟨M2,e2,s2,b2⟩:=jde hl0 hl hB1 (by omega) (n-(k+1)) (k+1) M1 hs' (by omega) (by omega) (λi l=>xZ (hb' i l) hA1) (λl=>hb' k l) (λi=>hb' i k) (λi l _=>hb' i l);obtain⟨_,f2⟩:=qcl (n-(k+1)) (k+1) M1 M2 hs' (by omega) (by omega) e2;have ek:ent M2 k k=ent M1 k k:=by rw[f2,if_neg (by omega)]
   rw[e2,qB];exact ih (k+1) M2 _ _ (by omega) s2 b2 (by rw[ek];exact hne) (by rw[ek];exact xZ (hb' k k) (mono k))
theorem zpl{A0:Nat}{M:List (List Int)}(hA0:1<=A0)(hB:∀k,k<=n->2*(bndS A0 k*bndS A0 k)<B)(hs:Shp n M)(hb:Bnd A0 M):∃d,detO B M=some d/\d.natAbs<=bndS A0 n:=by
 unfold detO;rw[hs.len];exact qyx hA0 hB n 0 M 1 false (by omega) hs hb (by decide) hA0
theorem zkt{A0:Nat}(hA0:1<=A0):∀k,1<=bndS A0 k:=by
 intro k
 induction k with
 |zero=>exact hA0
 |succ k ih=>have:=xD ih ih;simp only[bndS];omega
theorem qlg{A0:Nat}(hA0:1<=A0):∀m k,bndS A0 k<=bndS A0 (k+m):=by
 intro m
 induction m with
 |zero=>intro k;exact qV _
 |succ m ih=>
  intro k;have:=qO (bndS A0 (k+m)) (zkt hA0 (k+m));refine xZ (ih k) ?_
  show _<=2*(bndS A0 (k+m)*bndS A0 (k+m))
  omega
structure FitN(N B A0:Nat):Prop where
 one:1<=A0
 fit:8*(bndS A0 N*bndS A0 N)<B
theorem FitN.all{N A0:Nat}(h:FitN N B A0){k:Nat}(hk:k<=N):bndS A0 k<=bndS A0 N/\2*(bndS A0 k*bndS A0 k)<B:=by
 have m:=qlg h.one (N-k) k;have e:k+(N-k)=N:=by omega
 rw[e]at m;have:=xD m m;have:=h.fit;exact⟨m,by omega⟩
theorem FitN.lt{N A0:Nat}(h:FitN N B A0):bndS A0 N<B:=by
 have:=qO (bndS A0 N) (zkt h.one N);have:=h.fit;omega
theorem qyy{A0:Nat}{M:List (List Int)}(hb:Bnd A0 M)(i j:Nat):Bnd A0 (lamM M i j):=by
 intro s t;rcases qU j s with h | h
 ·have:ent (lamM M i j) s t=0:=by
   unfold ent
   have:(lamM M i j).getD s []=[]:=by
    rw[qZ,xX (by simp[lamM,selM];omega)];rfl
   rw[this];rfl
  rw[this];simp
 ·rcases qU j t with h2 | h2
  ·have:ent (lamM M i j) s t=0:=by
    have hl:=(qab M i j).row s (by omega);unfold ent;rw[qZ,xX (by omega)];rfl
   rw[this];simp
  ·rw[qaa h h2];exact hb _ _
theorem qvb{N A0:Nat}{M:List (List Int)}(hF:FitN N B A0)(hb:Bnd A0 M){i j:Nat}(hj:j<N):∃d,detO B (lamM M i j)=some d/\d.natAbs<=bndS A0 N:=by
 obtain⟨d,h1,h2⟩:=zpl (B:=B) hF.one (λk hk=>(hF.all (k:=k) (by omega)).2) (qab M i j) (qyy hb i j);exact⟨d,h1,xZ h2 (hF.all (k:=j+1) (by omega)).1⟩
theorem znl{N A0:Nat}{M:List (List Int)}(hF:FitN N B A0)(hb:Bnd A0 M):∀k,k<=N->∃ds,zds B M k=some ds/\∀z∈ds,z.natAbs<=bndS A0 N:=by
 intro k
 induction k with
 |zero=>intro _;exact⟨[],rfl,λz h=>by simp at h⟩
 |succ k ih=>
  intro hk;obtain⟨l,h1,h2⟩:=ih (by omega);obtain⟨d,h3,h4⟩:=qvb hF hb (i:=k) (j:=k) (by omega);refine⟨l++[d],?_,λz hz=>?_⟩
  ·simp only[zds,h1,qB,qrx,h3];rw[zkr (xC h4 hF.lt)];rfl
  ·rcases List.mem_append.1 hz with e | e
   ·exact h2 z e
   ·have:z=d:=by simpa using e
    rw[this];exact h4
theorem zie{N A0:Nat}(hF:FitN N B A0){ds:List Int}(h:∀z∈ds,z.natAbs<=bndS A0 N)(k:Nat):(zcq ds k).natAbs<=bndS A0 N:=by
 unfold zcq;split
 ·exact zkt hF.one N
 ·rw[qZ];cases e:ds[k-1]? with
  |none=>simp
  |some z=>exact h z (List.mem_of_getElem? e)
theorem qac{N A0:Nat}{M:List (List Int)}(hF:FitN N B A0)(hb:Bnd A0 M){i j:Nat}(hj:j<N):∃l,lamO B M i j=some l/\l.natAbs<=bndS A0 N:=by
 obtain⟨d,h3,h4⟩:=qvb hF hb (i:=i) (j:=j) hj;refine⟨d,?_,h4⟩;unfold lamO;rw[h3,qB,zkr (xC h4 hF.lt)]
theorem zwv{N A0:Nat}{M:List (List Int)}{ds:List Int}(hF:FitN N B A0)(hb:Bnd A0 M){i j:Nat}(hj:j<N):∃b,zkl B M ds i j=some b:=by
 obtain⟨l,h1,h2⟩:=qac hF hb (i:=i) (j:=j) hj;have:=hF.fit;have:=qO (bndS A0 N) (zkt hF.one N);unfold zkl;rw[h1,qB,zkr (by omega)];exact⟨_,rfl⟩
theorem qlh{N A0:Nat}{M:List (List Int)}{ds:List Int}(hF:FitN N B A0)(hb:Bnd A0 M)(hd:∀z∈ds,z.natAbs<=bndS A0 N){i:Nat}(hi:i-1<N):∃b,lovO B M ds i=some b:=by
 obtain⟨l,h1,h2⟩:=qac hF hb (i:=i) (j:=i-1) hi;have hf:=hF.fit;have p:=zdt (zie hF hd (i-1)) (zie hF hd (i+1));have q:=zdt h2 h2;have r:=zdt (zie hF hd i) (zie hF hd i);unfold lovO;rw[h1,qB,zkr (by omega),qB,zkr (by omega),qB,zkr (by omega),qB,zkr (by omega),qB,zkr (by omega),qB,zkr (by omega)];exact⟨_,rfl⟩
theorem qyz{N A0:Nat}{M:List (List Int)}{ds:List Int}(hF:FitN N B A0)(hb:Bnd A0 M){i:Nat}:∀m j,j+m<=N->∃b,redJ B M ds i m j=some b:=by
 intro m
 induction m with
 |zero=>intro j _;exact⟨true,rfl⟩
 |succ m ih=>
  intro j hj;obtain⟨b,h⟩:=zwv (ds:=ds) hF hb (i:=i) (j:=j) (by omega);simp only[redJ,h,qB];cases b
  ·exact⟨false,rfl⟩
  ·exact ih (j+1) (by omega)
theorem qza{N A0:Nat}{M:List (List Int)}{ds:List Int}(hF:FitN N B A0)(hb:Bnd A0 M)(hd:∀z∈ds,z.natAbs<=bndS A0 N):∀m i,i+m<=N->∃b,redI B M ds m i=some b:=by
 intro m
 induction m with
 |zero=>intro i _;exact⟨true,rfl⟩
 |succ m ih=>
  intro i hi;obtain⟨b,h⟩:=qyz (ds:=ds) hF hb (i:=i) i 0 (by omega);simp only[redI,h,qB];cases b
  ·exact⟨false,rfl⟩
  ·rw[if_neg (by decide)];by_cases h0:i=0
   ·rw[if_pos h0];exact ih (i+1) (by omega)
   ·rw[if_neg h0];obtain⟨b2,h2⟩:=qlh hF hb hd (i:=i) (by omega);rw[h2,qB];cases b2
    ·exact⟨false,rfl⟩
    ·exact ih (i+1) (by omega)
end
end Go.Proofs.YtpflahgcdgdkjaaGreatDoor
namespace Go.Det
open Int renaming mul_le_mul_of_nonneg_left -> qQ, mul_le_mul_of_nonneg_right -> qK, mul_nonneg -> qY, le_of_mul_le_mul_left -> qA, eq_of_mul_eq_mul_left -> qC, add_zero -> qN, mul_comm -> xQ, mul_nonneg_of_nonpos_of_nonpos -> xK, mul_pos -> xV, le_trans -> xI, le_refl -> xM, pow_succ -> xR
open Nat renaming le_refl -> qV, lt_or_ge -> qU, add_sub_cancel -> xW, lt_of_not_le -> xT, le_of_not_lt -> yQ
theorem zty{a:Nat->Row}{k j c:Nat}(hj:j<k):stg a k j c=0:=by
 unfold stg bord;have hm:a j∈zcg a k:=by simp only[zcg,List.mem_map,List.mem_range];exact⟨j,hj,rfl⟩
 exact ztu (zjp _) (zpi _) (L2:=[]) hm
def addG(a:Nat->Row)(i j:Nat)(c:Int):Nat->Row:=λs t=>a s t+(if s=i then c*a j t else 0)+(if t=i then c*a s j else 0)+(if s=i/\t=i then c*c*a j j else 0)
theorem qli{a:Nat->Row}{i j:Nat}{c:Int}(hji:j<i)(hp:∀t,t<=i->lead a t≠0):∀k,k<=i->(∀t,t<=k->lead (addG a i j c) t=lead a t)/\
  ∀s t,stg (addG a i j c) k s t=stg a k s t+(if s=i then c*stg a k j t else 0)+(if t=i then c*stg a k s j else 0)+(if s=i/\t=i then c*c*stg a k j j else 0):=by
 intro k
 induction k with
 |zero=>
  intro _;refine⟨λt ht=>?_,λs t=>?_⟩
  ·have:t=0:=Nat.le_zero.1 ht;subst this;rfl
  ·simp only[zdk];rfl
 |succ k ih=>
  intro hk;obtain⟨h1,h2⟩:=ih (by omega);have hki:k≠i:=by omega
  have hl:lead (addG a i j c) (k+1)=lead a (k+1):=by
   rw[zba,h2,if_neg hki,if_neg hki,if_neg (λe=>hki e.1),zba];omega
  refine⟨λt ht=>?_,λs t=>?_⟩
  ·rcases qU t (k+1)with e | e
   ·exact h1 t (by omega)
   ·have:t=k+1:=by omega
    rw[this];exact hl
  ·have hne:∀t,t<=k->lead (addG a i j c) t≠0:=λt ht=>by rw[h1 t ht];exact hp t (by omega)
   have hne0:∀t,t<=k->lead a t≠0:=λt ht=>hp t (by omega)
   have e:=zbz hne s t;rw[h1 k (qV _),hl,h2 s t,h2 s k,h2 k t]at e;simp only[hki,and_false,false_and,if_false,qN]at e;have r1:=zbz hne0 s t;have r2:=zbz hne0 j t;have r3:=zbz hne0 s j;have r4:=zbz hne0 j j;refine qC (hp k (by omega)) ?_;rw[e];by_cases hs:s=i
   ·by_cases ht:t=i
    ·subst hs ht;simp only[and_self,if_true];grind
    ·simp only[hs,ht,if_true,if_false,and_false];subst hs;grind
   ·by_cases ht:t=i
    ·simp only[hs,ht,if_true,if_false,false_and];subst ht;grind
    ·simp only[hs,ht,if_false,false_and];grind
theorem qcn{a:Nat->Row}{i j n:Nat}{c:Int}(hji:j<i)(hp:∀t,t<=n->lead a t≠0)(hin:i<=n):∀m,i+m<=n->(∀t,t<=i+m->lead (addG a i j c) t=lead a t)/\∀s t,stg (addG a i j c) (i+m) s t=stg a (i+m) s t:=by
 intro m
 induction m with
 |zero=>
  intro _;obtain⟨h1,h2⟩:=qli (c:=c) hji (λt ht=>hp t (by omega)) i (qV _);refine⟨h1,λs t=>?_⟩;have z1:∀t,stg a i j t=0:=λt=>zty hji
  have z2:∀s,stg a i s j=0:=λs=>ztw (λt ht=>hp t (by omega)) s j hji
  rw[Nat.add_zero,h2,z1,z1,z2];simp
 |succ m ih=>
  intro hm;obtain⟨h1,h2⟩:=ih (by omega);have hl:lead (addG a i j c) (i+m+1)=lead a (i+m+1):=by rw[zba,h2,zba]
  refine⟨λt ht=>?_,λs t=>?_⟩
  ·rcases qU t (i+m+1)with e | e
   ·exact h1 t (by omega)
   ·have:t=i+m+1:=by omega
    rw[this];exact hl
  ·have hne:∀t,t<=i+m->lead (addG a i j c) t≠0:=λt ht=>by rw[h1 t ht];exact hp t (by omega)
   have hne0:∀t,t<=i+m->lead a t≠0:=λt ht=>hp t (by omega)
   have e:=zbz hne s t;rw[h1 _ (qV _),hl,h2,h2,h2,<-zbz hne0 s t]at e;exact qC (hne0 _ (qV _)) e
theorem zku{a:Nat->Row}{i j n:Nat}{c:Int}(hji:j<i)(hin:i<n)(hp:∀t,t<=n->lead a t≠0){t:Nat}(ht:t<=n):lead (addG a i j c) t=lead a t:=by
 have:=(qcn (c:=c) hji hp (by omega) (n-i) (by omega)).1 t (by omega);exact this
theorem qzb{a:Nat->Row}{i j n:Nat}{c:Int}(hji:j<i)(hin:i<n)(hp:∀t,t<=n->lead a t≠0){s t:Nat}(hts:t<s)(hs:s<n):
  stg (addG a i j c) t s t=stg a t s t+if s=i then(if t<=j then c*stg a t j t else 0)else 0:=by
 rcases qU t i with hlt | hge
 ·rw[(qli (c:=c) hji (λt ht=>hp t (by omega)) t (by omega)).2 s t];rw[if_neg (show¬t=i by omega),if_neg (show¬(s=i/\t=i) by omega)];by_cases e:s=i
  ·rw[if_pos e,if_pos e];by_cases h:t<=j
   ·rw[if_pos h];omega
   ·rw[if_neg h,zty (show j<t by omega)];simp
  ·rw[if_neg e,if_neg e];omega
 ·obtain⟨m,rfl⟩:∃m,t=i+m:=⟨t-i,by omega⟩
  rw[(qcn (c:=c) hji hp (by omega) m (by omega)).2 s (i+m),if_neg (by omega)];omega
def sw(p:Nat)(s:Nat):Nat:=if s=p then p+1 else if s=p+1 then p else s
theorem qfw{p s:Nat}(h1:s≠p)(h2:s≠p+1):sw p s=s:=by unfold sw;rw[if_neg h1,if_neg h2]
theorem sw_p{p:Nat}:sw p p=p+1:=by unfold sw;rw[if_pos rfl]
theorem sw_q{p:Nat}:sw p (p+1)=p:=by unfold sw;rw[if_neg (by omega),if_pos rfl]
def swG(a:Nat->Row)(p:Nat):Nat->Row:=λs t=>a (sw p s) (sw p t)
theorem qlj{a:Nat->Row}{p:Nat}(hp:∀t,t<=p->lead a t≠0):∀k,k<=p->(∀t,t<=k->lead (swG a p) t=lead a t)/\∀s t,stg (swG a p) k s t=stg a k (sw p s) (sw p t):=by
 intro k
 induction k with
 |zero=>
  intro _;refine⟨λt ht=>?_,λs t=>by simp only[zdk];rfl⟩;have:t=0:=Nat.le_zero.1 ht;subst this;rfl
 |succ k ih=>
  intro hk;obtain⟨h1,h2⟩:=ih (by omega);have hkk:sw p k=k:=qfw (by omega) (by omega);have hl:lead (swG a p) (k+1)=lead a (k+1):=by rw[zba,h2,hkk,zba]
  refine⟨λt ht=>?_,λs t=>?_⟩
  ·rcases qU t (k+1)with e | e
   ·exact h1 t (by omega)
   ·have:t=k+1:=by omega
    rw[this];exact hl
  ·have hne:∀t,t<=k->lead (swG a p) t≠0:=λt ht=>by rw[h1 t ht];exact hp t (by omega)
   have hne0:∀t,t<=k->lead a t≠0:=λt ht=>hp t (by omega)
   have e:=zbz hne s t;rw[h1 k (qV _),hl,h2,h2,h2,hkk,<-zbz hne0]at e;exact qC (hp k (by omega)) e
theorem jdf{a:Nat->Row}{n p:Nat}(hs:∀i j,i<n->j<n->a i j=a j i)(hpn:p+1<n)(hp:∀t,t<=p+1->lead a t≠0):
  lead a (p+1)*lead (swG a p) (p+1)=lead a p*lead a (p+2)+stg a p (p+1) p*stg a p (p+1) p:=by
 have h2:=(qlj (λt ht=>hp t (by omega)) p (qV _)).2;have r:=zbz (a:=a) (k:=p) (λt ht=>hp t (by omega)) (p+1) (p+1);have sy:=zfn hs p (by omega) (λt ht=>hp t (by omega)) p (p+1) (by omega) hpn (qV _) (by omega);rw[zba (swG a p) p,h2,sw_p,zba a (p+1)];rw[sy]at r;omega
theorem dd(d U V W Z:Int):d*d*(U*V-W*Z)=d*U*(d*V)-d*W*(d*Z):=by grind
theorem jfk(a11 a12 a21 a22 a1t a2t as1 as2 ast:Int):(a11*a22-a21*a12)*(a11*ast-as1*a1t)-(a11*as2-as1*a12)*(a11*a2t-a21*a1t)=a11*(a11*(a22*ast-as2*a2t)-a12*(a21*ast-as1*a2t)+a1t*(a21*as2-as1*a22)):=by grind
theorem jfl(a11 a12 a21 a22 a1t a2t as1 as2 ast:Int):(a11*a22-a21*a12)*(a22*ast-as2*a2t)-(a22*as1-as2*a21)*(a22*a1t-a12*a2t)=a22*(a11*(a22*ast-as2*a2t)-a12*(a21*ast-as1*a2t)+a1t*(a21*as2-as1*a22)):=by grind
theorem mlc(u d x:Int):u*(d*d*x)=d*d*(u*x):=by grind
theorem qzc{a:Nat->Row}{n p:Nat}(hs:∀i j,i<n->j<n->a i j=a j i)(hpn:p+1<n)(hp:∀t,t<=n->lead a t≠0)(hm:lead (swG a p) (p+1)≠0):
  ∀m,p+2+m<=n->(∀t,t<=p+2+m->t≠p+1->lead (swG a p) t=lead a t)/\∀s t,stg (swG a p) (p+2+m) s t=stg a (p+2+m) (sw p s) (sw p t):=by
 have ne0:∀{k},k<=n->∀t,t<=k->lead a t≠0:=λhk t ht=>hp t (by omega)
 obtain⟨l1,l2⟩:=qlj (a:=a) (p:=p) (ne0 (by omega)) p (qV _);have np:∀t,t<=p->lead (swG a p) t≠0:=λt ht=>by rw[l1 t ht];exact hp t (by omega)
 have np1:∀t,t<=p+1->lead (swG a p) t≠0:=λt ht=>by
  rcases qU t (p+1)with e | e
  ·exact np t (by omega)
  ·have:t=p+1:=by omega
   rw[this];exact hm
 have e1:lead (swG a p) (p+1)=stg a p (p+1) (p+1):=by rw[zba,l2,sw_p]
 have dp:lead a (p+1)=stg a p p p:=zba a p;have A:∀s t,lead a p*stg a (p+1) s t=stg a p p p*stg a p s t-stg a p s p*stg a p p t:=λs t=>by rw[<-dp];exact zbz (ne0 (by omega)) s t
 have B:∀s t,lead a p*stg (swG a p) (p+1) s t=stg a p (p+1) (p+1)*stg a p (sw p s) (sw p t)-stg a p (sw p s) (p+1)*stg a p (p+1) (sw p t):=λs t=>by
  have:=zbz np s t;rw[l1 p (qV _),e1,l2,l2,l2,sw_p]at this;exact this
 have q2:lead (swG a p) (p+2)=lead a (p+2):=by
  rw[zba (swG a p) (p+1),zba a (p+1)];refine qC (hp p (by omega)) ?_;rw[A,B,sw_q];grind
 intro m
 induction m with
 |zero=>
  intro _;refine⟨λt ht hne=>?_,λs t=>?_⟩
  ·rcases qU t (p+1)with e | e
   ·exact l1 t (by omega)
   ·have:t=p+2:=by omega
    rw[this];exact q2
  ·have ra:=zbz (a:=a) (k:=p+1) (ne0 (by omega)) (sw p s) (sw p t);have rb:=zbz np1 s t;rw[q2,e1]at rb;rw[dp]at ra;have x1:=A (sw p s) (sw p t);have x2:=A (sw p s) (p+1);have x3:=A (p+1) (sw p t);have x4:=A (p+1) (p+1);have y1:=B s t;have y2:=B s (p+1);have y3:=B (p+1) t;rw[sw_q]at y2 y3;have hd2:=zba a (p+1);rw[hd2]at ra rb
   have key:lead a p*lead a p*stg (swG a p) (p+2) s t=lead a p*lead a p*stg a (p+2) (sw p s) (sw p t):=by
    have ka:stg a p p p*(lead a p*lead a p*stg a (p+1+1) (sw p s) (sw p t))=stg a p p p*(stg a p p p*(stg a p (p+1) (p+1)*stg a p (sw p s) (sw p t)-stg a p (sw p s) (p+1)*stg a p (p+1) (sw p t))-stg a p p (p+1)*(stg a p (p+1) p*stg a p (sw p s) (sw p t)-stg a p (sw p s) p*stg a p (p+1) (sw p t))+stg a p p (sw p t)*(stg a p (p+1) p*stg a p (sw p s) (p+1)-stg a p (sw p s) p*stg a p (p+1) (p+1))):=by
     rw[mlc,ra,dd,x1,x2,x3,x4,jfk]
    have kb:stg a p (p+1) (p+1)*(lead a p*lead a p*stg (swG a p) (p+1+1) s t)=stg a p (p+1) (p+1)*(stg a p p p*(stg a p (p+1) (p+1)*stg a p (sw p s) (sw p t)-stg a p (sw p s) (p+1)*stg a p (p+1) (sw p t))-stg a p p (p+1)*(stg a p (p+1) p*stg a p (sw p s) (sw p t)-stg a p (sw p s) p*stg a p (p+1) (sw p t))+stg a p p (sw p t)*(stg a p (p+1) p*stg a p (sw p s) (p+1)-stg a p (sw p s) p*stg a p (p+1) (p+1))):=by
     rw[mlc,rb,dd,x4,y1,y2,y3,jfl]
    have n1:stg a p p p≠0:=by rw[<-dp];exact hp (p+1) (by omega)
    have n2:stg a p (p+1) (p+1)≠0:=by rw[<-e1];exact hm
    exact(qC n2 kb).trans (qC n1 ka).symm
   have h0:=hp p (by omega);exact qC (Int.mul_ne_zero h0 h0) key
 |succ m ih=>
  intro hm';obtain⟨h1,h2⟩:=ih (by omega);have hk:sw p (p+2+m)=p+2+m:=qfw (by omega) (by omega);have hl:lead (swG a p) (p+2+m+1)=lead a (p+2+m+1):=by rw[zba,h2,hk,zba]
  refine⟨λt ht hne=>?_,λs t=>?_⟩
  ·rcases qU t (p+2+m+1)with e | e
   ·exact h1 t (by omega) hne
   ·have:t=p+2+m+1:=by omega
    rw[this];exact hl
  ·have hne:∀t,t<=p+2+m->lead (swG a p) t≠0:=λt ht=>by
    rcases qU t (p+2)with e | e
    ·exact np1 t (by omega)
    ·rw[h1 t ht (by omega)];exact hp t (by omega)
   have e:=zbz hne s t;rw[h1 _ (qV _) (by omega),hl,h2,h2,h2,hk,<-zbz (ne0 (by omega))]at e;exact qC (hp _ (by omega)) e
theorem qzd{a:Nat->Row}{n p:Nat}(hs:∀i j,i<n->j<n->a i j=a j i)(hpn:p+1<n)(hp:∀t,t<=n->0<lead a t)(hlov:¬3*(lead a (p+1)*lead a (p+1))<=4*(lead a p*lead a (p+2)+stg a p (p+1) p*stg a p (p+1) p)):
  (∀t,t<=n->t≠p+1->lead (swG a p) t=lead a t)/\0<lead (swG a p) (p+1)/\lead (swG a p) (p+1)<lead a (p+1):=by
 have hne:∀t,t<=n->lead a t≠0:=λt ht=>by have:=hp t ht;omega
 have mid:=jdf hs hpn (λt ht=>hne t (by omega));have p0:=hp p (by omega);have p1:=hp (p+1) (by omega);have p2:=hp (p+2) (by omega);have m1:=xV p0 p2
 have m2:0<=stg a p (p+1) p*stg a p (p+1) p:=by
  rcases Int.le_total 0 (stg a p (p+1) p)with h | h
  ·exact qY h h
  ·exact xK h h
 have pm:0<lead (swG a p) (p+1):=by
  have:0<lead a (p+1)*lead (swG a p) (p+1):=by omega
  rcases(by omega:lead (swG a p) (p+1)<=0\/0<lead (swG a p) (p+1))with h | h
  ·have:=qQ h (show 0<=lead a (p+1) by omega);omega
  ·exact h
 refine⟨λt ht hne2=>?_,pm,?_⟩
 ·rcases qU t (p+2)with e | e
  ·exact(qlj (λt ht=>hne t (by omega)) p (qV _)).1 t (by omega)
  ·exact(qzc hs hpn hne (by omega) (n-(p+2)) (by omega)).1 t (by omega) hne2
 ·have h1:lead a (p+1)*lead (swG a p) (p+1)<lead a (p+1)*lead a (p+1):=by
   have:=xV p1 p1;omega
  exact Int.lt_of_mul_lt_mul_left h1 (by omega)
structure Pos(n:Nat)(D:Int)(a:Nat->Row):Prop where
 sym:∀i j,i<n->j<n->a i j=a j i
 pos:∀k,k<=n->0<lead a k
 le:∀k,k<=n->lead a k<=D
section
variable{n:Nat}{D:Int}{a:Nat->Row}
theorem Pos.ne(h:Pos n D a){k:Nat}(hk:k<=n):∀t,t<=k->lead a t≠0:=λt ht=>by have:=h.pos t (by omega);omega
theorem Pos.sq(h:Pos n D a){s k:Nat}(hs:s<n)(hk:k<s):lead a k*stg a (k+1) s s=lead a (k+1)*stg a k s s-stg a k s k*stg a k s k:=by
 have e:=zbz (h.ne (k:=k) (by omega)) s s;rw[zfn h.sym k (by omega) (h.ne (by omega)) k s (by omega) hs (qV _) (by omega)]at e;exact e
theorem zem(x:Int):0<=x*x:=by
 rcases Int.le_total 0 x with h | h
 ·exact qY h h
 ·exact xK h h
theorem qfx{x y:Int}(hx:0<x)(h:0<x*y):0<y:=by
 rcases(by omega:y<=0\/0<y)with h2 | h2
 ·have:=qQ h2 (show 0<=x by omega);omega
 ·exact h2
theorem Pos.diag(h:Pos n D a){s:Nat}(hs:s<n):∀m k,k+m=s->0<stg a k s s:=by
 intro m
 induction m with
 |zero=>
  intro k hk;have:k=s:=by omega
  subst this;rw[<-zba];exact h.pos _ (by omega)
 |succ m ih=>
  intro k hk;have e:=h.sq hs (show k<s by omega);have h1:=ih (k+1) (by omega);have h2:=xV (h.pos k (by omega)) h1;have h3:=zem (stg a k s k);exact qfx (h.pos (k+1) (by omega)) (by omega)
theorem Pos.down(h:Pos n D a){s:Nat}(hs:s<n):∀k,k<=s->stg a k s s<=lead a k*a s s:=by
 intro k
 induction k with
 |zero=>intro _;rw[zdk,zbh];omega
 |succ k ih=>
  intro hk;have e:=h.sq hs (show k<s by omega);have h3:=zem (stg a k s k);have h1:=qQ (ih (by omega)) (show 0<=lead a (k+1) by have:=h.pos (k+1) (by omega);omega)
  have h2:lead a k*stg a (k+1) s s<=lead a k*(lead a (k+1)*a s s):=by
   have:lead a (k+1)*(lead a k*a s s)=lead a k*(lead a (k+1)*a s s):=by grind
   omega
  exact qA h2 (h.pos k (by omega))
theorem Pos.lam_sq(h:Pos n D a){s k:Nat}(hs:s<n)(hk:k<s):stg a k s k*stg a k s k<=lead a (k+1)*(lead a k*a s s):=by
 have e:=h.sq hs hk;have h1:=xV (h.pos k (by omega)) (h.diag hs (s-(k+1)) (k+1) (by omega));have h2:=qQ (h.down hs k (by omega)) (show 0<=lead a (k+1) by have:=h.pos (k+1) (by omega);omega);omega
theorem zif{x m:Int}(hm:0<=m)(h:x*x<=m*m):x<=m/\ -m<=x:=by
 constructor
 ·rcases(by omega:x<=m\/m<x)with h1 | h1
  ·exact h1
  ·have h2:=qQ (show m+1<=x by omega) (show 0<=x by omega);have h3:=qK (show m+1<=x by omega) (show 0<=m+1 by omega);have e1:(m+1)*(m+1)=m*m+2*m+1:=by grind
   have e2:x*(m+1)=(m+1)*x:=xQ _ _;omega
 ·rcases(by omega: -m<=x\/x< -m)with h1 | h1
  ·exact h1
  ·have h2:=qQ (show m+1<= -x by omega) (show 0<= -x by omega);have h3:=qK (show m+1<= -x by omega) (show 0<=m+1 by omega);have e1:(m+1)*(m+1)=m*m+2*m+1:=by grind
   have e2: -x*(m+1)=(m+1)* -x:=xQ _ _;have e3: -x* -x=x*x:=by grind
   omega
theorem Pos.one(h:Pos n D a):1<=D:=by have:=h.le 0 (by omega);rw[zbh]at this;omega
theorem Pos.lam_le(h:Pos n D a){s k:Nat}{K:Int}(hs:s<n)(hk:k<s)(hK:a s s<=K)(hK1:1<=K):stg a k s k<=lead a (k+1)*(K*D)/\ -(lead a (k+1)*(K*D))<=stg a k s k:=by
 have p1:=h.pos (k+1) (by omega);have p0:=h.pos k (by omega);have l0:=h.le k (by omega);have hD:=h.one;have hKD:1<=K*D:=by have:=qQ hD (show 0<=K by omega);omega
 refine zif (qY (by omega) (by omega)) ?_;have q:=h.lam_sq hs hk
 have q1:lead a k*a s s<=D*K:=by
  have m1:=qQ hK (show 0<=lead a k by omega);have m2:=qK l0 (show 0<=K by omega);omega
 have q2:=qQ q1 (show 0<=lead a (k+1) by omega);have c:D*K=K*D:=xQ _ _
 have q3:lead a (k+1)*(K*D)<=(lead a (k+1)*(K*D))*(lead a (k+1)*(K*D)):=by
  have z:1<=lead a (k+1)*(K*D):=by have:=qQ hKD (show 0<=lead a (k+1) by omega);omega
  have:=qQ z (show 0<=lead a (k+1)*(K*D) by omega);omega
 rw[c]at q2;omega
theorem Pos.norm_le(h:Pos n D a){s:Nat}(hs:s<n){m:Int}(hl:∀k,k<s->stg a k s k<=lead a (k+1)*m/\ -(lead a (k+1)*m)<=stg a k s k):∀c k,k+c=s->stg a k s s<=lead a k*(D+(c:Int)*(D*(m*m))):=by
 intro c
 induction c with
 |zero=>
  intro k hk;have:k=s:=by omega
  subst this;rw[<-zba];have h1:=h.le (k+1) (by omega);have h0:=h.pos k (by omega);have:=qK (show(1:Int)<=lead a k by omega) (show 0<=D by have:=h.one;omega);have e:lead a k*(D+((0:Nat):Int)*(D*(m*m)))=lead a k*D:=by simp
  omega
 |succ c ih=>
  intro k hk;have e:=h.sq hs (show k<s by omega);have i1:=ih (k+1) (by omega);obtain⟨l1,l2⟩:=hl k (by omega);have q:=jdb l1 l2;have p0:=h.pos k (by omega);have p1:=h.pos (k+1) (by omega);have d1:=h.le (k+1) (by omega);have m1:=qQ i1 (show 0<=lead a k by omega);have mm:=zem m
  have x1:lead a (k+1)*(lead a (k+1)*(m*m))<=lead a (k+1)*(lead a k*(D*(m*m))):=by
   refine qQ ?_ (by omega);have y1:=qK d1 mm;have y2:=qK (show(1:Int)<=lead a k by omega) (qY (show 0<=D by omega) mm);omega
  have z:lead a (k+1)*stg a k s s<=lead a (k+1)*(lead a k*(D+((c+1:Nat):Int)*(D*(m*m)))):=by
   have e1:lead a (k+1)*m*(lead a (k+1)*m)=lead a (k+1)*(lead a (k+1)*(m*m)):=by grind
   have e2:lead a k*(lead a (k+1)*(D+(c:Int)*(D*(m*m))))=lead a (k+1)*(lead a k*(D+(c:Int)*(D*(m*m)))):=by grind
   have e3:lead a (k+1)*(lead a k*(D+((c+1:Nat):Int)*(D*(m*m))))=lead a (k+1)*(lead a k*(D+(c:Int)*(D*(m*m))))+lead a (k+1)*(lead a k*(D*(m*m))):=by
    have:((c+1:Nat):Int)=(c:Int)+1:=by omega
    rw[this];grind
   omega
  exact qA z p1
theorem Pos.norm(h:Pos n D a){s:Nat}(hs:s<n){m:Int}(hl:∀k,k<s->stg a k s k<=lead a (k+1)*m/\ -(lead a (k+1)*m)<=stg a k s k):a s s<=D+(s:Int)*(D*(m*m)):=by
 have:=h.norm_le hs hl s 0 (by omega);rw[zdk,zbh]at this;omega
theorem Pos.entry(h:Pos n D a){s t:Nat}(hs:s<n)(ht:t<=s):∀m k,k+m=t->2*stg a k s t<=stg a k s s+stg a k t t/\ -(2*stg a k s t)<=stg a k s s+stg a k t t:=by
 intro m
 induction m with
 |zero=>
  intro k hk;have hkt:k=t:=by omega
  subst hkt;rcases qU k s with h1 | h1
  ·have e:=h.sq hs h1;have p:=xV (h.pos k (by omega)) (h.diag hs (s-(k+1)) (k+1) (by omega));have d:=zba a k;rw[d]at e;have p1:=h.diag hs (s-k) k (by omega);have p2:0<stg a k k k:=by rw[<-d];exact h.pos _ (by omega)
   have q:2*stg a k s k*(2*stg a k s k)<=(stg a k s s+stg a k k k)*(stg a k s s+stg a k k k):=by
    have w:=zem (stg a k s s-stg a k k k);have e1:(stg a k s s-stg a k k k)*(stg a k s s-stg a k k k)=(stg a k s s+stg a k k k)*(stg a k s s+stg a k k k)-4*(stg a k k k*stg a k s s):=by grind
    have e2:2*stg a k s k*(2*stg a k s k)=4*(stg a k s k*stg a k s k):=by grind
    omega
   have:=zif (by omega) q;omega
  ·have:k=s:=by omega
   subst this;have:=h.diag hs 0 k (by omega);omega
 |succ m ih=>
  intro k hk;obtain⟨i1,i2⟩:=ih (k+1) (by omega);have e1:=h.sq hs (show k<s by omega);have e2:=h.sq (show t<n by omega) (show k<t by omega);have hn:=h.ne (k:=k) (by omega);have e3:=zbz hn s t;rw[zfn h.sym k (by omega) hn k t (by omega) (by omega) (qV _) (by omega)]at e3;have p0:=h.pos k (by omega);have p1:=h.pos (k+1) (by omega);have w1:=zem (stg a k s k-stg a k t k);have w2:=zem (stg a k s k+stg a k t k);have f1:(stg a k s k-stg a k t k)*(stg a k s k-stg a k t k)=stg a k s k*stg a k s k+stg a k t k*stg a k t k-2*(stg a k s k*stg a k t k):=by grind
  have f2:(stg a k s k+stg a k t k)*(stg a k s k+stg a k t k)=stg a k s k*stg a k s k+stg a k t k*stg a k t k+2*(stg a k s k*stg a k t k):=by grind
  have m1:=qQ i1 (show 0<=lead a k by omega);have m2:=qQ i2 (show 0<=lead a k by omega);have g1:lead a k*(2*stg a (k+1) s t)=2*(lead a k*stg a (k+1) s t):=by grind
  have g2:lead a k*(-(2*stg a (k+1) s t))= -(2*(lead a k*stg a (k+1) s t)):=by grind
  have g3:lead a k*(stg a (k+1) s s+stg a (k+1) t t)=lead a k*stg a (k+1) s s+lead a k*stg a (k+1) t t:=by grind
  have c1:lead a (k+1)*(2*stg a k s t)<=lead a (k+1)*(stg a k s s+stg a k t t):=by
   have h1:lead a (k+1)*(2*stg a k s t)=2*(lead a (k+1)*stg a k s t):=by grind
   have h2:lead a (k+1)*(stg a k s s+stg a k t t)=lead a (k+1)*stg a k s s+lead a (k+1)*stg a k t t:=by grind
   omega
  have c2:lead a (k+1)*(-(2*stg a k s t))<=lead a (k+1)*(stg a k s s+stg a k t t):=by
   have h1:lead a (k+1)*(-(2*stg a k s t))= -(2*(lead a (k+1)*stg a k s t)):=by grind
   have h2:lead a (k+1)*(stg a k s s+stg a k t t)=lead a (k+1)*stg a k s s+lead a (k+1)*stg a k t t:=by grind
   omega
  exact⟨qA c1 p1,qA c2 p1⟩
theorem Pos.bound(h:Pos n D a){K:Int}(hK:∀s,s<n->a s s<=K){s t:Nat}(hs:s<n)(ht:t<n):a s t<=K/\ -K<=a s t:=by
 have key:∀s t,s<n->t<=s->a s t<=K/\ -K<=a s t:=by
  intro s t hs ht;have:=h.entry hs ht t 0 (by omega);simp only[zdk]at this;have:=hK s hs;have:=hK t (by omega);omega
 rcases Nat.le_total t s with h1 | h1
 ·exact key s t hs h1
 ·rw[h.sym s t hs ht];exact key t s ht h1
end
def SZ(a:Nat->Row)(i j:Nat):Prop:=2*stg a j i j<=lead a (j+1)/\ -(2*stg a j i j)<=lead a (j+1)
def LV(a:Nat->Row)(i:Nat):Prop:=3*(lead a i*lead a i)<=4*(lead a (i-1)*lead a (i+1)+stg a (i-1) i (i-1)*stg a (i-1) i (i-1))
def OKr(a:Nat->Row)(i:Nat):Prop:=(∀j,j<i->SZ a i j)/\(0<i->LV a i)
structure CurA(n:Nat)(a:Nat->Row)(i j:Nat):Prop where
 hi:i<n
 hj:j<i
 pre:∀s,s<i->OKr a s
 up:∀l,j<l->l<i->SZ a i l
 no:¬SZ a i j
structure CurS(n:Nat)(a:Nat->Row)(i:Nat):Prop where
 hi:i<n
 h0:0<i
 pre:∀s,s<i->OKr a s
 up:∀l,l<i->SZ a i l
 no:¬LV a i
structure Good(n:Nat)(D K:Int)(a:Nat->Row):Prop where
 cA:∀i j,CurA n a i j->(∀s,s<n->s≠i->a s s<=K)/\∀l,l<=j->stg a l i l<=lead a (l+1)*(2^(i-1-j)*(K*D))/\ -(lead a (l+1)*(2^(i-1-j)*(K*D)))<=stg a l i l
 cS:∀i,CurS n a i->∀s,s<n->a s s<=K
 cE:(∀i,i<n->OKr a i)->∀s,s<n->a s s<=K
section
variable{n:Nat}{D K:Int}{a:Nat->Row}
theorem ztz(e:Nat):(1:Int)<=2^e:=by
 induction e with
 |zero=>decide
 |succ e ih=>rw[xR];omega
theorem zww{e f:Nat}(h:e<=f):(2:Int)^e<=2^f:=by
 induction f with
 |zero=>
  have:e=0:=by omega
  subst this;exact xM _
 |succ f ih=>
  rcases qU e (f+1)with h1 | h1
  ·have:=ih (by omega);have:=ztz f;rw[xR];omega
  ·have:e=f+1:=by omega
   rw[this];exact xM _
theorem zua(h:Pos n D a)(hK:1<=K)(ha:∀s,s<n->a s s<=K):Good n D K a:=by
 refine⟨λi j c=>⟨λs hs _=>ha s hs,λl hl=>?_⟩,λ_ _=>ha,λ_=>ha⟩;have:=h.lam_le c.hi (show l<i by have:=c.hj;omega) (ha i c.hi) hK;have p:=h.pos (l+1) (by have:=c.hj;have:=c.hi;omega);have hKD:0<=K*D:=qY (by omega) (by have:=h.one;omega)
 have q:lead a (l+1)*(K*D)<=lead a (l+1)*(2^(i-1-j)*(K*D)):=by
  refine qQ ?_ (by omega);have:=qK (ztz (i-1-j)) hKD;omega
 omega
theorem qze(h:Pos n D a)(h8:n<=8)(hKD:8*D<=K){s:Nat}(hs:s<n)(hz:∀l,l<s->SZ a s l):a s s<=K:=by
 have:=h.norm hs (m:=1) (λk hk=>by
  obtain⟨z1,z2⟩:=hz k hk;have:=h.pos (k+1) (by omega);omega)
 have e:(D:Int)*(1*1)=D:=by omega
 rw[e]at this;have hD:=h.one;have:(s:Int)*D<=7*D:=qK (by omega) (by omega);omega
theorem qzf{i j:Nat}{c:Int}(h:Pos n D a)(hi:i<n)(hj:j<i):Pos n D (addG a i j c):=by
 have hn:=h.ne (k:=n) (qV _);refine⟨λs t hs ht=>?_,λk hk=>by rw[zku hj hi hn hk];exact h.pos k hk,λk hk=>by rw[zku hj hi hn hk];exact h.le k hk⟩;unfold addG;rw[h.sym s t hs ht,h.sym j t (by omega) ht,h.sym s j hs (by omega)];have e:(s=i/\t=i)↔(t=i/\s=i):=And.comm;simp only[e];omega
theorem qco{i j:Nat}{c:Int}(h:Pos n D a)(h8:n<=8)(hK:1<=K)(hKD:8*D<=K)(hc:CurA n a i j)(hg:Good n D K a)(hz:2*(stg a j i j+c*lead a (j+1))<=lead a (j+1)/\ -(2*(stg a j i j+c*lead a (j+1)))<=lead a (j+1)):
  (c<=2^(i-1-j)*(K*D)/\ -(2^(i-1-j)*(K*D))<=c)/\Pos n D (addG a i j c)/\Good n D K (addG a i j c)/\
   (∀i' j',CurA n (addG a i j c) i' j'->i<=i'/\(i'=i->j'<j))/\∀i',CurS n (addG a i j c) i'->i<=i':=by
 have hi:=hc.hi;have hj:=hc.hj;have hn:=h.ne (k:=n) (qV _);have hp':=qzf (c:=c) h hi hj;obtain⟨g1,g2⟩:=hg.cA i j hc
 have hM:1<=2^(i-1-j)*(K*D):=by
  have h1:=ztz (i-1-j);have h2:1<=K*D:=by have:=qQ h.one (show 0<=K by omega);omega
  have:=qQ h2 (show(0:Int)<=2^(i-1-j) by omega);omega
 have hcb:c<=2^(i-1-j)*(K*D)/\ -(2^(i-1-j)*(K*D))<=c:=by
  obtain⟨b1,b2⟩:=g2 j (qV _);have p:=h.pos (j+1) (by omega);generalize 2^(i-1-j)*(K*D)=M at*;generalize lead a (j+1)=d at*
  have t1:d*(2*c)<=d*(2*M+1):=by
   have e1:d*(2*c)=2*(c*d):=by grind
   have e2:d*(2*M+1)=2*(d*M)+d:=by grind
   omega
  have t2:d*(-(2*c))<=d*(2*M+1):=by
   have e1:d*(-(2*c))= -(2*(c*d)):=by grind
   have e2:d*(2*M+1)=2*(d*M)+d:=by grind
   omega
  have u1:=qA t1 p;have u2:=qA t2 p;omega
 have lam:∀s t,t<s->s<n->stg (addG a i j c) t s t=stg a t s t+if s=i then(if t<=j then c*stg a t j t else 0)else 0:=λs t h1 h2=>qzb hj hi hn h1 h2
 have ld:∀t,t<=n->lead (addG a i j c) t=lead a t:=λt ht=>zku hj hi hn ht
 have szk:∀s l,l<s->s<n->s≠i->(SZ (addG a i j c) s l↔SZ a s l):=λs l h1 h2 h3=>by
  unfold SZ;rw[lam s l h1 h2,if_neg h3,ld _ (by omega),qN]
 have lvk:∀s,0<s->s<n->s≠i->(LV (addG a i j c) s↔LV a s):=λs h1 h2 h3=>by
  unfold LV;rw[lam s (s-1) (by omega) h2,if_neg h3,ld _ (by omega),ld _ (by omega),ld _ (by omega),qN]
 have dg:∀s,s≠i->(addG a i j c) s s=a s s:=λs hs=>by
  unfold addG;rw[if_neg hs,if_neg hs,if_neg (λe=>hs e.1)];omega
 have low:∀i' j',CurA n (addG a i j c) i' j'->i<=i'/\(i'=i->j'<j):=by
  intro i' j' hc';refine⟨yQ λhlt=>?_,λe=>?_⟩
  ·have:=(hc.pre i' hlt).1 j' hc'.hj;exact hc'.no ((szk i' j' hc'.hj hc'.hi (by omega)).2 this)
  ·subst e;refine xT λhle=>?_
   have hj':=hc'.hj;apply hc'.no;unfold SZ;rw[lam i' j' hj' hi,if_pos rfl,ld _ (by omega)];rcases qU j j' with h1 | h1
   ·rw[if_neg (by omega),qN];exact hc.up j' h1 hj'
   ·have:j'=j:=by omega
    subst this;rw[if_pos (qV _),<-zba];exact hz
 have lowS:∀i',CurS n (addG a i j c) i'->i<=i':=by
  intro i' hc';refine yQ λhlt=>?_
  have:=(hc.pre i' hlt).2 hc'.h0;exact hc'.no ((lvk i' hc'.h0 hc'.hi (by omega)).2 this)
 have done:(∀l,l<i->SZ (addG a i j c) i l)->∀s,s<n->(addG a i j c) s s<=K:=by
  intro hz' s hs;by_cases e:s=i
  ·subst e;exact qze hp' h8 hKD hs hz'
  ·rw[dg s e];exact g1 s hs e
 refine⟨hcb,hp',⟨λi' j' hc'=>?_,λi' hc'=>?_,λhall=>done (hall i hi).1⟩,low,lowS⟩
 ·obtain⟨l1,l2⟩:=low i' j' hc';by_cases e:i'=i
  ·subst e;have hlt:=l2 rfl;refine⟨λs hs hne=>by rw[dg s hne];exact g1 s hs hne,λl hl=>?_⟩;obtain⟨b1,b2⟩:=g2 l (by omega);obtain⟨z1,z2⟩:=(hc.pre j hj).1 l (by omega);have p:=h.pos (l+1) (by omega);rw[lam i' l (by omega) hi,if_pos rfl,if_pos (by omega),ld _ (by omega)];have m:=zpj hcb.1 hcb.2 z1 (by omega);have e2:c*(2*stg a l j l)=2*(c*stg a l j l):=by grind
   rw[e2]at m
   have pw:(2:Int)^(i'-1-j)*2<=2^(i'-1-j'):=by
    rw[<-xR];exact zww (by omega)
   have hKD0:0<=K*D:=qY (by omega) (by have:=h.one;omega);have pw2:=qK pw hKD0;have pw3:=qQ pw2 (show 0<=lead a (l+1) by omega);have e3:lead a (l+1)*(2^(i'-1-j)*2*(K*D))=2*(lead a (l+1)*(2^(i'-1-j)*(K*D))):=by grind
   have e4:2^(i'-1-j)*(K*D)*lead a (l+1)=lead a (l+1)*(2^(i'-1-j)*(K*D)):=xQ _ _;have pp:=qY (show 0<=lead a (l+1) by omega) (show 0<=2^(i'-1-j)*(K*D) by omega);rw[e3]at pw3;rw[e4]at m;omega
  ·have hlt:i<i':=by omega
   have hall:=done (hc'.pre i hlt).1;exact(zua hp' hK hall).cA i' j' hc'
 ·have l1:=lowS i' hc';by_cases e:i'=i
  ·subst e;exact done hc'.up
  ·exact done (hc'.pre i (by omega)).1
theorem qad{p s:Nat}(hp:p+1<n)(hs:s<n):sw p s<n:=by
 unfold sw;split
 ·omega
 ·split<;>omega
theorem qae{i:Nat}(h:Pos n D a)(hK:1<=K)(hc:CurS n a i)(hg:Good n D K a):Pos n D (swG a (i-1))/\Good n D K (swG a (i-1))/\(∀t,t<=n->t≠i->lead (swG a (i-1)) t=lead a t)/\lead (swG a (i-1)) i<lead a i:=by
 have hi:=hc.hi;have h0:=hc.h0;obtain⟨p,rfl⟩:∃p,i=p+1:=⟨i-1,by omega⟩
 simp only[xW];have hno:=hc.no;unfold LV at hno;simp only[xW]at hno;obtain⟨s1,s2,s3⟩:=qzd h.sym hi h.pos hno
 have hP:Pos n D (swG a p):=by
  refine⟨λs t hs ht=>h.sym _ _ (qad hi hs) (qad hi ht),λk hk=>?_,λk hk=>?_⟩
  ·by_cases e:k=p+1
   ·rw[e];exact s2
   ·rw[s1 k hk e];exact h.pos k hk
  ·by_cases e:k=p+1
   ·rw[e];have:=h.le (p+1) (by omega);omega
   ·rw[s1 k hk e];exact h.le k hk
 exact⟨hP,zua hP hK (λs hs=>hg.cS _ hc _ (qad hi hs)),s1,s3⟩
def zjq(a:Nat->Row):Nat->Nat
 |0=>1
 |k+1=>zjq a k*(lead a (k+1)).toNat
theorem prod_congr{b:Nat->Row}:∀k,(∀t,t<=k->lead b t=lead a t)->zjq b k=zjq a k:=by
 intro k
 induction k with
 |zero=>intro _;rfl
 |succ k ih=>intro h;simp only[zjq];rw[ih (λt ht=>h t (by omega)),h (k+1) (qV _)]
theorem qrz:∀k,(∀t,t<=k->0<lead a t)->0<zjq a k:=by
 intro k
 induction k with
 |zero=>intro _;exact Nat.one_pos
 |succ k ih=>
  intro h;have:=h (k+1) (qV _);exact Nat.mul_pos (ih (λt ht=>h t (by omega))) (by omega)
theorem qzg{b:Nat->Row}{i:Nat}(h0:0<i)(hl:lead b i<lead a i)(hb:0<lead b i):∀k,i<=k->(∀t,t<=k->t≠i->lead b t=lead a t)->(∀t,t<=k->0<lead a t)->zjq b k<zjq a k:=by
 intro k
 induction k with
 |zero=>intro h1;omega
 |succ k ih=>
  intro h1 h2 h3;simp only[zjq];by_cases e:i=k+1
  ·subst e;rw[prod_congr k (λt ht=>h2 t (by omega) (by omega))];have:=qrz k (λt ht=>h3 t (by omega));exact Nat.mul_lt_mul_of_pos_left (by omega) this
  ·rw[h2 (k+1) (qV _) (λx=>e x.symm)];have:=h3 (k+1) (qV _);exact Nat.mul_lt_mul_of_pos_right (ih (by omega) (λt ht hne=>h2 t (by omega) hne) (λt ht=>h3 t (by omega))) (by omega)
def bigK(D K:Int):Int:=D+8*(D*((2^7*(K*D))*(2^7*(K*D))))
theorem qlk(h:Pos n D a)(h8:n<=8)(hK:1<=K)(hg:Good n D K a)(hcase:(∃i j,CurA n a i j)\/(∃i,CurS n a i)\/∀i,i<n->OKr a i){s:Nat}(hs:s<n):a s s<=bigK D K:=by
 have hD:=h.one;have h1:1<=K*D:=by have:=qQ hD (show 0<=K by omega);omega
 have hm:K*D<=2^7*(K*D):=by omega
 have hmm:2^7*(K*D)<=(2^7*(K*D))*(2^7*(K*D)):=by
  have:=qQ (show 1<=2^7*(K*D) by omega) (show 0<=2^7*(K*D) by omega);omega
 have hK2:K<=K*D:=by have:=qQ hD (show 0<=K by omega);omega
 have hDm:(2^7*(K*D))*(2^7*(K*D))<=D*((2^7*(K*D))*(2^7*(K*D))):=by
  have:=qK hD (show 0<=(2^7*(K*D))*(2^7*(K*D)) by omega);omega
 have hKB:K<=bigK D K:=by unfold bigK;omega
 rcases hcase with⟨i,j,hc⟩ | ⟨i,hc⟩ | hall
 ·obtain⟨g1,g2⟩:=hg.cA i j hc;by_cases e:s=i
  ·subst e
   have:=h.norm hs (m:=2^7*(K*D)) (λk hk=>by
    have p:=h.pos (k+1) (by omega)
    have q:lead a (k+1)<=lead a (k+1)*(2^7*(K*D)):=by
     have:=qQ (show 1<=2^7*(K*D) by omega) (show 0<=lead a (k+1) by omega);omega
    rcases qU j k with h2 | h2
    ·obtain⟨z1,z2⟩:=hc.up k h2 hk;omega
    ·obtain⟨b1,b2⟩:=g2 k h2;have w:(2:Int)^(s-1-j)<=2^7:=zww (by omega);have w2:=qK w (show 0<=K*D by omega);have w3:=qQ w2 (show 0<=lead a (k+1) by omega);omega)
   have f:(s:Int)*(D*((2^7*(K*D))*(2^7*(K*D))))<=8*(D*((2^7*(K*D))*(2^7*(K*D)))):=qK (by omega) (by omega);unfold bigK;omega
  ·exact xI (g1 s hs e) hKB
 ·exact xI (hg.cS i hc s hs) hKB
 ·exact xI (hg.cE hall s hs) hKB
end
theorem sumR_add(f g:Nat->Int)(n:Nat):sumR (λi=>f i+g i) n=sumR f n+sumR g n:=by
 induction n with
 |zero=>rfl
 |succ n ih=>simp only[sumR,ih];omega
theorem sumR_mul(c:Int)(f:Nat->Int)(n:Nat):sumR (λi=>c*f i) n=c*sumR f n:=by
 induction n with
 |zero=>simp[sumR]
 |succ n ih=>simp only[sumR,ih];grind
theorem sumR_one{f:Nat->Int}{n k:Nat}(hk:k<n)(h:∀t,t<n->t≠k->f t=0):sumR f n=f k:=by
 induction n with
 |zero=>omega
 |succ n ih=>
  simp only[sumR];by_cases e:k=n
  ·subst e;rw[zcl (λt ht=>h t (by omega) (by omega))];omega
  ·rw[ih (by omega) (λt ht hne=>h t (by omega) hne),h n (by omega) (λx=>e x.symm)];omega
theorem qcp{f:Nat->Int}{n:Nat}{c:Int}(h:∀t,t<n->f t<=c/\ -c<=f t):sumR f n<=n*c/\ -(n*c)<=sumR f n:=by
 induction n with
 |zero=>simp[sumR]
 |succ n ih=>
  obtain⟨h1,h2⟩:=ih (λt ht=>h t (by omega));obtain⟨h3,h4⟩:=h n (by omega);simp only[sumR];have e:((n+1:Nat):Int)*c=(n:Int)*c+c:=by rw[show((n+1:Nat):Int)=(n:Int)+1 by omega];grind
  omega
def linK(a:Nat->Row)(n k s:Nat)(v:Nat->Int):Int:=sumR (λt=>stg a k s t*v t) n
def quaK(a:Nat->Row)(n k:Nat)(v:Nat->Int):Int:=sumR (λs=>linK a n k s v*v s) n
section
variable{n:Nat}{D:Int}{a:Nat->Row}
theorem qzh(h:Pos n D a){k s:Nat}(hk:k<n)(v:Nat->Int):lead a k*linK a n (k+1) s v=lead a (k+1)*linK a n k s v-stg a k s k*linK a n k k v:=by
 unfold linK;rw[<-sumR_mul,<-sumR_mul,<-sumR_mul]
 have e:sumR (λi=>lead a k*(stg a (k+1) s i*v i)) n=sumR (λi=>lead a (k+1)*(stg a k s i*v i)+(-1)*(stg a k s k*(stg a k k i*v i))) n:=by
  refine zae λi _=>?_
  have r:=zbz (h.ne (k:=k) (by omega)) s i;have:lead a k*(stg a (k+1) s i*v i)=(lead a k*stg a (k+1) s i)*v i:=by grind
  rw[this,r];grind
 rw[e,sumR_add,sumR_mul (-1)];omega
theorem qaf(h:Pos n D a){k:Nat}(hk:k<n)(v:Nat->Int):lead a k*quaK a n (k+1) v=lead a (k+1)*quaK a n k v-linK a n k k v*linK a n k k v:=by
 unfold quaK;rw[<-sumR_mul,<-sumR_mul]
 have hl:linK a n k k v*linK a n k k v=sumR (λs=>linK a n k k v*(stg a k s k*v s)) n:=by
  rw[sumR_mul];congr 1;unfold linK;refine zae λs hs=>?_
  rcases qU s k with h1 | h1
  ·rw[zty h1,ztw (h.ne (k:=k) (by omega)) k s h1]
  ·rw[zfn h.sym k hk (h.ne (by omega)) k s hk hs (qV _) h1]
 have e:sumR (λi=>lead a k*(linK a n (k+1) i v*v i)) n=sumR (λi=>lead a (k+1)*(linK a n k i v*v i)+(-1)*(linK a n k k v*(stg a k i k*v i))) n:=by
  refine zae λi _=>?_
  have r:=qzh h (s:=i) hk v;have:lead a k*(linK a n (k+1) i v*v i)=(lead a k*linK a n (k+1) i v)*v i:=by grind
  rw[this,r];grind
 rw[e,sumR_add,sumR_mul (-1),hl];omega
theorem qzi(v:Nat->Int):quaK a n n v=0:=by
 unfold quaK;refine zcl λs hs=>?_
 have:linK a n n s v=0:=by
  unfold linK;exact zcl λt _=>by rw[zty hs];simp
 rw[this];simp
theorem ziz(h:Pos n D a)(v:Nat->Int):∀m k,k+m=n->0<=quaK a n k v:=by
 intro m
 induction m with
 |zero=>
  intro k hk;have:k=n:=by omega
  subst this;rw[qzi];exact xM _
 |succ m ih=>
  intro k hk;have e:=qaf h (show k<n by omega) v;have h1:=qY (show 0<=lead a k by have:=h.pos k (by omega);omega) (ih (k+1) (by omega));have h2:=zem (linK a n k k v);have h3:0<=lead a (k+1)*quaK a n k v:=by omega
  rcases(by omega:quaK a n k v<0\/0<=quaK a n k v)with h4 | h4
  ·have:=xV (h.pos (k+1) (by omega)) (show 0< -quaK a n k v by omega);have e2:lead a (k+1)* -quaK a n k v= -(lead a (k+1)*quaK a n k v):=by grind
   omega
  ·exact h4
theorem qsa(h:Pos n D a)(v:Nat->Int):∀k,k<=n->quaK a n k v<=lead a k*quaK a n 0 v:=by
 intro k
 induction k with
 |zero=>intro _;rw[zbh];omega
 |succ k ih=>
  intro hk;have e:=qaf h (show k<n by omega) v;have h2:=zem (linK a n k k v);have h1:=qQ (ih (by omega)) (show 0<=lead a (k+1) by have:=h.pos (k+1) (by omega);omega)
  have h3:lead a k*quaK a n (k+1) v<=lead a k*(lead a (k+1)*quaK a n 0 v):=by
   have:lead a (k+1)*(lead a k*quaK a n 0 v)=lead a k*(lead a (k+1)*quaK a n 0 v):=by grind
   omega
  exact qA h3 (h.pos k (by omega))
theorem qll(h:Pos n D a)(v:Nat->Int){Q:Int}(hQ:quaK a n 0 v<=Q){k:Nat}(hk:k<n):linK a n k k v<=D*(Q+1)/\ -(D*(Q+1))<=linK a n k k v:=by
 have q0:=ziz h v n 0 (by omega);have hD:=h.one;refine zif (qY (by omega) (by omega)) ?_;have e:=qaf h hk v;have h1:=qY (show 0<=lead a k by have:=h.pos k (by omega);omega) (ziz h v (n-(k+1)) (k+1) (by omega));have p1:=h.pos (k+1) (by omega);have p0:=h.pos k (by omega);have l1:=h.le (k+1) (by omega);have l0:=h.le k (by omega);have m1:=qQ (qsa h v k (by omega)) (show 0<=lead a (k+1) by omega)
 have m2:lead a k*quaK a n 0 v<=D*Q:=by
  have x1:=qQ hQ (show 0<=lead a k by omega);have x2:=qK l0 (show 0<=Q by omega);omega
 have m3:lead a (k+1)*(lead a k*quaK a n 0 v)<=D*(D*Q):=by
  have x1:=qQ m2 (show 0<=lead a (k+1) by omega);have x2:=qK l1 (show 0<=D*Q from qY (by omega) (by omega));omega
 have m4:D*(D*Q)<=D*(Q+1)*(D*(Q+1)):=by
  have e1:D*(Q+1)*(D*(Q+1))=D*(D*Q)+D*D*(Q*Q+Q+1):=by grind
  have:=qY (qY (show 0<=D by omega) (show 0<=D by omega)) (show 0<=Q*Q+Q+1 by have:=zem Q;omega);omega
 omega
def vecB(D K Q:Int):Nat->Int
 |0=>D*(Q+1)
 |m+1=>D*(Q+1)+8*(D*K*vecB D K Q m)
theorem zpm{K Q:Int}(hD:1<=D)(hK:0<=K)(hQ:0<=Q):∀m,0<=vecB D K Q m:=by
 intro m
 induction m with
 |zero=>exact qY (by omega) (by omega)
 |succ m ih=>
  have h1:=qY (show 0<=D by omega) (show 0<=Q+1 by omega);have h2:=qY (qY (show 0<=D by omega) hK) ih;simp only[vecB];omega
theorem qlm{K Q:Int}(hD:1<=D)(hK:1<=K)(hQ:0<=Q):∀m,vecB D K Q m<=vecB D K Q (m+1):=by
 intro m;have h0:=zpm hD (show 0<=K by omega) hQ m;have h1:=qY (show 0<=D by omega) (show 0<=Q+1 by omega);have h2:1<=D*K:=by have:=qQ hK (show 0<=D by omega);omega
 have h3:=qK h2 h0;simp only[vecB];omega
theorem qln{K Q:Int}(hD:1<=D)(hK:1<=K)(hQ:0<=Q):∀c m,vecB D K Q m<=vecB D K Q (m+c):=by
 intro c
 induction c with
 |zero=>intro m;exact xM _
 |succ c ih=>intro m;exact xI (ih m) (qlm hD hK hQ (m+c))
theorem qlo(h:Pos n D a)(h8:n<=8){K:Int}(hK:1<=K)(ha:∀s,s<n->a s s<=K)(v:Nat->Int){Q:Int}(hQ:quaK a n 0 v<=Q):∀m k,k+m+1=n->v k<=vecB D K Q m/\ -(vecB D K Q m)<=v k:=by
 have hD:=h.one;have hQ0:0<=Q:=by have:=ziz h v n 0 (by omega);omega
 intro m
 induction m using Nat.strongRecOn with
 |ind m ih=>
 intro k hk;obtain⟨b1,b2⟩:=qll h v hQ (show k<n by omega)
 have rest:∃x,linK a n k k v=lead a (k+1)*v k+x/\x<=(if m=0 then 0 else 8*(D*K*vecB D K Q (m-1)))/\ -(if m=0 then 0 else 8*(D*K*vecB D K Q (m-1)))<=x:=by
  refine⟨sumR (λt=>if t=k then 0 else stg a k k t*v t) n,?_,?_⟩
  ·have e:linK a n k k v=sumR (λt=>(if t=k then stg a k k k*v k else 0)+(if t=k then 0 else stg a k k t*v t)) n:=by
    unfold linK;refine zae λt _=>?_
    split
    ·rename_i e;rw[e];omega
    ·omega
   rw[e,sumR_add,sumR_one (k:=k) (by omega) (λt _ hne=>if_neg hne),if_pos rfl,zba]
  ·by_cases hm:m=0
   ·rw[if_pos hm]
    have:sumR (λt=>if t=k then 0 else stg a k k t*v t) n=0:=zcl λt ht=>by
     split
     ·rfl
     ·rw[ztw (h.ne (k:=k) (by omega)) k t (by omega)];simp
    rw[this];omega
   ·rw[if_neg hm];have hb:=zpm hD (show 0<=K by omega) hQ0 (m-1);have hDK:0<=D*K:=qY (by omega) (by omega)
    have:=qcp (f:=λt=>if t=k then 0 else stg a k k t*v t) (n:=n) (c:=D*K*vecB D K Q (m-1)) (λt ht=>by
     have hz:=qY hDK hb;split
     ·omega
     ·rename_i hne;rcases qU t k with h1 | h1
      ·rw[ztw (h.ne (k:=k) (by omega)) k t h1];omega
      ·obtain⟨v1,v2⟩:=ih (n-1-t) (by omega) t (by omega);have vm:=qln hD hK hQ0 (m-1-(n-1-t)) (n-1-t);have em:n-1-t+(m-1-(n-1-t))=m-1:=by omega
       rw[em]at vm;have en:=h.entry ht (show k<=t by omega) 0 k (by omega);have sy:=zfn h.sym k (by omega) (h.ne (by omega)) k t (by omega) ht (qV _) (by omega);have d1:=h.down ht k (by omega);have d2:=h.down (show k<n by omega) k (qV _);have p0:=h.pos k (by omega);have l0:=h.le k (by omega)
       have f:∀s,s<n->lead a k*a s s<=D*K:=λs hs=>by
        have x1:=qQ (ha s hs) (show 0<=lead a k by omega);have x2:=qK l0 (show 0<=K by omega);omega
       have f1:=f t ht;have f2:=f k (by omega);rw[sy];exact zpj (by omega) (by omega) (by omega) (by omega))
    have e8:(n:Int)*(D*K*vecB D K Q (m-1))<=8*(D*K*vecB D K Q (m-1)):=qK (by omega) (qY hDK hb);omega
 obtain⟨x,e,x1,x2⟩:=rest;have p1:=h.pos (k+1) (by omega)
 have key:∀{w:Int},lead a (k+1)*v k<=w-> -w<=lead a (k+1)*v k->v k<=w/\ -w<=v k:=by
  intro w h1 h2;rcases(by omega:v k<=0\/0<v k)with h3 | h3
  ·have:=qK (show(1:Int)<=lead a (k+1) by omega) (show 0<= -v k by omega);have e2:lead a (k+1)* -v k= -(lead a (k+1)*v k):=by grind
   have:=qY (show 0<=lead a (k+1) by omega) (show 0<= -v k by omega);omega
  ·have:=qK (show(1:Int)<=lead a (k+1) by omega) (show 0<=v k by omega);omega
 by_cases hm:m=0
 ·subst hm;simp only[if_true]at x1 x2;simp only[vecB];exact key (by omega) (by omega)
 ·obtain⟨m',rfl⟩:∃m',m=m'+1:=⟨m-1,by omega⟩
  rw[if_neg (by omega)]at x1 x2;simp only[xW]at x1 x2;simp only[vecB];exact key (by omega) (by omega)
theorem qzj(h:Pos n D a)(h8:n<=8){K:Int}(hK:1<=K)(ha:∀s,s<n->a s s<=K)(v:Nat->Int){Q:Int}(hQ:quaK a n 0 v<=Q){k:Nat}(hk:k<n):v k<=vecB D K Q 7/\ -(vecB D K Q 7)<=v k:=by
 have hQ0:0<=Q:=by have:=ziz h v n 0 (by omega);omega
 obtain⟨h1,h2⟩:=qlo h h8 hK ha v hQ (n-1-k) k (by omega);have:=qln h.one hK hQ0 (7-(n-1-k)) (n-1-k);have e:n-1-k+(7-(n-1-k))=7:=by omega
 rw[e]at this;omega
def zpn(a:Nat->Row)(n:Nat)(T:Nat->Nat->Int):Nat->Row:=λs t=>sumR (λx=>sumR (λy=>a x y*T y t) n*T x s) n
theorem qfy(T:Nat->Nat->Int)(s:Nat):zpn a n T s s=quaK a n 0 (λx=>T x s):=by
 unfold zpn quaK linK;refine zae λx _=>?_
 congr 1;exact zae λy _=>by rw[zdk]
theorem qlp(T:Nat->Nat->Int)(i j:Nat)(c:Int):zpn a n (λx s=>T x s+if s=i then c*T x j else 0)=addG (zpn a n T) i j c:=by
 funext s t
 have col:∀x t,sumR (λy=>a x y*(T y t+if t=i then c*T y j else 0)) n=sumR (λy=>a x y*T y t) n+if t=i then c*sumR (λy=>a x y*T y j) n else 0:=by
  intro x t;split
  ·rw[<-sumR_mul,<-sumR_add];exact zae λy _=>by grind
  ·rw[qN];exact zae λy _=>by rw[qN]
 show sumR (λx=>sumR (λy=>a x y*(T y t+if t=i then c*T y j else 0)) n*(T x s+if s=i then c*T x j else 0)) n=_
 have e1:sumR (λx=>sumR (λy=>a x y*(T y t+if t=i then c*T y j else 0)) n*(T x s+if s=i then c*T x j else 0)) n=
   sumR (λx=>(sumR (λy=>a x y*T y t) n+if t=i then c*sumR (λy=>a x y*T y j) n else 0)*(T x s+if s=i then c*T x j else 0)) n:=
  zae λx _=>by rw[col]
 rw[e1];unfold addG zpn;by_cases hs:s=i
 ·by_cases ht:t=i
  ·simp only[hs,ht,if_true,and_self];rw[<-sumR_mul,<-sumR_mul,<-sumR_mul,<-sumR_add,<-sumR_add,<-sumR_add];exact zae λx _=>by grind
  ·simp only[hs,ht,if_true,if_false,and_false,qN];rw[<-sumR_mul,<-sumR_add];exact zae λx _=>by grind
 ·by_cases ht:t=i
  ·simp only[hs,ht,if_true,if_false,false_and,qN];rw[<-sumR_mul,<-sumR_add];exact zae λx _=>by grind
  ·simp only[hs,ht,if_false,false_and,qN]
end
end Go.Det
namespace Go.Proofs.YtpflahgcdgdkjaaGreatDoor
open Int renaming mul_le_mul_of_nonneg_right -> qK, add_zero -> qN, mul_comm -> xQ, natAbs_ediv_le_natAbs -> xJ, mul_assoc -> xU, mul_ediv_mul_of_pos_left -> xA, ediv_mul_cancel -> xN, gcd_dvd_right -> xS, gcd_dvd_left -> yZ
open Nat renaming le_refl -> qV, lt_or_ge -> qU, add_sub_cancel -> xW
open List renaming getD_eq_getElem?_getD -> qZ, getElem?_eq_getElem -> qD, getElem?_eq_none -> xX, ext_getElem -> yX
open Go Go.AL Go.Det
def mkM(n:Nat)(f:Nat->Nat->Int):List (List Int):=(List.range n).map λi=>(List.range n).map λj=>f i j
theorem zct(n:Nat)(f:Nat->Nat->Int):Shp n (mkM n f):=by
 refine⟨by simp[mkM],λi hi=>?_⟩;rw[qZ];simp[mkM,hi]
theorem zco{n:Nat}{f:Nat->Nat->Int}{i j:Nat}(hi:i<n)(hj:j<n):ent (mkM n f) i j=f i j:=by
 unfold ent;simp[mkM,qZ,hi,hj]
theorem Shp.out{n:Nat}{M:List (List Int)}(h:Shp n M){i j:Nat}(hij:n<=i\/n<=j):ent M i j=0:=by
 unfold ent;rcases qU i n with h1 | h1
 ·rw[qZ,xX (by rw[h.row i h1];omega)];rfl
 ·have:M.getD i []=[]:=by rw[qZ,xX (by rw[h.len];exact h1)];rfl
  rw[this];rfl
theorem zub{n:Nat}{M M':List (List Int)}(h:Shp n M)(h':Shp n M')(he:∀i j,i<n->j<n->ent M i j=ent M' i j):M=M':=by
 refine yX (h.len.trans h'.len.symm) λi hi hi'=>?_
 have e1:M.getD i []=M[i]:=by rw[qZ,qD hi];rfl
 have e2:M'.getD i []=M'[i]:=by rw[qZ,qD hi'];rfl
 have hin:i<n:=by rw[<-h.len];exact hi
 have l1:=h.row i hin;have l2:=h'.row i hin;rw[e1]at l1;rw[e2]at l2;refine yX (l1.trans l2.symm) λj hj hj'=>?_
 have:=he i j hin (by omega);unfold ent at this;rw[e1,e2,qZ,qZ,qD hj,qD hj']at this;simpa using this
def mulM(n:Nat)(A B:List (List Int)):List (List Int):=mkM n λi j=>sumR (λk=>ent A i k*ent B k j) n
def trM(n:Nat)(A:List (List Int)):List (List Int):=mkM n λi j=>ent A j i
def idM(n:Nat):List (List Int):=mkM n λi j=>if i=j then 1 else 0
def cgM(n:Nat)(G U:List (List Int)):List (List Int):=mulM n (mulM n (trM n U) G) U
def addU(n i j:Nat)(c:Int):List (List Int):=setM (idM n) j i c
theorem zfo(n:Nat):Shp n (idM n):=zct n _
theorem zuc(n:Nat)(A B:List (List Int)):Shp n (mulM n A B):=zct n _
theorem qcq(n:Nat)(G U:List (List Int)):Shp n (cgM n G U):=zct n _
theorem zpo{n i j:Nat}(hi:i<n)(hj:j<n):ent (idM n) i j=if i=j then 1 else 0:=zco hi hj
theorem qcr{n i j:Nat}{c:Int}(hj:j<n):Shp n (addU n i j c):=(zct n _).set hj
theorem qsb{n i j x s:Nat}{c:Int}(hij:i≠j)(hi:i<n)(hj:j<n)(hx:x<n)(hs:s<n):ent (addU n i j c) x s=(if x=s then 1 else 0)+(if s=i/\x=j then c else 0):=by
 unfold addU;rw[(zfo n).ent_set hj hi];by_cases h:x=j/\s=i
 ·have h1:¬x=s:=by omega
  have h2:s=i/\x=j:=⟨h.2,h.1⟩
  rw[if_pos h,if_neg h1,if_pos h2];omega
 ·have h2:¬(s=i/\x=j):=λe=>h ⟨e.2,e.1⟩
  rw[if_neg h,if_neg h2];rw[zpo hx hs];omega
theorem zud{n i j s:Nat}{c:Int}(hij:i≠j)(hi:i<n)(hj:j<n)(hs:s<n)(f:Nat->Int):sumR (λx=>f x*ent (addU n i j c) x s) n=f s+if s=i then c*f j else 0:=by
 have e:sumR (λx=>f x*ent (addU n i j c) x s) n=sumR (λx=>(if x=s then f s else 0)+(if x=j then(if s=i then c*f j else 0)else 0)) n:=by
  refine zae λx hx=>?_
  rw[qsb hij hi hj hx hs];by_cases h1:x=s
  ·by_cases h2:s=i
   ·have h3:x≠j:=by omega
    rw[if_pos h1,if_neg (by omega),if_pos h1,if_neg h3,h1];omega
   ·rw[if_pos h1,if_neg (by omega),if_pos h1,if_neg h2,h1];split<;>omega
  ·by_cases h2:x=j
   ·by_cases h3:s=i
    ·rw[if_neg h1,if_pos ⟨h3,h2⟩,if_neg h1,if_pos h2,if_pos h3,h2];grind
    ·rw[if_neg h1,if_neg (by omega),if_neg h1,if_pos h2,if_neg h3];omega
   ·rw[if_neg h1,if_neg (by omega),if_neg h1,if_neg h2];omega
 rw[e,sumR_add,sumR_one hs (λt _ hne=>if_neg hne),if_pos rfl,sumR_one hj (λt _ hne=>if_neg hne),if_pos rfl]
theorem qvc{n i j:Nat}{c:Int}{M:List (List Int)}(h:Shp n M)(hij:i≠j)(hi:i<n)(hj:j<n):rowF (cgM n M (addU n i j c))=addG (rowF M) i j c:=by
 funext s t
 show ent (cgM n M (addU n i j c)) s t=addG (rowF M) i j c s t
 by_cases hs:s<n
 ·by_cases ht:t<n
  ·unfold cgM mulM;rw[zco hs ht]
   have e:sumR (λk=>ent (mkM n λi_1 j_1=>sumR (λk=>ent (trM n (addU n i j c)) i_1 k*ent M k j_1) n) s k*ent (addU n i j c) k t) n=
     sumR (λk=>(ent M s k+if s=i then c*ent M j k else 0)*ent (addU n i j c) k t) n:=by
    refine zae λk hk=>?_
    rw[zco hs hk];congr 1
    have e2:sumR (λx=>ent (trM n (addU n i j c)) s x*ent M x k) n=sumR (λx=>ent M x k*ent (addU n i j c) x s) n:=by
     refine zae λx hx=>?_
     unfold trM;rw[zco hs hx,xQ]
    rw[e2,zud hij hi hj hs]
   rw[e,zud hij hi hj ht];unfold addG rowF;by_cases h1:s=i
   ·by_cases h2:t=i
    ·simp only[h1,h2,if_true,and_self];grind
    ·simp only[h1,h2,if_true,if_false,and_false,qN]
   ·by_cases h2:t=i
    ·simp only[h1,h2,if_true,if_false,false_and,qN]
    ·simp only[h1,h2,if_false,false_and,qN]
  ·rw[(qcq n _ _).out (.inr (by omega))];unfold addG rowF;have z:∀x,ent M x t=0:=λx=>h.out (.inr (by omega))
   rw[z,z,if_neg (show¬t=i by omega),if_neg (show¬(s=i/\t=i) by omega)];split<;>omega
 ·rw[(qcq n _ _).out (.inl (by omega))];unfold addG rowF;have z:∀x,ent M s x=0:=λx=>h.out (.inl (by omega))
  rw[z,z,if_neg (show¬s=i by omega),if_neg (show¬(s=i/\t=i) by omega)];split<;>omega
theorem jdg(p s:Nat):sw p (sw p s)=s:=by
 by_cases h1:s=p
 ·rw[h1,sw_p,sw_q]
 ·by_cases h2:s=p+1
  ·rw[h2,sw_q,sw_p]
  ·rw[qfw h1 h2,qfw h1 h2]
theorem jdh{p x s:Nat}:sw p x=s↔x=sw p s:=by
 constructor
 ·intro h;rw[<-h,jdg]
 ·intro h;rw[h,jdg]
theorem qzk{n p x s:Nat}(hp:p+1<n)(hx:x<n)(hs:s<n):ent (zdm (idM n) (p+1) p) x s=if x=sw p s then 1 else 0:=by
 rw[(zks (zfo n) hp (by omega)).2]
 show ent (idM n) (sw p x) s=_
 rw[zpo (qad hp hx) hs];by_cases h:sw p x=s
 ·rw[if_pos h,if_pos (jdh.1 h)]
 ·rw[if_neg h,if_neg (λe=>h (jdh.2 e))]
theorem qag{n p s:Nat}(hp:p+1<n)(hs:s<n)(f:Nat->Int):sumR (λx=>f x*ent (zdm (idM n) (p+1) p) x s) n=f (sw p s):=by
 have e:sumR (λx=>f x*ent (zdm (idM n) (p+1) p) x s) n=sumR (λx=>if x=sw p s then f (sw p s)else 0) n:=by
  refine zae λx hx=>?_
  rw[qzk hp hx hs];split
  ·rename_i e;rw[e];omega
  ·omega
 rw[e,sumR_one (qad hp hs) (λt _ hne=>if_neg hne),if_pos rfl]
theorem jdi{n p:Nat}{M:List (List Int)}(h:Shp n M)(hp:p+1<n):rowF (cgM n M (zdm (idM n) (p+1) p))=swG (rowF M) p:=by
 funext s t
 show ent (cgM n M (zdm (idM n) (p+1) p)) s t=ent M (sw p s) (sw p t)
 by_cases hs:s<n
 ·by_cases ht:t<n
  ·unfold cgM mulM;rw[zco hs ht]
   have e:sumR (λk=>ent (mkM n λi_1 j_1=>sumR (λk=>ent (trM n (zdm (idM n) (p+1) p)) i_1 k*ent M k j_1) n) s k*ent (zdm (idM n) (p+1) p) k t) n=sumR (λk=>ent M (sw p s) k*ent (zdm (idM n) (p+1) p) k t) n:=by
    refine zae λk hk=>?_
    rw[zco hs hk];congr 1
    have e2:sumR (λx=>ent (trM n (zdm (idM n) (p+1) p)) s x*ent M x k) n=sumR (λx=>ent M x k*ent (zdm (idM n) (p+1) p) x s) n:=by
     refine zae λx hx=>?_
     unfold trM;rw[zco hs hx,xQ]
    rw[e2,qag hp hs]
   rw[e,qag hp ht]
  ·have hne:sw p t=t:=qfw (by omega) (by omega);rw[(qcq n _ _).out (.inr (by omega)),hne,h.out (.inr (by omega))]
 ·have hne:sw p s=s:=qfw (by omega) (by omega);rw[(qcq n _ _).out (.inl (by omega)),hne,h.out (.inl (by omega))]
theorem mul_add{n i j x s:Nat}{c:Int}{T:List (List Int)}(hij:i≠j)(hi:i<n)(hj:j<n)(hx:x<n)(hs:s<n):ent (mulM n T (addU n i j c)) x s=ent T x s+if s=i then c*ent T x j else 0:=by
 unfold mulM;rw[zco hx hs,zud hij hi hj hs]
theorem qvd{n p x s:Nat}{T:List (List Int)}(hp:p+1<n)(hx:x<n)(hs:s<n):ent (mulM n T (zdm (idM n) (p+1) p)) x s=ent T x (sw p s):=by
 unfold mulM;rw[zco hx hs,qag hp hs]
def MuOK(n:Nat)(a:Nat->Row)(k:Nat):Prop:=(∀i j,CurA n a i j->zjq a n*100+(n-i)*10+j+1<=k)/\∀i,CurS n a i->zjq a n*100+(n-i)*10<=k
theorem qcs{n:Nat}{a:Nat->Row}(h8:n<=8):MuOK n a (zjq a n*100+99):=
 ⟨λi j c=>by have:=c.hi;have:=c.hj;omega,λi c=>by omega⟩
theorem jdj{n:Nat}{D K:Int}{a:Nat->Row}{i j:Nat}{c:Int}{k:Nat}(h:Pos n D a)(h8:n<=8)(hK:1<=K)(hKD:8*D<=K)(hc:CurA n a i j)(hg:Good n D K a)(hz:2*(stg a j i j+c*lead a (j+1))<=lead a (j+1)/\ -(2*(stg a j i j+c*lead a (j+1)))<=lead a (j+1))
  (hm:MuOK n a k):∃k',k'<k/\MuOK n (addG a i j c) k':=by
 obtain⟨_,_,_,g1,g2⟩:=qco h h8 hK hKD hc hg hz;have hi:=hc.hi;have hj:=hc.hj;have hp:zjq (addG a i j c) n=zjq a n:=prod_congr n (λt ht=>zku hj hi (h.ne (qV _)) ht);have:=hm.1 i j hc;refine⟨zjq a n*100+(n-i)*10+j,by omega,λi' j' c'=>?_,λi' c'=>?_⟩
 ·obtain⟨l1,l2⟩:=g1 i' j' c';have:=c'.hi;have:=c'.hj;rw[hp];by_cases e:i'=i
  ·have:=l2 e;subst e;omega
  ·omega
 ·have:=g2 i' c';rw[hp];omega
theorem jfm{n:Nat}{D K:Int}{a:Nat->Row}{i:Nat}{k:Nat}(h:Pos n D a)(h8:n<=8)(hK:1<=K)(hc:CurS n a i)(hg:Good n D K a)(hm:MuOK n a k):∃k',k'<k/\MuOK n (swG a (i-1)) k':=by
 obtain⟨gp,_,g1,g2⟩:=qae h hK hc hg;have hlt:=qzg (b:=swG a (i-1)) hc.h0 g2 (gp.pos i (by have:=hc.hi;omega)) n (by have:=hc.hi;omega) g1 h.pos;have:=hm.2 i hc;exact⟨zjq (swG a (i-1)) n*100+99,by omega,qcs h8⟩
def zgo(l d:Int):Int:=(2*l+d)/(2*d)
theorem qlq{l d:Int}(hd:0<d):2*(l+ -(zgo l d)*d)<=d/\ -(2*(l+ -(zgo l d)*d))<=d:=by
 unfold zgo;have h1:=Int.ediv_mul_le (2*l+d) (show 2*d≠0 by omega);have h2:=Int.lt_ediv_add_one_mul_self (2*l+d) (show 0<2*d by omega);generalize (2*l+d)/(2*d)=q at*;have e1:q*(2*d)=2*(q*d):=by grind
 have e2:(q+1)*(2*d)=2*(q*d)+2*d:=by grind
 have e3: -q*d= -(q*d):=by grind
 omega
structure LState(n:Nat)(D K:Int)(M0 M T:List (List Int)):Prop where
 shM:Shp n M
 shT:Shp n T
 pos:Pos n D (rowF M)
 good:Good n D K (rowF M)
 rel:∀s t,s<n->t<n->ent M s t=zpn (rowF M0) n (λx y=>ent T x y) s t
theorem qzl{n:Nat}(a:Nat->Row){s t:Nat}(hs:s<n)(ht:t<n):zpn a n (λx y=>ent (idM n) x y) s t=a s t:=by
 unfold zpn
 have e:sumR (λx=>sumR (λy=>a x y*ent (idM n) y t) n*ent (idM n) x s) n=sumR (λx=>if x=s then a s t else 0) n:=by
  refine zae λx hx=>?_
  have e2:sumR (λy=>a x y*ent (idM n) y t) n=a x t:=by
   have e3:sumR (λy=>a x y*ent (idM n) y t) n=sumR (λy=>if y=t then a x t else 0) n:=by
    refine zae λy hy=>?_
    rw[zpo hy ht];split
    ·rename_i e;rw[e];omega
    ·omega
   rw[e3,sumR_one ht (λz _ hne=>if_neg hne),if_pos rfl]
  rw[e2,zpo hx hs];split
  ·rename_i e;rw[e];omega
  ·omega
 rw[e,sumR_one hs (λz _ hne=>if_neg hne),if_pos rfl]
theorem zrr{n:Nat}(a:Nat->Row){T T':Nat->Nat->Int}{s t:Nat}(hs:∀x,x<n->T x s=T' x s)(ht:∀x,x<n->T x t=T' x t):zpn a n T s t=zpn a n T' s t:=by
 unfold zpn;refine zae λx hx=>?_
 rw[hs x hx];congr 1;exact zae λy hy=>by rw[ht y hy]
section
variable{n:Nat}{D K:Int}{M0 M T:List (List Int)}
theorem LState.start(h1:Shp n M0)(hp:Pos n D (rowF M0))(hK:1<=K)(ha:∀s,s<n->ent M0 s s<=K):LState n D K M0 M0 (idM n):=
 ⟨h1,zct n _,hp,zua hp hK ha,λs t hs ht=>(qzl (rowF M0) hs ht).symm⟩
theorem LState.add{i j:Nat}(h:LState n D K M0 M T)(h8:n<=8)(hK:1<=K)(hKD:8*D<=K)(hc:CurA n (rowF M) i j):
  LState n D K M0 (cgM n M (addU n i j (-(zgo (stg (rowF M) j i j) (lead (rowF M) (j+1)))))) (mulM n T (addU n i j (-(zgo (stg (rowF M) j i j) (lead (rowF M) (j+1))))))/\
   ∀k,MuOK n (rowF M) k->∃k',k'<k/\MuOK n (rowF (cgM n M (addU n i j (-(zgo (stg (rowF M) j i j) (lead (rowF M) (j+1))))))) k':=by
 have hi:=hc.hi;have hj:=hc.hj;have hz:=qlq (l:=stg (rowF M) j i j) (h.pos.pos (j+1) (by omega));generalize -(zgo (stg (rowF M) j i j) (lead (rowF M) (j+1)))=c at*;have e:=qvc (c:=c) h.shM (show i≠j by omega) hi (show j<n by omega);obtain⟨_,g1,g2,_,_⟩:=qco h.pos h8 hK hKD hc h.good hz;refine⟨⟨zct n _,zct n _,by rw[e];exact g1,by rw[e];exact g2,λs t hs ht=>?_⟩,λk hk=>by rw[e];exact jdj h.pos h8 hK hKD hc h.good hz hk⟩;have e2:ent (cgM n M (addU n i j c)) s t=addG (rowF M) i j c s t:=congrFun (congrFun e s) t;rw[e2,zrr (rowF M0) (T':=λx s=>ent T x s+if s=i then c*ent T x j else 0) (λx hx=>mul_add (show i≠j by omega) hi (by omega) hx hs) (λx hx=>mul_add (show i≠j by omega) hi (by omega) hx ht)];rw[qlp (a:=rowF M0) (n:=n) (λx s=>ent T x s) i j c];unfold addG;have r:=h.rel;rw[<-r s t hs ht,<-r j t (by omega) ht,<-r s j hs (by omega),<-r j j (by omega) (by omega)];rfl
theorem LState.sw{p:Nat}(h:LState n D K M0 M T)(h8:n<=8)(hK:1<=K)(hc:CurS n (rowF M) (p+1)):LState n D K M0 (cgM n M (zdm (idM n) (p+1) p)) (mulM n T (zdm (idM n) (p+1) p))/\
   ∀k,MuOK n (rowF M) k->∃k',k'<k/\MuOK n (rowF (cgM n M (zdm (idM n) (p+1) p))) k':=by
 have hi:=hc.hi;have e:=jdi h.shM hi;obtain⟨g1,g2,_,_⟩:=qae h.pos hK hc h.good;simp only[xW]at g1 g2
 refine⟨⟨zct n _,zct n _,by rw[e];exact g1,by rw[e];exact g2,λs t hs ht=>?_⟩,λk hk=>by
  rw[e];have:=jfm h.pos h8 hK hc h.good hk;simpa using this⟩
 have e2:ent (cgM n M (zdm (idM n) (p+1) p)) s t=ent M (Det.sw p s) (Det.sw p t):=congrFun (congrFun e s) t;rw[e2,zrr (rowF M0) (T':=λx s=>ent T x (Det.sw p s)) (λx hx=>qvd hi hx hs) (λx hx=>qvd hi hx ht),h.rel _ _ (qad hi hs) (qad hi ht)];rfl
theorem LState.bound(h:LState n D K M0 M T)(h8:n<=8)(hK:1<=K)(hp:Pos n D (rowF M0))(ha:∀s,s<n->ent M0 s s<=K)(hcase:(∃i j,CurA n (rowF M) i j)\/(∃i,CurS n (rowF M) i)\/∀i,i<n->OKr (rowF M) i):
  (∀s t,s<n->t<n->ent M s t<=bigK D K/\ -(bigK D K)<=ent M s t)/\∀s t,s<n->t<n->ent T s t<=vecB D K (bigK D K) 7/\ -(vecB D K (bigK D K) 7)<=ent T s t:=by
 have hn:=λs hs=>qlk (s:=s) h.pos h8 hK h.good hcase hs
 refine⟨λs t hs ht=>h.pos.bound hn hs ht,λs t hs ht=>?_⟩;refine qzj hp h8 hK ha (λx=>ent T x t) ?_ hs;rw[<-qfy (a:=rowF M0) (n:=n) (λx y=>ent T x y) t,<-h.rel t t ht ht];exact hn t ht
end
def numR(n d:Int):Int:=n/(Int.gcd n d:Int)
def denR(n d:Int):Int:=d/(Int.gcd n d:Int)
theorem zpp{n d:Int}(hd:0<d):0<(Int.gcd n d:Int):=by
 have:=Int.gcd_pos_of_ne_zero_right n (show d≠0 by omega);omega
theorem qlr(n d:Int):numR n d*(Int.gcd n d:Int)=n:=xN (yZ ..)
theorem qah(n d:Int):denR n d*(Int.gcd n d:Int)=d:=xN (xS ..)
theorem zpq{n d:Int}(hd:0<d):0<denR n d:=by
 have h1:=zpp (n:=n) hd;have h2:=qah n d;rcases Int.lt_or_le 0 (denR n d)with h | h
 ·exact h
 ·have:=qK h (show(0:Int)<=(Int.gcd n d:Int) by omega);omega
theorem qve(n d:Int):(numR n d).natAbs<=n.natAbs:=xJ _ _
theorem qvf(n d:Int):(denR n d).natAbs<=d.natAbs:=xJ _ _
theorem qls{n d:Int}(hd:0<d):Int.gcd (numR n d) (denR n d)=1:=by
 have h1:=zpp (n:=n) hd;exact Int.gcd_ediv_gcd_ediv_gcd (by omega)
theorem qlt{n d:Int}(hd:0<d):numR n d/denR n d=n/d:=by
 have h1:=zpp (n:=n) hd;have e1:=qlr n d;have e2:=qah n d;have e3:(numR n d*(Int.gcd n d:Int))/(denR n d*(Int.gcd n d:Int))=numR n d/denR n d:=xA _ _ h1;rw[e1,e2]at e3;exact e3.symm
theorem qsc{l d:Int}(hd:0<d):(numR l d*2+1*denR l d)/(denR l d*2)=zgo l d:=by
 unfold zgo;have h1:=zpp (n:=l) hd;have e1:=qlr l d;have e2:=qah l d;have e3:((numR l d*2+1*denR l d)*(Int.gcd l d:Int))/((denR l d*2)*(Int.gcd l d:Int))=(numR l d*2+1*denR l d)/(denR l d*2):=xA _ _ h1;rw[<-e3];congr 1
 ·rw[Int.add_mul,Int.one_mul,e2,xU,xQ 2,<-xU,e1];omega
 ·rw[xU,xQ 2,<-xU,e2];omega
end Go.Proofs.YtpflahgcdgdkjaaGreatDoor
namespace Go.Proofs.YtpflahgcdgdkjaaGreatDoor
open Int renaming mul_pos -> xV, sign_eq_one_of_pos -> xY, gcd_dvd_natAbs_right -> xE, gcd_dvd_right -> xS, gcd_dvd_left -> yZ
open Nat renaming reduceEqDiff -> qX, reduceLeDiff -> qJ, reduceAdd -> qW
open List renaming getElem?_cons_zero -> qS, getElem?_cons_succ -> qT
open Go Go.AL Go.Proofs Go.Limb
def zbb(n d:Int)(v:AV):Prop:= ∃a1 a2 b1 b2,v= .agg [a1,a2,b1,b2]/\zag n (.agg [a1,a2])/\zag d (.agg [b1,b2])
theorem qNew{n d:Int}{a b:AV}(ha:zag n a)(hb:zag d b)(hd:0<d):∃v,zbb (numR n d) (denR n d) v/\Rt 86 [a,b] [] (.tup [v,.bool true]) []:=by
 have t1:=zwb hb;have s1:d.sign=1:=xY hd;rw[s1]at t1;have t2:=zGcd ha hb;have hg:=zpp (n:=n) hd
 have hgf:((Int.gcd n d:Nat):Int).natAbs<BIG:=by
  have h1:Int.gcd n d<=d.natAbs:=Nat.le_of_dvd (by omega) (xE n d);have:=hb.fits;omega
 have hgi:=zbk hgf;obtain⟨v1,hv1,t3⟩:=qys ha hgi (by omega);obtain⟨v2,hv2,t4⟩:=qys hb hgi (by omega);obtain⟨lg,cg,_,_,_,heg⟩:=hgi;rw[heg]at t2 t3 t4;obtain⟨l,ca,_,_,_,rfl⟩:=ha;obtain⟨m,cb,_,_,_,rfl⟩:=hb;obtain⟨l1,c1,_,_,_,he1⟩:=id hv1;obtain⟨l2,c2,_,_,_,he2⟩:=id hv2;subst he1 he2;refine⟨_,⟨_,_,_,_,rfl,hv1,hv2⟩,?_⟩;refine oF o86 ?_;simp only[c86,r86_0,r86_1,SS,reduceCtorEq,reduceIte,qW,qX,qJ];refine zaa t1 ?_;simp only[SS,reduceIte,qX];refine⟨λh=>absurd h (by decide),λ_=>?_⟩;simp only[r86_3,SS,reduceIte,qW,qX,qJ];refine zaa t1 ?_;simp only[SS,reduceIte,qX];refine⟨λh=>absurd h (by decide),λ_=>?_⟩;simp only[r86_5,SS,reduceIte,qW,qX,qJ];refine zaa t2 ?_;simp only[SS,reduceIte,qW,qX,qJ];simp only[r86_6,SS,reduceIte,qW,qX,qJ];refine zaa t3 ?_;simp only[SS,reduceIte,qW,qX,qJ];refine zaa t4 ?_;simp only[SS,reduceIte,qW,qX,qJ];refine⟨rfl,?_⟩;exact dR
theorem zdh{n d:Int}{v:AV}(h:zbb n d v)(hd:0<d):∃w,zbb (numR n d) (denR n d) w/\Rt 168 [v] [] w []:=by
 obtain⟨a1,a2,b1,b2,rfl,h1,h2⟩:=h;obtain⟨w,hw,t1⟩:=qNew h1 h2 hd;obtain⟨l1,c1,e1,e2⟩:=zam h1;obtain⟨l2,c2,e3,e4⟩:=zam h2;subst e1 e2 e3 e4;obtain⟨w1,w2,w3,w4,rfl,k1,k2⟩:=id hw;obtain⟨m1,d1,f1,f2⟩:=zam k1;obtain⟨m2,d2,f3,f4⟩:=zam k2;subst f1 f2 f3 f4;refine⟨_,hw,?_⟩;refine oF o168 ?_;simp only[c168,r168_0,r168_1,SS,reduceCtorEq,reduceIte,qW,qX,qJ];refine zaa t1 ?_;simp only[SS,reduceIte,qW,qX,qJ,qS,qT];simp only[r168_2,SS,fC,reduceIte,qX];simp only[r168_4,SS,reduceIte,qW,qX,qJ];exact dR
theorem qlu{n d:Int}{a b:AV}(ha:zag n a)(hb:zag d b)(hd:0<d):∃v,zbb (numR n d) (denR n d) v/\Rt 128 [a,b] [] v []:=by
 obtain⟨l,ca,q1,q2,q3,rfl⟩:=ha;obtain⟨m,cb,q4,q5,q6,rfl⟩:=hb;obtain⟨w,hw,t1⟩:=zdh (v:= .agg [.bool (decide (n<0)),.vec (u32s l) l.length ca,.bool (decide (d<0)),.vec (u32s m) m.length cb]) ⟨_,_,_,_,rfl,⟨l,ca,q1,q2,q3,rfl⟩,⟨m,cb,q4,q5,q6,rfl⟩⟩ hd;obtain⟨w1,w2,w3,w4,rfl,k1,k2⟩:=id hw;obtain⟨m1,d1,f1,f2⟩:=zam k1;obtain⟨m2,d2,f3,f4⟩:=zam k2;subst f1 f2 f3 f4;refine⟨_,hw,?_⟩;refine oF o128 ?_;simp only[c128,r128_0,r128_1,SS,reduceCtorEq,reduceIte,qW,qX,qJ];refine zaa t1 ?_;simp only[SS,reduceIte,qW,qX,qJ];exact dR
theorem jfn:∃v,zbb 1 2 v/\Rt 189 [] [] v []:=by
 obtain⟨v1,hv1,t1⟩:=zfb 1 (by omega) (by omega);obtain⟨v2,hv2,t2⟩:=zfb 2 (by omega) (by omega);obtain⟨l1,c1,_,_,_,he1⟩:=id hv1;obtain⟨l2,c2,_,_,_,he2⟩:=id hv2;subst he1 he2;refine⟨_,⟨_,_,_,_,rfl,hv1,hv2⟩,?_⟩;refine oF o189 ?_;simp only[c189,r189_0,r189_1,SS,reduceCtorEq];refine zaa t1 ?_;simp only[SS];refine zaa t2 ?_;simp only[SS,reduceCtorEq,reduceIte,qW,qX,qJ];exact dR
theorem zhd{n d:Int}(h:Int.gcd n d=1):numR n d=n:=by unfold numR;rw[h];exact Int.ediv_one _
theorem zhe{n d:Int}(h:Int.gcd n d=1):denR n d=d:=by unfold denR;rw[h];exact Int.ediv_one _
theorem qAdd{n d m e:Int}{v h:AV}(hv:zbb n d v)(hh:zbb m e h)(hd:0<d)(he:0<e)(c1:Int.gcd n d=1)(c2:Int.gcd m e=1)(f1:(n*e).natAbs<BIG)(f2:(m*d).natAbs<BIG)(f3:(n*e+m*d).natAbs<BIG)(f4:(d*e).natAbs<BIG):
  ∃w,zbb (numR (n*e+m*d) (d*e)) (denR (n*e+m*d) (d*e)) w/\Rt 165 [v,h] [] w []:=by
 obtain⟨x,hx,t1⟩:=zdh hv hd;rw[zhd c1,zhe c1]at hx;obtain⟨y,hy,t2⟩:=zdh hh he;rw[zhd c2,zhe c2]at hy;obtain⟨a1,a2,a3,a4,rfl,p1,p2⟩:=hv;obtain⟨b1,b2,b3,b4,rfl,p3,p4⟩:=hh;obtain⟨x1,x2,x3,x4,rfl,k1,k2⟩:=hx;obtain⟨y1,y2,y3,y4,rfl,k3,k4⟩:=hy;obtain⟨m1,hm1,t3⟩:=zMul k1 k4 f1;obtain⟨m2,hm2,t4⟩:=zMul k3 k2 f2;obtain⟨s,hs,t5⟩:=zAdd hm1 hm2 f3;obtain⟨m3,hm3,t6⟩:=zMul k2 k4 f4;obtain⟨w,hw,t7⟩:=qNew hs hm3 (xV hd he);obtain⟨_,_,e1,e2⟩:=zam p1;obtain⟨_,_,e3,e4⟩:=zam p2;obtain⟨_,_,e5,e6⟩:=zam p3;obtain⟨_,_,e7,e8⟩:=zam p4;subst e1 e2 e3 e4 e5 e6 e7 e8;obtain⟨_,_,e1,e2⟩:=zam k1;obtain⟨_,_,e3,e4⟩:=zam k2;obtain⟨_,_,e5,e6⟩:=zam k3;obtain⟨_,_,e7,e8⟩:=zam k4;subst e1 e2 e3 e4 e5 e6 e7 e8;obtain⟨_,_,_,_,_,rfl⟩:=id hm1;obtain⟨_,_,_,_,_,rfl⟩:=id hm2;obtain⟨_,_,_,_,_,rfl⟩:=id hm3;obtain⟨_,_,_,_,_,rfl⟩:=id hs;obtain⟨w1,w2,w3,w4,rfl,j1,j2⟩:=id hw;obtain⟨_,_,e1,e2⟩:=zam j1;obtain⟨_,_,e3,e4⟩:=zam j2;subst e1 e2 e3 e4;refine⟨_,hw,?_⟩;refine oF o165 ?_;simp only[c165,r165_0,r165_1,SS,reduceCtorEq,reduceIte,qW,qX,qJ];refine zaa t1 ?_;simp only[SS,reduceIte,qW,qX,qJ];refine zaa t2 ?_;simp only[SS,reduceIte,qW,qX,qJ];refine⟨rfl,?_⟩;simp only[r165_2,SS,reduceIte,qW,qX,qJ];refine zaa t3 ?_;simp only[SS,reduceIte,qW,qX,qJ];refine zaa t4 ?_;simp only[SS,reduceIte,qX];refine zaa t5 ?_;simp only[SS,reduceIte,qW,qX,qJ];refine zaa t6 ?_;simp only[SS,reduceIte,qX];refine zaa t7 ?_;simp only[SS,reduceIte,qW,qX,qJ,qS,qT];refine⟨rfl,?_⟩;simp only[r165_3,SS,reduceIte,qW,qX,qJ];exact dR
theorem qsd{l d:Int}{v h:AV}(hv:zbb (numR l d) (denR l d) v)(hh:zbb 1 2 h)(hd:0<d)(hf:2*(l.natAbs+d.natAbs)<BIG):
  ∃w,zbb (numR (numR l d*2+1*denR l d) (denR l d*2)) (denR (numR l d*2+1*denR l d) (denR l d*2)) w/\Rt 165 [v,h] [] w []:=by
 have hnl:=qve l d;have hdl:=qvf l d;exact qAdd hv hh (zpq hd) (by decide) (qls hd) rfl (by omega) (by omega) (by omega) (by omega)
theorem jdk{n d:Int}{v:AV}(h:zbb n d v)(hd:0<d):∃w,zag (n/d) w/\Rt 188 [v] [] w []:=by
 obtain⟨x,hx,t1⟩:=zdh h hd;have hdp:=zpq (n:=n) hd;obtain⟨a1,a2,a3,a4,rfl,p1,p2⟩:=h;obtain⟨x1,x2,x3,x4,rfl,k1,k2⟩:=hx;obtain⟨w,hw,t2⟩:=qys k1 k2 (by omega);rw[qlt hd]at hw;obtain⟨_,_,e1,e2⟩:=zam p1;obtain⟨_,_,e3,e4⟩:=zam p2;subst e1 e2 e3 e4;obtain⟨_,_,e1,e2⟩:=zam k1;obtain⟨_,_,e3,e4⟩:=zam k2;subst e1 e2 e3 e4;obtain⟨_,_,_,_,_,rfl⟩:=id hw;refine⟨_,hw,?_⟩;refine oF o188 ?_;simp only[c188,r188_0,r188_1,SS,reduceCtorEq,reduceIte,qW,qX,qJ];refine zaa t1 ?_;simp only[SS,reduceIte,qW,qX,qJ];simp only[r188_2,SS,reduceIte,qW,qX,qJ];refine zaa t2 ?_;simp only[SS,reduceIte,qW,qX,qJ];exact dR
theorem qse{l d:Int}{v:AV}(hv:zbb (numR l d) (denR l d) v)(hd:0<d)(hf:2*(l.natAbs+d.natAbs)<BIG):∃w,zag (zgo l d) w/\Rt 127 [v] [] w []:=by
 obtain⟨h,hh,t1⟩:=jfn;obtain⟨s,hs,t2⟩:=qsd hv hh hd hf;have hdp:=zpq (n:=l) hd;have hd2:0<denR l d*2:=by omega
 obtain⟨w,hw,t3⟩:=jdk hs (zpq hd2);rw[qlt hd2,qsc hd]at hw;obtain⟨a1,a2,a3,a4,rfl,p1,p2⟩:=hv;obtain⟨b1,b2,b3,b4,rfl,p3,p4⟩:=hh;obtain⟨s1,s2,s3,s4,rfl,p5,p6⟩:=hs;obtain⟨_,_,e1,e2⟩:=zam p1;obtain⟨_,_,e3,e4⟩:=zam p2;obtain⟨_,_,e5,e6⟩:=zam p3;obtain⟨_,_,e7,e8⟩:=zam p4;subst e1 e2 e3 e4 e5 e6 e7 e8;obtain⟨_,_,e1,e2⟩:=zam p5;obtain⟨_,_,e3,e4⟩:=zam p6;subst e1 e2 e3 e4;obtain⟨_,_,_,_,_,rfl⟩:=id hw;refine⟨_,hw,?_⟩;refine oF o127 ?_;simp only[c127,r127_0,r127_1,SS,reduceCtorEq,reduceIte,qW,qX,qJ];refine zaa t1 ?_;simp only[SS,reduceIte,qX];refine zaa t2 ?_;simp only[SS,reduceIte,qX];refine zaa t3 ?_;simp only[SS,reduceIte,qW,qX,qJ];refine⟨rfl,?_⟩;exact dR
structure Low(n d:Int):Prop where
 pos:0<d
 n64:n.natAbs<18446744073709551616
 d64:d.natAbs<18446744073709551616
 cop:Int.gcd n d=1
theorem Low.num{n d:Int}(h:Low n d):numR n d=n:=by unfold numR;rw[h.cop];simp
theorem Low.den{n d:Int}(h:Low n d):denR n d=d:=by unfold denR;rw[h.cop];simp
theorem zbb.shape{n d:Int}{v:AV}(h:zbb n d v):∃l1 c1 l2 c2,v= .agg [.bool (decide (n<0)),.vec (u32s l1) l1.length c1,.bool (decide (d<0)),.vec (u32s l2) l2.length c2]/\
  zag n (.agg [.bool (decide (n<0)),.vec (u32s l1) l1.length c1])/\zag d (.agg [.bool (decide (d<0)),.vec (u32s l2) l2.length c2]):=by
 obtain⟨a1,a2,b1,b2,rfl,h1,h2⟩:=h;obtain⟨l1,c1,rfl,rfl⟩:=zam h1;obtain⟨l2,c2,rfl,rfl⟩:=zam h2;exact⟨l1,c1,l2,c2,rfl,h1,h2⟩
theorem zfx{n d:Int}{a1 a2 b1 b2:AV}(h1:zag n (.agg [a1,a2]))(h2:zag d (.agg [b1,b2])):zbb n d (.agg [a1,a2,b1,b2]):=⟨_,_,_,_,rfl,h1,h2⟩
theorem zkv{n d:Int}{a b:AV}(ha:zag n a)(hb:zag d b)(hd:0<d)(hn:n.natAbs<18446744073709551616)(hd':d.natAbs<18446744073709551616):∃v,zbb (numR n d) (denR n d) v/\Rt 83 [a,b] [] v []:=by
 obtain⟨vg,ig,t1⟩:=iGcd ha hb hn hd'
 have hg:(Int.gcd n d:Int)≠0:=λe=>by
  have:Int.gcd n d=0:=by omega
  have:=Int.gcd_eq_zero_iff.1 this;omega
 have hgd:(Int.gcd n d:Int).natAbs<18446744073709551616:=by
  have h1:Int.gcd n d<=d.natAbs:=Nat.le_of_dvd (by omega) (xE n d);omega
 obtain⟨v1,w1,i1,j1,t3⟩:=ztt ha ig hn hgd hg (.inr (yZ n d));obtain⟨v2,w2,i2,j2,t4⟩:=ztt hb ig hd' hgd hg (.inr (xS n d));have t2:=zwd hb;rw[xY hd]at t2;obtain⟨la,ca,rfl⟩:=ha.shape;obtain⟨lb,cb,rfl⟩:=hb.shape;obtain⟨lg,cg,rfl⟩:=ig.shape;obtain⟨l1,c1,rfl⟩:=i1.shape;obtain⟨l2,c2,rfl⟩:=i2.shape;obtain⟨m1,e1,rfl⟩:=j1.shape;obtain⟨m2,e2,rfl⟩:=j2.shape;refine⟨_,zfx i1 i2,?_⟩;refine oF o83 ?_;simp only[c83,r83_0,SS,reduceCtorEq,reduceIte,qW,qX];simp only[r83_1,SS,reduceIte,qW,qX,qJ];refine zaa t1 ?_;simp only[SS,reduceIte,qW,qX,qJ];simp only[r83_2,SS,reduceIte,qW,qX,qJ];refine zaa t2 ?_;simp only[SS,fC,reduceIte,qX,decide_false,Int.reduceLT];simp only[r83_4,SS,reduceIte,qW,qX,qJ];refine zaa t3 ?_;simp only[SS,reduceIte,qW,qX,qJ,qS,qT];simp only[r83_5,SS,reduceIte,qW,qX,qJ];refine zaa t4 ?_;simp only[SS,reduceIte,qW,qX,qJ,qS,qT];simp only[r83_6,SS,reduceIte,qW,qX,qJ];exact dR
theorem zdd{n d:Int}{v:AV}(h:zbb n d v)(lo:Low n d):∃w,zbb n d w/\Rt 50 [v] [] w []:=by
 obtain⟨l1,c1,l2,c2,rfl,i1,i2⟩:=h.shape;obtain⟨w,iw,t1⟩:=zkv i1 i2 lo.pos lo.n64 lo.d64;rw[lo.num,lo.den]at iw;have t2:=zwd i2;rw[xY lo.pos]at t2;obtain⟨k1,e1,k2,e2,rfl,_,_⟩:=iw.shape;refine⟨_,iw,?_⟩
 have tN:Rt 106 [.agg [.bool (decide (n<0)),.vec (u32s l1) l1.length c1,.bool (decide (d<0)),.vec (u32s l2) l2.length c2]] [] (.agg [.bool (decide (n<0)),.vec (u32s k1) k1.length e1,.bool (decide (d<0)),.vec (u32s k2) k2.length e2]) []:=by
  refine oF o106 ?_;simp only[c106,r106_0,SS,reduceCtorEq];simp only[r106_1,SS,reduceIte,qW,qX,qJ];refine zaa t2 ?_;simp only[SS,fC,reduceIte,qX,decide_false,Int.reduceEq];simp only[r106_3,SS,reduceIte,qW,qX,qJ];refine zaa t1 ?_;simp only[SS,reduceIte,qW,qX,qJ];exact dR
 refine oF o50 ?_;simp only[c50,r50_0,SS,reduceCtorEq];simp only[r50_1,SS,reduceIte,qW,qX,qJ];refine zaa tN ?_;simp only[SS,reduceIte,qW,qX,qJ];exact dR
theorem qsf{n d:Int}{v:AV}(h:zbb n d v):Rt 49 [v] [] (.int .i64 n.sign) []:=by
 obtain⟨l1,c1,l2,c2,rfl,i1,i2⟩:=h.shape;refine oF o49 ?_;simp only[c49,r49_0,SS,reduceCtorEq];simp only[r49_1,SS,reduceIte,qW,qX,qJ];refine zaa (zwd i1) ?_;simp only[SS,reduceIte,qX];exact⟨.inl trivial,_,rfl,.freeze 1 _ _ _ rfl (by intro i cs h;omega)⟩
theorem qzm{x:Int}{a:AV}(ha:zag x a):∃v,zbb x 1 v/\Rt 84 [a] [] v []:=by
 obtain⟨v1,i1,t1⟩:=zlx ha;obtain⟨v2,i2,t2⟩:=zrf 1 (by decide) (by decide);obtain⟨l,c,rfl⟩:=ha.shape;obtain⟨l1,c1,rfl⟩:=i1.shape;obtain⟨l2,c2,rfl⟩:=i2.shape;refine⟨_,zfx i1 i2,?_⟩;refine oF o84 ?_;simp only[c84,r84_0,SS,reduceCtorEq];simp only[r84_1,SS,reduceIte,qW,qX,qJ];refine zaa t1 ?_;simp only[SS];refine zaa t2 ?_;simp only[SS,reduceIte,qW,qX,qJ];exact dR
theorem zpr(x:Int)(h1: -9223372036854775808<=x)(h2:x<9223372036854775808):∃v,zbb x 1 v/\Rt 37 [.int .i64 x] [] v []:=by
 obtain⟨v1,i1,t1⟩:=zrf x h1 h2;obtain⟨v,iv,t2⟩:=qzm i1;obtain⟨l1,c1,rfl⟩:=i1.shape;obtain⟨k1,e1,k2,e2,rfl,_,_⟩:=iv.shape;refine⟨_,iv,?_⟩;refine oF o37 ?_;simp only[c37,r37_0,SS,reduceCtorEq];simp only[r37_1,SS,reduceCtorEq,reduceIte,qX];refine zaa t1 ?_;simp only[SS,reduceIte,qX];refine zaa t2 ?_;simp only[SS,reduceIte,qW,qX,qJ];exact dR
