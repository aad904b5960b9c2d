/- A part of the proof. -/
import Derived.Test.YtbjdfanphdfkdaaGreatDoorPA
set_option linter.all false
set_option maxRecDepth 1000000
open Int renaming mul_le_mul_of_nonneg_left -> qX, mul_le_mul_of_nonneg_right -> qJ, mul_nonneg -> qV, eq_of_mul_eq_mul_left -> qY, le_of_mul_le_mul_left -> qA, add_zero -> qL, le_refl -> qS, pow_succ -> qT, mul_nonneg_of_nonpos_of_nonpos -> xJ, mul_pos -> xK, mul_comm -> xW, le_trans -> xY, pow_zero -> xI, one_mul -> xT
open List renaming getD_eq_getElem?_getD -> qZ, getElem?_eq_getElem -> qB, nil_append -> qD, append_assoc -> qG, cons_append -> qH, getElem?_append_right -> qI, range_succ -> qM, length_append -> qO, getElem?_append_left -> qP, getElem?_eq_none -> xX, length_cons -> xB, length_singleton -> xD, mem_range -> xE, getElem?_map -> xH, all_eq_true -> xL, ext_getElem -> xP, length_set -> yQ
open Nat renaming le_refl -> qK, lt_or_ge -> qW, mul_le_mul_left -> qN, add_sub_cancel -> xQ, le_trans -> xZ, pow_le_pow_left -> xV, lt_of_le_of_lt -> xU, mul_le_mul -> xA, sub_self -> xC, lt_irrefl -> xG, lt_of_not_le -> xM, le_of_not_lt -> xO, mul_pow -> xS
open Option renaming bind_eq_some_iff -> qU, bind_some -> qC
open Option.some renaming injEq -> qE
namespace Go.Proofs.YtbjdfanphdfkdaaGreatDoor
open Go Go.AL
def ck(B:Nat)(z:Int):Option Int:=if z.natAbs<B then some z else none
def ent(M:List (List Int))(i j:Nat):Int:=(M.getD i []).getD j 0
def setM(M:List (List Int))(i j:Nat)(z:Int):List (List Int):=M.set i ((M.getD i []).set j z)
def newE(B:Nat)(M:List (List Int))(k i j:Nat)(last:Int):Option Int:=
 if last=0 then none else(ck B last).bind λ_=>(ck B (ent M k k*ent M i j)).bind λp=>(ck B (ent M i k*ent M k j)).bind λq=>(ck B (p-q)).bind λs=>ck B (s/last)
def elJ(B k i:Nat)(last:Int):Nat->Nat->List (List Int)->Option (List (List Int))
 |0,_,M=>some M
 |m+1,j,M=>(newE B M k i j last).bind λz=>elJ B k i last m (j+1) (setM M i j z)
def elI(B n k:Nat)(last:Int):Nat->Nat->List (List Int)->Option (List (List Int))
 |0,_,M=>some M
 |m+1,i,M=>(elJ B k i last (n-(k+1)) (k+1) M).bind λM'=>elI B n k last m (i+1) M'
def piv(M:List (List Int))(k:Nat):Nat->Nat->Nat
 |0,p=>p
 |m+1,p=>if ent M p k=0 then piv M k m (p+1)else p
def zdb(M:List (List Int))(p k:Nat):List (List Int):=(M.set p (M.getD k [])).set k (M.getD p [])
def detG(B n:Nat):Nat->Nat->List (List Int)->Int->Bool->Option Int
 |0,_,_,last,neg=>some (if neg then -last else last)
 |m+1,k,M,last,neg=>if piv M k (n-k) k=n then some 0 else
  (elI B n k last (n-(k+1)) (k+1) (if k<piv M k (n-k) k then zdb M (piv M k (n-k) k) k else M)).bind λM2=>detG B n m (k+1) M2 (ent M2 k k) (if k<piv M k (n-k) k then !neg else neg)
def detO(B:Nat)(M:List (List Int)):Option Int:=detG B M.length M.length 0 M 1 false
theorem zcm{B:Nat}{z y:Int}(h:ck B z=some y):y=z/\z.natAbs<B:=by
 unfold ck at h;split at h
 ·simp at h;exact⟨h.symm,by assumption⟩
 ·simp at h
theorem zxg{B:Nat}{M:List (List Int)}{k i j:Nat}{last z:Int}(h:newE B M k i j last=some z):last≠0/\last.natAbs<B/\(ent M k k*ent M i j).natAbs<B/\(ent M i k*ent M k j).natAbs<B/\(ent M k k*ent M i j-ent M i k*ent M k j).natAbs<B/\
  z=(ent M k k*ent M i j-ent M i k*ent M k j)/last/\z.natAbs<B:=by
 unfold newE at h;split at h
 ·simp at h
 ·rename_i h0;simp only[qU]at h;obtain⟨l,h1,p,h2,q,h3,s,h4,h5⟩:=h;obtain⟨_,k1⟩:=zcm h1;obtain⟨rfl,k2⟩:=zcm h2;obtain⟨rfl,k3⟩:=zcm h3;obtain⟨rfl,k4⟩:=zcm h4;obtain⟨rfl,k5⟩:=zcm h5;exact⟨h0,k1,k2,k3,k4,rfl,k5⟩
theorem zcq(M:List (List Int))(i j:Nat)(z:Int):(setM M i j z).length=M.length:=by simp[setM]
theorem jwp{M:List (List Int)}{k:Nat}:∀{m p:Nat},p<=piv M k m p/\piv M k m p<=p+m:=by
 intro m
 induction m with
 |zero=>intro p;simp[piv]
 |succ m ih=>
  intro p;simp only[piv];split
  ·have:=ih (p:=p+1);omega
  ·omega
theorem xzb{M:List (List Int)}{k:Nat}:∀{m p:Nat},piv M k m p<p+m->ent M (piv M k m p) k≠0:=by
 intro m
 induction m with
 |zero=>intro p h;simp only[piv]at h;omega
 |succ m ih=>
  intro p h;simp only[piv]at h ⊢;split
  ·rename_i h0;rw[if_pos h0]at h;exact ih (by omega)
  ·assumption
def selR(M:List (List Int))(i:Nat)(cs:List Nat):List Int:=cs.map λj=>ent M i j
def selM(M:List (List Int))(rs cs:List Nat):List (List Int):=rs.map λi=>selR M i cs
def minK(M:List (List Int))(k:Nat):List (List Int):=selM M (List.range k++[k]) (List.range k++[k])
def zeg(B:Nat)(M:List (List Int)):Nat->Option (List Int)
 |0=>some []
 |k+1=>(zeg B M k).bind λl=>(detO B (minK M k)).bind λd=>(ck B d).bind λd=>some (l++[d])
def zqk(B:Nat)(M:List (List Int)):Option (List Int):=zeg B M M.length
theorem zea{B:Nat}{M:List (List Int)}:∀{k:Nat} {l:List Int},zeg B M k=some l->l.length=k:=by
 intro k
 induction k with
 |zero=>intro l h;simp only[zeg,qE]at h;rw[<-h];rfl
 |succ k ih=>
  intro l h;simp only[zeg,qU,qE]at h;obtain⟨l0,h1,d,_,d',_,rfl⟩:=h;simp[ih h1]
theorem zql{B:Nat}{M:List (List Int)}:∀{k m:Nat} {l:List Int},zeg B M (k+m)=some l->zeg B M k=some (l.take k):=by
 intro k m
 induction m with
 |zero=>intro l h;have:=zea h;rw[List.take_of_length_le (by omega)];exact h
 |succ m ih=>
  intro l h;have h':zeg B M ((k+m)+1)=some l:=h;simp only[zeg,qU,qE]at h';obtain⟨l0,h1,d,_,d',_,rfl⟩:=h';rw[ih h1,List.take_append_of_le_length (by rw[zea h1];omega)]
def symB(M:List (List Int)):Bool:=(List.range M.length).all λi=>(List.range i).all λj=>decide (ent M i j=ent M j i)
theorem zqm{M:List (List Int)}:symB M=true↔∀i,i<M.length->∀j,j<i->ent M i j=ent M j i:=by
 unfold symB;simp only[xL,xE,decide_eq_true_eq]
def defB(M:List (List Int))(ds:List Int):Bool:=symB M && ds.all λd=>decide (0<d)
theorem zsg{B:Nat}{M:List (List Int)}:∀{k:Nat} {l:List Int},zeg B M k=some l->∀z∈l,z.natAbs<B:=by
 intro k
 induction k with
 |zero=>intro l h;simp only[zeg,qE]at h;rw[<-h];simp
 |succ k ih=>
  intro l h z hz;simp only[zeg,qU,qE]at h;obtain⟨l0,h1,d,_,d',hck,rfl⟩:=h;rcases List.mem_append.1 hz with e | e
  ·exact ih h1 z e
  ·simp at e;have:=(zcm hck)
   rw[e,this.1];exact this.2
def valZ(M:List (List Int))(ds:List Int):Int:=if symB M=false then 4 else if defB M ds=false then 5 else 0
def zcj(ds:List Int)(k:Nat):Int:=if k=0 then 1 else ds.getD (k-1) 0
def lamM(M:List (List Int))(i j:Nat):List (List Int):=selM M (List.range j++[i]) (List.range j++[j])
def lamO(B:Nat)(M:List (List Int))(i j:Nat):Option Int:=(detO B (lamM M i j)).bind (ck B)
def zqn(B:Nat)(M:List (List Int))(ds:List Int)(i j:Nat):Option Bool:=(lamO B M i j).bind λl=>(ck B (2*l)).bind λ_=>some (decide (2*(l.natAbs:Int)<=zcj ds (j+1)))
def lovO(B:Nat)(M:List (List Int))(ds:List Int)(i:Nat):Option Bool:=(lamO B M i (i-1)).bind λl=>(ck B (zcj ds (i-1)*zcj ds (i+1))).bind λp=>(ck B (l*l)).bind λq=>(ck B (p+q)).bind λs=>(ck B (4*s)).bind λx=>
 (ck B (zcj ds i*zcj ds i)).bind λr=>(ck B (3*r)).bind λy=>some (decide (y<=x))
theorem zgw{B:Nat}{M:List (List Int)}{i j:Nat}{l:Int}(h:lamO B M i j=some l):detO B (lamM M i j)=some l/\l.natAbs<B:=by
 unfold lamO at h;rw[qU]at h;obtain⟨d,h1,h2⟩:=h;obtain⟨rfl,h3⟩:=zcm h2;exact⟨h1,h3⟩
end Go.Proofs.YtbjdfanphdfkdaaGreatDoor
namespace Go.Det
abbrev Row:=Nat->Int
def sg:Nat->Int
 |0=>1
 |n+1=> -sg n
def zbr(f:List Row->Int)(c:Nat):List Row->List Row->Int
 |_,[]=>0
 |pre,v::L=>sg L.length*(v c*f (pre++L))+zbr f c (pre++[v]) L
def det:List Nat->List Row->Int
 | [],[]=>1
 | [],_::_=>0
 |c::cs,R=>zbr (det cs) c [] R
def Lin(f:List Row->Int):Prop:= ∀(L1 L2:List Row) (a b:Int) (x y:Row),f (L1++(λj=>a*x j+b*y j)::L2)=a*f (L1++x::L2)+b*f (L1++y::L2)
def Alt(f:List Row->Int):Prop:= ∀(L1 L2:List Row) (v:Row),f (L1++v::v::L2)=0
theorem qhg{f:List Row->Int}(hf:Lin f)(c:Nat)(a b:Int)(x y:Row):∀(L p1 p2:List Row),zbr f c (p1++(λj=>a*x j+b*y j)::p2) L=a*zbr f c (p1++x::p2) L+b*zbr f c (p1++y::p2) L:=by
 intro L
 induction L with
 |nil=>intro p1 p2;simp[zbr]
 |cons v L ih=>
  intro p1 p2;simp only[zbr,qG,qH];rw[hf p1 (p2++L) a b x y,ih p1 (p2++[v])];grind
theorem qhh{f:List Row->Int}(hf:Lin f)(c:Nat)(a b:Int)(x y:Row)(L2:List Row):∀(L1 pre:List Row),zbr f c pre (L1++(λj=>a*x j+b*y j)::L2)=a*zbr f c pre (L1++x::L2)+b*zbr f c pre (L1++y::L2):=by
 intro L1
 induction L1 with
 |nil=>
  intro pre;simp only[qD,zbr];rw[qhg hf c a b x y L2 pre []];grind
 |cons w L1 ih=>
  intro pre;simp only[qH,zbr,qO,xB];have:=hf (pre++L1) L2 a b x y;simp only[qG]at this;rw[this,ih];grind
theorem qox:∀cs,Lin (det cs):=by
 intro cs
 induction cs with
 |nil=>
  intro L1 L2 a b x y;have e:∀v:Row,det [] (L1++v::L2)=0:=by intro v;cases L1<;>rfl
  rw[e,e,e];simp
 |cons c cs ih=>intro L1 L2 a b x y;exact qhh ih c a b x y L2 L1 []
theorem qan{f:List Row->Int}(hf:Alt f)(c:Nat)(v:Row):∀(L p1 p2:List Row),zbr f c (p1++v::v::p2) L=0:=by
 intro L
 induction L with
 |nil=>intro p1 p2;rfl
 |cons w L ih=>
  intro p1 p2;simp only[zbr,qG,qH];rw[hf p1 (p2++L) v,ih p1 (p2++[w])];simp
theorem qhi{f:List Row->Int}(hf:Alt f)(c:Nat)(v:Row)(L2:List Row):∀(L1 pre:List Row),zbr f c pre (L1++v::v::L2)=0:=by
 intro L1
 induction L1 with
 |nil=>
  intro pre;simp only[qD,zbr,xB];have:=qan hf c v L2 pre [];simp only[qG,qH,qD]at this ⊢;rw[this];simp only[sg];grind
 |cons w L1 ih=>
  intro pre;simp only[qH,zbr];have:=hf (pre++L1) L2 v;simp only[qG]at this;rw[this,ih];simp
theorem qoy:∀cs,Alt (det cs):=by
 intro cs
 induction cs with
 |nil=>intro L1 L2 v;cases L1<;>rfl
 |cons c cs ih=>intro L1 L2 v;exact qhi ih c v L2 L1 []
theorem swap{f:List Row->Int}(hl:Lin f)(ha:Alt f)(L1 L2:List Row)(x y:Row):f (L1++x::y::L2)= -f (L1++y::x::L2):=by
 have h:=ha L1 L2 (λj=>1*x j+1*y j);rw[hl L1 ((λj=>1*x j+1*y j)::L2) 1 1 x y]at h;have h1:=hl (L1++[x]) L2 1 1 x y;have h2:=hl (L1++[y]) L2 1 1 x y;simp only[qG,qH,qD]at h1 h2;rw[h1,h2,ha L1 L2 x,ha L1 L2 y]at h;omega
theorem xcc{f:List Row->Int}(hl:Lin f)(ha:Alt f)(v:Row):∀(M L1 L2:List Row),f (L1++v::(M++v::L2))=0:=by
 intro M
 induction M with
 |nil=>intro L1 L2;exact ha L1 L2 v
 |cons w M ih=>
  intro L1 L2;rw[qH,swap hl ha L1 (M++v::L2) v w];have:=ih (L1++[w]) L2;simp only[qG,qH,qD]at this;rw[this];simp
theorem qdu{f:List Row->Int}(hl:Lin f)(ha:Alt f){v:Row}{L1 L2:List Row}(hv:v∈L1):f (L1++v::L2)=0:=by
 obtain⟨A,B,rfl⟩:=List.append_of_mem hv;have:=xcc hl ha v B A L2;simpa using this
theorem qxg{f:List Row->Int}(hl:Lin f)(L1 L2:List Row):f (L1++(λ_=>0)::L2)=0:=by
 have:=hl L1 L2 0 0 (λ_=>0) (λ_=>0);simpa using this
def comb(c:Nat->Int)(r:Nat->Row):Nat->Row
 |0=>λ_=>0
 |m+1=>λj=>1*comb c r m j+c m*r m j
theorem qdv{f:List Row->Int}(hl:Lin f)(ha:Alt f)(c:Nat->Int)(r:Nat->Row){L1 L2:List Row}:∀m,(∀l,l<m->r l∈L1)->f (L1++comb c r m::L2)=0:=by
 intro m
 induction m with
 |zero=>intro _;exact qxg hl L1 L2
 |succ m ih=>
  intro h
  show f (L1++(λj=>1*comb c r m j+c m*r m j)::L2)=0
  rw[hl,ih (λl hl=>h l (by omega)),qdu hl ha (h m (by omega))];simp
def zct(r:Nat->Row)(k:Nat):List Row:=(List.range k).map r
def zec:Nat->List Nat
 |0=>[]
 |k+1=>k::zec k
theorem zsm(r:Nat->Row)(k:Nat):zct r (k+1)=zct r k++[r k]:=by simp[zct,qM]
def lead(r:Nat->Row)(k:Nat):Int:=det (zec k) (zct r k)
def bord(r:Nat->Row)(k:Nat)(v:Row):Row:=λj=>det (j::zec k) (zct r k++[v])
theorem qoz(r:Nat->Row)(k:Nat):lead r (k+1)=bord r k (r k) k:=by
 unfold lead bord;rw[zsm];rfl
def cof(f:List Row->Int)(pre L:List Row)(v:Row)(l:Nat):Int:= -(sg (L.length-l)*f (pre++(L.eraseIdx l++[v])))
def sumR(g:Nat->Int):Nat->Int
 |0=>0
 |n+1=>sumR g n+g n
theorem zap{g h:Nat->Int}{n:Nat}(e:∀i,i<n->g i=h i):sumR g n=sumR h n:=by
 induction n with
 |zero=>rfl
 |succ n ih=>simp only[sumR];rw[ih (λi hi=>e i (by omega)),e n (by omega)]
theorem zga{g:Nat->Int}{n:Nat}(e:∀i,i<n->g i=0):sumR g n=0:=by
 induction n with
 |zero=>rfl
 |succ n ih=>simp only[sumR];rw[ih (λi hi=>e i (by omega)),e n (by omega)];rfl
theorem qhj(g:Nat->Int)(n:Nat):sumR g (n+1)=g 0+sumR (λi=>g (i+1)) n:=by
 induction n with
 |zero=>simp[sumR]
 |succ n ih=>rw[sumR,ih];simp only[sumR];omega
theorem zhq(f:List Row->Int)(j:Nat)(v:Row):∀(L pre:List Row),zbr f j pre (L++[v])=v j*f (pre++L)-sumR (λl=>cof f pre L v l*(L.getD l (λ_=>0)) j) L.length:=by
 intro L
 induction L with
 |nil=>intro pre;simp[zbr,sg,sumR]
 |cons w L ih=>
  intro pre;simp only[qH,zbr,qO,xB,List.length_nil,Nat.zero_add];rw[ih (pre++[w]),qhj]
  have e:sumR (λi=>cof f pre (w::L) v (i+1)*((w::L).getD (i+1) (λ_=>0)) j) L.length=sumR (λl=>cof f (pre++[w]) L v l*(L.getD l (λ_=>0)) j) L.length:=by
   refine zap λi _=>?_
   simp[cof]
  have e0:cof f pre (w::L) v 0= -(sg (L.length+1)*f (pre++(L++[v]))):=by simp[cof]
  rw[e,e0];simp only[List.getD_cons_zero,qG,qH,qD];grind
theorem qxh(c:Nat->Int)(r:Nat->Row)(j:Nat):∀m,comb c r m j=sumR (λl=>c l*r l j) m:=by
 intro m
 induction m with
 |zero=>rfl
 |succ m ih=>simp only[comb,sumR,ih];omega
theorem zbw(r:Nat->Row)(k:Nat):(zct r k).length=k:=by simp[zct]
theorem zin(r:Nat->Row){k l:Nat}(h:l<k):(zct r k).getD l (λ_=>0)=r l:=by
 rw[qZ];simp[zct,h]
theorem qpa(r:Nat->Row)(k:Nat)(v:Row):bord r k v=λj=>lead r k*v j+(-1)*comb (cof (det (zec k)) [] (zct r k) v) r k j:=by
 funext j
 show zbr (det (zec k)) j [] (zct r k++[v])=_
 rw[zhq,qxh,zbw]
 have e:sumR (λl=>cof (det (zec k)) [] (zct r k) v l*((zct r k).getD l (λ_=>0)) j) k=sumR (λl=>cof (det (zec k)) [] (zct r k) v l*r l j) k:=
  zap λl hl=>by rw[zin r hl]
 rw[e];unfold lead;simp only[qD];grind
theorem qxi{u:Row}:∀(cs:List Nat),(∀c∈cs,u c=0)->∀L1 L2,det cs (L1++u::L2)=0:=by
 intro cs
 induction cs with
 |nil=>intro _ L1 L2;cases L1<;>rfl
 |cons c cs ih=>
  intro h L1 L2;have hf:=ih (λx hx=>h x (by simp[hx]));have hc:=h c (by simp)
  have pre:∀(L p1 p2:List Row),zbr (det cs) c (p1++u::p2) L=0:=by
   intro L
   induction L with
   |nil=>intro p1 p2;rfl
   |cons w L ihL=>
    intro p1 p2;simp only[zbr,qG,qH];rw[hf p1 (p2++L),ihL p1 (p2++[w])];simp
  have main:∀(L1 p:List Row),zbr (det cs) c p (L1++u::L2)=0:=by
   intro L1
   induction L1 with
   |nil=>
    intro p;simp only[qD,zbr];rw[hc,pre L2 p []];simp
   |cons w L1 ihL=>
    intro p;simp only[qH,zbr];have:=hf (p++L1) L2;simp only[qG]at this;rw[this,ihL];simp
  exact main L1 []
theorem zqp{c:Nat}:∀{k:Nat},c∈zec k->c<k:=by
 intro k
 induction k with
 |zero=>intro h;simp[zec]at h
 |succ k ih=>
  intro h;rcases List.mem_cons.1 h with e | e
  ·omega
  ·have:=ih e;omega
theorem zxq{r:Nat->Row}{k:Nat}(hz:∀v c,c<k->bord r k v c=0)(v:Row)(j:Nat):
  lead r k*lead r k*bord r (k+1) v j=lead r k*(bord r k (r k) k*bord r k v j-bord r k v k*bord r k (r k) j):=by
 have hu0:∀w c,c∈zec k->bord r k w c=0:=λw c hc=>hz w c (zqp hc)
 have G0:∀w L1 L2,det (zec k) (L1++bord r k w::L2)=0:=λw L1 L2=>qxi (zec k) (hu0 w) L1 L2
 have F1:∀w,det (k::zec k) (zct r k++[bord r k w])=bord r k w k*lead r k:=by
  intro w
  show zbr (det (zec k)) k [] (zct r k++[bord r k w])=_
  rw[zhq]
  have:sumR (λl=>cof (det (zec k)) [] (zct r k) (bord r k w) l*((zct r k).getD l (λ_=>0)) k) (zct r k).length=0:=
   zga λl _=>by
    unfold cof;have:=G0 w ((zct r k).eraseIdx l) [];simp only[qD];rw[this];simp
  rw[this];unfold lead;simp
 have F2:∀R w w',det (k::zec k) ((R++[bord r k w])++[bord r k w'])=0:=by
  intro R w w'
  show zbr (det (zec k)) k [] ((R++[bord r k w])++[bord r k w'])=_
  rw[zhq]
  have:sumR (λl=>cof (det (zec k)) [] (R++[bord r k w]) (bord r k w') l*((R++[bord r k w]).getD l (λ_=>0)) k) (R++[bord r k w]).length=0:=
   zga λl _=>by
    unfold cof;have:=G0 w' ((R++[bord r k w]).eraseIdx l) [];simp only[qD];rw[this];simp
  rw[this,qD,G0 w R []];simp
 have X1:det (j::k::zec k) ((zct r k++[bord r k (r k)])++[bord r k v])=lead r k*(bord r k (r k) k*bord r k v j-bord r k v k*bord r k (r k) j):=by
  show zbr (det (k::zec k)) j [] ((zct r k++[bord r k (r k)])++[bord r k v])=_
  rw[zhq,qD,F1,qO,xD,zbw];simp only[sumR]
  have h0:sumR (λl=>cof (det (k::zec k)) [] (zct r k++[bord r k (r k)]) (bord r k v) l*((zct r k++[bord r k (r k)]).getD l (λ_=>0)) j) k=0:=
   zga λl hl=>by
    unfold cof;rw[qD,List.eraseIdx_append_of_lt_length (by rw[zbw];exact hl),F2];simp
  have h1:cof (det (k::zec k)) [] (zct r k++[bord r k (r k)]) (bord r k v) k=bord r k v k*lead r k:=by
   unfold cof;rw[qD,List.eraseIdx_append_of_length_le (by rw[zbw];exact qK _),zbw,xC,qO,zbw];simp only[List.eraseIdx_zero,List.tail_cons,List.append_nil,xD,Nat.add_sub_cancel_left,sg];rw[F1];grind
  have h2:(zct r k++[bord r k (r k)]).getD k (λ_=>0)=bord r k (r k):=by
   rw[qZ,qI (by rw[zbw];exact qK _),zbw,xC];rfl
  rw[h0,h1,h2];grind
 have hl:=qox (j::k::zec k);have ha:=qoy (j::k::zec k);have hm:∀l,l<k->r l∈zct r k:=λl h=>by simp only[zct,List.mem_map,xE];exact⟨l,h,rfl⟩
 have X2:det (j::k::zec k) ((zct r k++[bord r k (r k)])++[bord r k v])=lead r k*(lead r k*bord r (k+1) v j):=by
  rw[qpa r k v];rw[hl (zct r k++[bord r k (r k)]) [] (lead r k) (-1) v (comb (cof (det (zec k)) [] (zct r k) v) r k)];rw[qdv hl ha _ r (L1:=zct r k++[bord r k (r k)]) (L2:=[]) k (λl h=>by simp[hm l h])];rw[qG,qpa r k (r k)]
  show lead r k*det (j::k::zec k) (zct r k++(λj=>lead r k*(r k) j+(-1)*comb (cof (det (zec k)) [] (zct r k) (r k)) r k j)::[v])+_=_
  rw[hl (zct r k) [v] (lead r k) (-1) (r k) (comb (cof (det (zec k)) [] (zct r k) (r k)) r k)];rw[qdv hl ha _ r (L1:=zct r k) (L2:=[v]) k hm]
  have:bord r (k+1) v j=det (j::k::zec k) (zct r k++r k::[v]):=by
   unfold bord;rw[zsm,qG];rfl
  rw[this];grind
 rw[X1]at X2;grind
theorem qdw{r:Nat->Row}:∀(k:Nat),(∀i,i<=k->lead r i≠0)->(∀v c,c<k->bord r k v c=0)/\∀v j,lead r k*bord r (k+1) v j=bord r k (r k) k*bord r k v j-bord r k v k*bord r k (r k) j:=by
 have canc:∀{a x y:Int},a≠0->a*a*x=a*y->a*x=y:=by
  intro a x y ha h;rw[Int.mul_assoc]at h;exact qY ha h
 intro k
 induction k with
 |zero=>intro h;exact⟨λv c hc=>absurd hc (by omega),λv j=>canc (h 0 (by omega)) (zxq (λv c hc=>absurd hc (by omega)) v j)⟩
 |succ k ih=>
  intro h;obtain⟨h1,h2⟩:=ih (λi hi=>h i (by omega))
  have hz:∀v c,c<k+1->bord r (k+1) v c=0:=by
   intro v c hc;have e:=h2 v c
   have:lead r k*bord r (k+1) v c=0:=by
    rw[e];rcases qW c k with hlt | hge
    ·rw[h1 v c hlt,h1 (r k) c hlt];simp
    ·have:c=k:=by omega
     subst this;grind
   rcases Int.mul_eq_zero.1 this with h0 | h0
   ·exact absurd h0 (h k (by omega))
   ·exact h0
  exact⟨hz,λv j=>canc (h (k+1) (by omega)) (zxq hz v j)⟩
def stg(a:Nat->Row)(k i j:Nat):Int:=bord a k (a i) j
theorem zcb(a:Nat->Row)(i j:Nat):stg a 0 i j=a i j:=by
 show zbr (det []) j [] [a i]=_
 simp[zbr,sg,det]
theorem zav(a:Nat->Row):lead a 0=1:=rfl
theorem zau(a:Nat->Row)(k:Nat):lead a (k+1)=stg a k k k:=qoz a k
theorem zcg{a:Nat->Row}{k:Nat}(h:∀i,i<=k->lead a i≠0)(i j:Nat):lead a k*stg a (k+1) i j=lead a (k+1)*stg a k i j-stg a k i k*stg a k k j:=by
 rw[zau];exact(qdw k h).2 (a i) j
theorem zuq{a:Nat->Row}{k:Nat}(h:∀i,i<=k->lead a i≠0)(i c:Nat)(hc:c<k):stg a k i c=0:=(qdw k h).1 (a i) c hc
theorem znc{a:Nat->Row}{n:Nat}(hs:∀i j,i<n->j<n->a i j=a j i):∀k,k<n->(∀i,i<=k->lead a i≠0)->∀i j,i<n->j<n->k<=i->k<=j->stg a k i j=stg a k j i:=by
 intro k
 induction k with
 |zero=>intro _ _ i j hi hj _ _;rw[zcb,zcb];exact hs i j hi hj
 |succ k ih=>
  intro hk h i j hi hj h1 h2;have h':∀i,i<=k->lead a i≠0:=λi hi=>h i (by omega)
  have e1:=zcg h' i j;have e2:=zcg h' j i;have s1:=ih (by omega) h' i j hi hj (by omega) (by omega);have s2:=ih (by omega) h' i k hi (by omega) (by omega) (by omega);have s3:=ih (by omega) h' k j (by omega) hj (by omega) (by omega);refine qY (h' k (by omega)) ?_;rw[e1,e2,s1,s2,s3];grind
theorem xzk{x d:Int}(h1:x<=d)(h2: -d<=x):x*x<=d*d:=by
 have h:=qV (show 0<=d-x by omega) (show 0<=d+x by omega);have e:(d-x)*(d+x)=d*d-x*x:=by grind
 omega
theorem qao{x y a b:Int}(h1:x<=a)(h2: -a<=x)(h3:y<=b)(h4: -b<=y):x*y<=a*b/\ -(a*b)<=x*y:=by
 have ha:0<=a:=by omega
 have p1:=qV (show 0<=a-x by omega) (show 0<=b+y by omega);have p2:=qV (show 0<=a+x by omega) (show 0<=b-y by omega);have p3:=qV (show 0<=a-x by omega) (show 0<=b-y by omega);have p4:=qV (show 0<=a+x by omega) (show 0<=b+y by omega);have e1:(a-x)*(b+y)+(a+x)*(b-y)=2*(a*b)-2*(x*y):=by grind
 have e2:(a-x)*(b-y)+(a+x)*(b+y)=2*(a*b)+2*(x*y):=by grind
 omega
structure Red(n:Nat)(a:Nat->Row):Prop where
 n1:1<=n
 n8:n<=8
 sym:∀i j,i<n->j<n->a i j=a j i
 pos:∀k,k<n->0<lead a (k+1)
 small:lead a n<=10000
 sized:∀i j,i<n->j<i->2*stg a j i j<=lead a (j+1)/\ -(2*stg a j i j)<=lead a (j+1)
 lov:∀i,0<i->i<n->3*(lead a i*lead a i)<=4*(lead a (i-1)*lead a (i+1)+stg a (i-1) i (i-1)*stg a (i-1) i (i-1))
theorem Red.pos'{n:Nat}{a:Nat->Row}(h:Red n a):∀k,k<=n->0<lead a k:=by
 intro k hk;cases k with
 |zero=>rw[zav];decide
 |succ k=>exact h.pos k (by omega)
theorem Red.ne{n:Nat}{a:Nat->Row}(h:Red n a){k:Nat}(hk:k<=n):∀i,i<=k->lead a i≠0:=λi hi=>by have:=h.pos' i (by omega);omega
theorem Red.conv{n:Nat}{a:Nat->Row}(h:Red n a){i:Nat}(h0:0<i)(hi:i<n):lead a i*lead a i<=2*(lead a (i-1)*lead a (i+1)):=by
 obtain⟨s1,s2⟩:=h.sized i (i-1) hi (by omega);have e:i-1+1=i:=by omega
 rw[e]at s1 s2;have l:=h.lov i h0 hi;have q:=xzk s1 (by omega);have e2:2*stg a (i-1) i (i-1)*(2*stg a (i-1) i (i-1))=4*(stg a (i-1) i (i-1)*stg a (i-1) i (i-1)):=by grind
 omega
theorem Red.pow{n:Nat}{a:Nat->Row}(h:Red n a):∀k,k<n->(lead a k).toNat^(k+1)<=2^(k*(k+1)/2)*(lead a (k+1)).toNat^k:=by
 intro k
 induction k with
 |zero=>intro _;rw[zav];simp
 |succ k ih=>
  intro hk;have c:=h.conv (i:=k+1) (by omega) hk;have p0:=h.pos' k (by omega);have p1:=h.pos' (k+1) (by omega);have p2:=h.pos' (k+1+1) (by omega);have e0:k+1-1=k:=by omega
  rw[e0]at c;obtain⟨x,hx⟩:∃x:Nat,lead a k=x:=⟨(lead a k).toNat,by omega⟩
  obtain⟨y,hy⟩:∃x:Nat,lead a (k+1)=x:=⟨(lead a (k+1)).toNat,by omega⟩
  obtain⟨z,hz⟩:∃x:Nat,lead a (k+1+1)=x:=⟨(lead a (k+1+1)).toNat,by omega⟩
  have ih:=ih (by omega);rw[hx,hy]at ih;rw[hx,hy,hz]at c;rw[hy,hz];simp only[Int.toNat_natCast]at ih ⊢
  have c':y*y<=2*(x*z):=by
   have:((y*y:Nat):Int)<=((2*(x*z):Nat):Int):=by simpa using c
   omega
  have hy0:0<y:=by omega
  have q1:(y*y)^(k+1)<=(2*(x*z))^(k+1):=xV c' _;rw[xS,xS,xS]at q1;have q2:2^(k+1)*(x^(k+1)*z^(k+1))<=2^(k+1)*((2^(k*(k+1)/2)*y^k)*z^(k+1)):=qN _ (Nat.mul_le_mul_right _ ih);have q3:=xZ q1 q2
  have ee:(k+1)*(k+1+1)/2=k*(k+1)/2+(k+1):=by
   have:(k+1)*(k+1+1)=k*(k+1)+(k+1)*2:=by grind
   rw[this,Nat.add_mul_div_right _ _ (by decide)]
  rw[ee,Nat.pow_add 2];have e1:y^(k+1)*y^(k+1)=y^k*y^(k+1+1):=by rw[Nat.pow_succ y (k+1),Nat.pow_succ y k];grind
  have e2:2^(k+1)*((2^(k*(k+1)/2)*y^k)*z^(k+1))=y^k*(2^(k*(k+1)/2)*2^(k+1)*z^(k+1)):=by grind
  rw[e1,e2]at q3;exact Nat.le_of_mul_le_mul_left q3 (Nat.pow_pos hy0)
theorem Red.step{n:Nat}{a:Nat->Row}(h:Red n a){k X Y:Nat}(hk:k<n)(hY:lead a (k+1)<=Y)(hX:2^(k*(k+1)/2)*Y^k<(X+1)^(k+1)):lead a k<=X:=by
 have p:=h.pow k hk;have p0:=h.pos' k (by omega);have p1:=h.pos' (k+1) (by omega);have h1:(lead a (k+1)).toNat<=Y:=by omega
 have h2:(lead a k).toNat^(k+1)<(X+1)^(k+1):=xU (xZ p (qN _ (xV h1 _))) hX;have h3:(lead a k).toNat<X+1:=xM λh4=>xG _ (Nat.lt_of_lt_of_le h2 (xV h4 _))
 omega
theorem Red.bnd1{a:Nat->Row}(h:Red 1 a):∀k,k<1->lead a k<=65535:=by
 have b1:lead a 1<=(10000:Nat):=h.small;have b0:lead a 0<=(1:Nat):=by rw[zav];decide
 intro k hk
 match k,hk with
 |0,_=>omega
 |k+1,hk=>exact absurd hk (by omega)
theorem Red.bnd2{a:Nat->Row}(h:Red 2 a):∀k,k<2->lead a k<=65535:=by
 have b2:lead a 2<=(10000:Nat):=h.small;have b1:lead a 1<=(141:Nat):=h.step (k:=1) (X:=141) (Y:=10000) (by decide) b2 (by decide);have b0:lead a 0<=(1:Nat):=by rw[zav];decide
 intro k hk
 match k,hk with
 |0,_=>omega
 |1,_=>omega
 |k+2,hk=>exact absurd hk (by omega)
theorem Red.bnd3{a:Nat->Row}(h:Red 3 a):∀k,k<3->lead a k<=65535:=by
 have b3:lead a 3<=(10000:Nat):=h.small;have b2:lead a 2<=(928:Nat):=h.step (k:=2) (X:=928) (Y:=10000) (by decide) b3 (by decide);have b1:lead a 1<=(43:Nat):=h.step (k:=1) (X:=43) (Y:=928) (by decide) b2 (by decide);have b0:lead a 0<=(1:Nat):=by rw[zav];decide
 intro k hk
 match k,hk with
 |0,_=>omega
 |1,_=>omega
 |2,_=>omega
 |k+3,hk=>exact absurd hk (by omega)
theorem Red.bnd4{a:Nat->Row}(h:Red 4 a):∀k,k<4->lead a k<=65535:=by
 have b4:lead a 4<=(10000:Nat):=h.small;have b3:lead a 3<=(2828:Nat):=h.step (k:=3) (X:=2828) (Y:=10000) (by decide) b4 (by decide);have b2:lead a 2<=(399:Nat):=h.step (k:=2) (X:=399) (Y:=2828) (by decide) b3 (by decide);have b1:lead a 1<=(28:Nat):=h.step (k:=1) (X:=28) (Y:=399) (by decide) b2 (by decide);have b0:lead a 0<=(1:Nat):=by rw[zav];decide
 intro k hk
 match k,hk with
 |0,_=>omega
 |1,_=>omega
 |2,_=>omega
 |3,_=>omega
 |k+4,hk=>exact absurd hk (by omega)
theorem Red.bnd5{a:Nat->Row}(h:Red 5 a):∀k,k<5->lead a k<=65535:=by
 have b5:lead a 5<=(10000:Nat):=h.small;have b4:lead a 4<=(6339:Nat):=h.step (k:=4) (X:=6339) (Y:=10000) (by decide) b5 (by decide);have b3:lead a 3<=(2009:Nat):=h.step (k:=3) (X:=2009) (Y:=6339) (by decide) b4 (by decide);have b2:lead a 2<=(318:Nat):=h.step (k:=2) (X:=318) (Y:=2009) (by decide) b3 (by decide);have b1:lead a 1<=(25:Nat):=h.step (k:=1) (X:=25) (Y:=318) (by decide) b2 (by decide);have b0:lead a 0<=(1:Nat):=by rw[zav];decide
 intro k hk
 match k,hk with
 |0,_=>omega
 |1,_=>omega
 |2,_=>omega
 |3,_=>omega
 |4,_=>omega
 |k+5,hk=>exact absurd hk (by omega)
theorem Red.bnd6{a:Nat->Row}(h:Red 6 a):∀k,k<6->lead a k<=65535:=by
 have b6:lead a 6<=(10000:Nat):=h.small;have b5:lead a 5<=(12187:Nat):=h.step (k:=5) (X:=12187) (Y:=10000) (by decide) b6 (by decide);have b4:lead a 4<=(7426:Nat):=h.step (k:=4) (X:=7426) (Y:=12187) (by decide) b5 (by decide);have b3:lead a 3<=(2262:Nat):=h.step (k:=3) (X:=2262) (Y:=7426) (by decide) b4 (by decide);have b2:lead a 2<=(344:Nat):=h.step (k:=2) (X:=344) (Y:=2262) (by decide) b3 (by decide);have b1:lead a 1<=(26:Nat):=h.step (k:=1) (X:=26) (Y:=344) (by decide) b2 (by decide);have b0:lead a 0<=(1:Nat):=by rw[zav];decide
 intro k hk
 match k,hk with
 |0,_=>omega
 |1,_=>omega
 |2,_=>omega
 |3,_=>omega
 |4,_=>omega
 |5,_=>omega
 |k+6,hk=>exact absurd hk (by omega)
theorem Red.bnd7{a:Nat->Row}(h:Red 7 a):∀k,k<7->lead a k<=65535:=by
 have b7:lead a 7<=(10000:Nat):=h.small;have b6:lead a 6<=(21461:Nat):=h.step (k:=6) (X:=21461) (Y:=10000) (by decide) b7 (by decide);have b5:lead a 5<=(23029:Nat):=h.step (k:=5) (X:=23029) (Y:=21461) (by decide) b6 (by decide);have b4:lead a 4<=(12356:Nat):=h.step (k:=4) (X:=12356) (Y:=23029) (by decide) b5 (by decide);have b3:lead a 3<=(3314:Nat):=h.step (k:=3) (X:=3314) (Y:=12356) (by decide) b4 (by decide);have b2:lead a 2<=(444:Nat):=h.step (k:=2) (X:=444) (Y:=3314) (by decide) b3 (by decide);have b1:lead a 1<=(29:Nat):=h.step (k:=1) (X:=29) (Y:=444) (by decide) b2 (by decide);have b0:lead a 0<=(1:Nat):=by rw[zav];decide
 intro k hk
 match k,hk with
 |0,_=>omega
 |1,_=>omega
 |2,_=>omega
 |3,_=>omega
 |4,_=>omega
 |5,_=>omega
 |6,_=>omega
 |k+7,hk=>exact absurd hk (by omega)
theorem Red.bnd8{a:Nat->Row}(h:Red 8 a):∀k,k<8->lead a k<=65535:=by
 have b8:lead a 8<=(10000:Nat):=h.small;have b7:lead a 7<=(35777:Nat):=h.step (k:=7) (X:=35777) (Y:=10000) (by decide) b8 (by decide);have b6:lead a 6<=(63999:Nat):=h.step (k:=6) (X:=63999) (Y:=35777) (by decide) b7 (by decide);have b5:lead a 5<=(57242:Nat):=h.step (k:=5) (X:=57242) (Y:=63999) (by decide) b6 (by decide);have b4:lead a 4<=(25599:Nat):=h.step (k:=4) (X:=25599) (Y:=57242) (by decide) b5 (by decide);have b3:lead a 3<=(5724:Nat):=h.step (k:=3) (X:=5724) (Y:=25599) (by decide) b4 (by decide);have b2:lead a 2<=(639:Nat):=h.step (k:=2) (X:=639) (Y:=5724) (by decide) b3 (by decide);have b1:lead a 1<=(35:Nat):=h.step (k:=1) (X:=35) (Y:=639) (by decide) b2 (by decide);have b0:lead a 0<=(1:Nat):=by rw[zav];decide
 intro k hk
 match k,hk with
 |0,_=>omega
 |1,_=>omega
 |2,_=>omega
 |3,_=>omega
 |4,_=>omega
 |5,_=>omega
 |6,_=>omega
 |7,_=>omega
 |k+8,hk=>exact absurd hk (by omega)
theorem Red.minor{n:Nat}{a:Nat->Row}(h:Red n a){k:Nat}(hk:k<=n):lead a k<=65535:=by
 rcases qW k n with hlt | hge
 ·have h1:=h.n1;have h8:=h.n8
  match n,h1,h8 with
  |1,_,_=>exact h.bnd1 k hlt
  |2,_,_=>exact h.bnd2 k hlt
  |3,_,_=>exact h.bnd3 k hlt
  |4,_,_=>exact h.bnd4 k hlt
  |5,_,_=>exact h.bnd5 k hlt
  |6,_,_=>exact h.bnd6 k hlt
  |7,_,_=>exact h.bnd7 k hlt
  |8,_,_=>exact h.bnd8 k hlt
  |n+9,_,h=>exact absurd h (by omega)
 ·have:k=n:=by omega
  rw[this];have:=h.small;omega
theorem back{d e x y u v C:Int}(hd:1<=d)(he:1<=e)(he2:e<=65536)(h:d*y=e*x-u*v)(hy1:y<=e*C)(hy2: -(e*C)<=y)(hu1:2*u<=e)(hu2: -(2*u)<=e)(hv1:2*v<=e)(hv2: -(2*v)<=e):
  x<=d*(C+16384)/\ -(d*(C+16384))<=x:=by
 have m:=qao (x:=2*u) (y:=2*v) hu1 (by omega) hv1 (by omega);have e4:2*u*(2*v)=4*(u*v):=by grind
 rw[e4]at m;have k1:d*y<=d*(e*C):=qX hy1 (by omega);have k2:d*(-(e*C))<=d*y:=qX hy2 (by omega);have k3:e*e<=e*(d*65536):=qX (by omega) (by omega)
 have c1:e*x<=e*(d*(C+16384)):=by
  have:e*(d*(C+16384))=d*(e*C)+e*d*16384:=by grind
  have t:e*(d*65536)=4*(e*d*16384):=by grind
  omega
 have c2:e*(-(d*(C+16384)))<=e*x:=by
  have:e*(-(d*(C+16384)))=d*(-(e*C))-e*d*16384:=by grind
  have t:e*(d*65536)=4*(e*d*16384):=by grind
  omega
 exact⟨qA c1 (by omega),qA c2 (by omega)⟩
theorem Red.stage{n:Nat}{a:Nat->Row}(h:Red n a){i j:Nat}(hi:i<n)(hj:j<=i):∀m k,k+m=j->stg a k i j<=lead a k*(65536+16384*(m:Int))/\ -(lead a k*(65536+16384*(m:Int)))<=stg a k i j:=by
 intro m
 induction m with
 |zero=>
  intro k hk;have:k=j:=by omega
  subst this;have p:=h.pos' k (by omega);have b1:=h.minor (k:=k+1) (by omega);have p1:=h.pos' (k+1) (by omega)
  have q:(65536:Int)<=lead a k*(65536+16384*((0:Nat):Int)):=by
   have:1*65536<=lead a k*65536:=qJ (by omega) (by decide);simpa using this
  rcases qW k i with hlt | hge
  ·obtain⟨s1,s2⟩:=h.sized i k hi hlt;omega
  ·have:k=i:=by omega
   subst this;rw[<-zau];omega
 |succ m ih=>
  intro k hk;have p:=h.pos' k (by omega);have p1:=h.pos' (k+1) (by omega);have b1:=h.minor (k:=k+1) (by omega);obtain⟨y1,y2⟩:=ih (k+1) (by omega);have hn:=h.ne (k:=k) (by omega);have e:=zcg hn i j;obtain⟨u1,u2⟩:=h.sized i k hi (by omega);obtain⟨v1,v2⟩:=h.sized j k (by omega) (by omega);rw[znc h.sym k (by omega) hn k j (by omega) (by omega) (by omega) (by omega)]at e;have:=back (by omega) (by omega) (by omega) e y1 y2 u1 u2 v1 v2;have c:(65536+16384*(m:Int)+16384)=65536+16384*((m+1:Nat):Int):=by omega
  rw[c]at this;exact this
theorem Red.entry{n:Nat}{a:Nat->Row}(h:Red n a){i j:Nat}(hi:i<n)(hj:j<n):a i j<=180224/\ -180224<=a i j:=by
 have key:∀i j,i<n->j<=i->a i j<=180224/\ -180224<=a i j:=by
  intro i j hi hj;have:=h.stage hi hj j 0 (by omega);rw[zcb,zav]at this;have h8:=h.n8;omega
 rcases Nat.le_total j i with h1 | h1
 ·exact key i j hi h1
 ·rw[h.sym i j hi hj];exact key j i hj h1
end Go.Det
namespace Go.Proofs.YtbjdfanphdfkdaaGreatDoor
open Go Go.AL Go.Det
structure Shp(n:Nat)(M:List (List Int)):Prop where
 len:M.length=n
 row:∀i,i<n->(M.getD i []).length=n
theorem zio{α:Type}{l:List α}{i j:Nat}{x d:α}(hi:i<l.length):(l.set i x).getD j d=if j=i then x else l.getD j d:=by
 rw[qZ];by_cases h:j=i
 ·subst h;rw[List.getElem?_set_self hi,if_pos rfl];rfl
 ·rw[List.getElem?_set_ne (λe=>h e.symm),if_neg h,qZ]
theorem Shp.set{n:Nat}{M:List (List Int)}(h:Shp n M){i j:Nat}{z:Int}(hi:i<n):Shp n (setM M i j z):=by
 refine⟨by rw[zcq];exact h.len,λi' hi'=>?_⟩;unfold setM;rw[zio (by rw[h.len];exact hi)];split
 ·rw[yQ];exact h.row i hi
 ·exact h.row i' hi'
theorem Shp.ent_set{n:Nat}{M:List (List Int)}(h:Shp n M){i j:Nat}{z:Int}(hi:i<n)(hj:j<n)(i' l:Nat):ent (setM M i j z) i' l=if i'=i/\l=j then z else ent M i' l:=by
 unfold ent setM;rw[zio (by rw[h.len];exact hi)];by_cases h1:i'=i
 ·subst h1;rw[if_pos rfl,zio (by rw[h.row i' hi];exact hj)];by_cases h2:l=j
  ·rw[if_pos h2,if_pos ⟨rfl,h2⟩]
  ·rw[if_neg h2,if_neg (λe=>h2 e.2)]
 ·rw[if_neg h1,if_neg (λe=>h1 e.1)]
theorem qdx{B n k i:Nat}{last:Int}(hki:k<i)(hi:i<n):∀(m j:Nat) (M fin:List (List Int)),Shp n M->k<j->j+m<=n->elJ B k i last m j M=some fin->
  Shp n fin/\∀i' l,ent fin i' l=if i'=i/\j<=l/\l<j+m then(ent M k k*ent M i l-ent M i k*ent M k l)/last else ent M i' l:=by
 intro m
 induction m with
 |zero=>
  intro j M fin h _ _ he;simp only[elJ,qE]at he;subst he;refine⟨h,λi' l=>?_⟩;rw[if_neg (by omega)]
 |succ m ih=>
  intro j M fin h hj hm he;simp only[elJ,qU]at he;obtain⟨z,hz,he⟩:=he;obtain⟨_,_,_,_,_,hz,_⟩:=zxg hz;obtain⟨h1,h2⟩:=ih (j+1) _ _ (h.set hi) (by omega) (by omega) he;refine⟨h1,λi' l=>?_⟩;have es:=λi' l=>h.ent_set (i:=i) (j:=j) (z:=z) hi (by omega) i' l
  rw[h2 i' l,es k k,es i l,es i k,es k l,es i' l];by_cases c1:i'=i/\j+1<=l/\l<j+1+m
  ·rw[if_pos c1,if_neg (by omega),if_neg (by omega),if_neg (by omega),if_neg (by omega),if_pos (by omega)]
  ·rw[if_neg c1];by_cases c2:i'=i/\l=j
   ·rw[if_pos c2,if_pos (by omega),c2.2];exact hz
   ·rw[if_neg c2,if_neg (by omega)]
theorem qdy{B n k:Nat}{last:Int}:∀(m i:Nat) (M fin:List (List Int)),Shp n M->k<i->i+m=n->elI B n k last m i M=some fin->
  Shp n fin/\∀i' l,ent fin i' l=if i<=i'/\i'<n/\k+1<=l/\l<n then(ent M k k*ent M i' l-ent M i' k*ent M k l)/last else ent M i' l:=by
 intro m
 induction m with
 |zero=>
  intro i M fin h _ _ he;simp only[elI,qE]at he;subst he;refine⟨h,λi' l=>?_⟩;rw[if_neg (by omega)]
 |succ m ih=>
  intro i M fin h hi hm he;simp only[elI,qU]at he;obtain⟨M1,hM1,he⟩:=he;obtain⟨h1,h2⟩:=qdx hi (by omega) (n-(k+1)) (k+1) M M1 h (by omega) (by omega) hM1;obtain⟨h3,h4⟩:=ih (i+1) M1 fin h1 (by omega) (by omega) he;refine⟨h3,λi' l=>?_⟩;rw[h4 i' l,h2 k k,h2 i' l,h2 i' k,h2 k l];by_cases c1:i+1<=i'/\i'<n/\k+1<=l/\l<n
  ·rw[if_pos c1,if_neg (by omega),if_neg (by omega),if_neg (by omega),if_neg (by omega),if_pos (by omega)]
  ·rw[if_neg c1];by_cases c2:i'=i/\k+1<=l/\l<k+1+(n-(k+1))
   ·rw[if_pos c2,if_pos (by omega),c2.1]
   ·rw[if_neg c2,if_neg (by omega)]
def rowF(M:List (List Int)):Nat->Row:=λi j=>ent M i j
theorem qpb{B n:Nat}{N:List (List Int)}(hp:∀t,t<n->lead (rowF N) t≠0):∀(m k:Nat) (M:List (List Int)) (last d:Int),k+m=n->Shp n M->(∀i j,k<=i->i<n->k<=j->j<n->ent M i j=stg (rowF N) k i j)->
  last=lead (rowF N) k->detG B n m k M last false=some d->d=lead (rowF N) n:=by
 intro m
 induction m with
 |zero=>
  intro k M last d hk _ _ hl h;simp only[detG,qE]at h;have:k=n:=by omega
  subst this;simp at h;rw[<-h,hl]
 |succ m ih=>
  intro k M last d hk hs he hl h;have hkk:ent M k k=lead (rowF N) (k+1):=by rw[he k k (qK _) (by omega) (qK _) (by omega),<-zau]
  obtain⟨m',hm'⟩:∃m',n-k=m'+1:=⟨n-k-1,by omega⟩
  by_cases h0:ent M k k=0
  ·
   have hkn:k+1=n:=by
    rcases qW (k+1) n with hlt | hge
    ·exact absurd (hkk.symm.trans h0) (hp (k+1) hlt)
    ·omega
   have hm0:m'=0:=by omega
   have hpv:piv M k (n-k) k=n:=by
    rw[hm',hm0];simp only[piv];rw[if_pos h0];exact hkn
   simp only[detG]at h;rw[if_pos hpv,qE]at h;rw[<-h,<-hkn,<-hkk,h0]
  ·have hpv:piv M k (n-k) k=k:=by
    rw[hm'];simp only[piv];rw[if_neg h0]
   simp only[detG,hpv]at h;rw[if_neg (by omega),if_neg (xG _),if_neg (xG _),qU]at h;obtain⟨M2,hM2,h⟩:=h;obtain⟨s1,s2⟩:=qdy (n-(k+1)) (k+1) M M2 hs (by omega) (by omega) hM2;have e2:ent M2 k k=lead (rowF N) (k+1):=by rw[s2,if_neg (by omega)];exact hkk
   refine ih (k+1) M2 _ d (by omega) s1 (λi j hi hin hj hjn=>?_) e2 h;rw[s2,if_pos ⟨hi,hin,hj,hjn⟩,hkk,hl,he i j (by omega) hin (by omega) hjn,he i k (by omega) hin (qK _) (by omega),he k j (qK _) (by omega) (by omega) hjn];have r:=zcg (a:=rowF N) (k:=k) (λt ht=>hp t (by omega)) i j;rw[<-r,Int.mul_ediv_cancel_left _ (hp k (by omega))]
theorem zqq{B n:Nat}{N:List (List Int)}(hs:Shp n N)(hp:∀t,t<n->lead (rowF N) t≠0){d:Int}(h:detO B N=some d):d=lead (rowF N) n:=by
 unfold detO at h;rw[hs.len]at h;exact qpb hp n 0 N 1 d (by omega) hs (λi j _ _ _ _=>(zcb (rowF N) i j).symm) rfl h
theorem zxr:∀(cs:List Nat) (R R':List Row),R.length=R'.length->(∀i,i<R.length->∀c∈cs,(R.getD i (λ_=>0)) c=(R'.getD i (λ_=>0)) c)->det cs R=det cs R':=by
 intro cs
 induction cs with
 |nil=>intro R R' hl _;cases R<;>cases R'<;>simp at hl<;>rfl
 |cons c cs ih=>
  intro R R' hl h
  have key:∀(L L' p p':List Row),L.length=L'.length->p.length=p'.length->(∀i,i<L.length->∀x∈c::cs,(L.getD i (λ_=>0)) x=(L'.getD i (λ_=>0)) x)->
    (∀i,i<p.length->∀x∈c::cs,(p.getD i (λ_=>0)) x=(p'.getD i (λ_=>0)) x)->zbr (det cs) c p L=zbr (det cs) c p' L':=by
   intro L
   induction L with
   |nil=>intro L' p p' h1 _ _ _;cases L' with | nil=>rfl | cons _ _=>simp at h1
   |cons v L ihL=>
    intro L' p p' h1 h2 h3 h4;cases L' with
    |nil=>simp at h1
    |cons v' L'=>
     have hv:∀x∈c::cs,v x=v' x:=λx hx=>by simpa using h3 0 (by simp) x hx
     have hL:∀i,i<L.length->∀x∈c::cs,(L.getD i (λ_=>0)) x=(L'.getD i (λ_=>0)) x:=λi hi x hx=>by simpa using h3 (i+1) (by simpa using hi) x hx
     have hll:L.length=L'.length:=by simpa using h1
     simp only[zbr]
     have app:∀(A A' X X':List Row),A.length=A'.length->(∀i,i<A.length->∀x∈c::cs,(A.getD i (λ_=>0)) x=(A'.getD i (λ_=>0)) x)->(∀i,i<X.length->∀x∈c::cs,(X.getD i (λ_=>0)) x=(X'.getD i (λ_=>0)) x)->
       ∀i,i<(A++X).length->∀x∈c::cs,((A++X).getD i (λ_=>0)) x=((A'++X').getD i (λ_=>0)) x:=by
      intro A A' X X' hA k1 k2 i hi x hx;rw[qZ,qZ];rcases qW i A.length with hlt | hge
      ·rw[qP hlt,qP (by omega),<-qZ,<-qZ];exact k1 i hlt x hx
      ·rw[qI hge,qI (by omega),hA,<-qZ,<-qZ];refine k2 (i-A'.length) ?_ x hx;rw[qO]at hi;omega
     have e1:det cs (p++L)=det cs (p'++L'):=ih _ _ (by simp[h2,hll]) (λi hi x hx=>app p p' L L' h2 h4 hL i hi x (List.mem_cons_of_mem _ hx))
     have e2:=ihL L' (p++[v]) (p'++[v']) hll (by simp[h2]) hL (app p p' [v] [v'] h2 h4 (λi hi x hx=>by
      have:i=0:=by simpa using hi
      subst this;exact hv x hx))
     rw[e1,e2,hll,hv c (by simp)]
  exact key R R' [] [] hl rfl h (λi hi=>by simp at hi)
theorem xcd{M:List (List Int)}{rs cs:List Nat}{s t:Nat}(hs:s<rs.length)(ht:t<cs.length):ent (selM M rs cs) s t=ent M (rs.getD s 0) (cs.getD t 0):=by
 simp only[ent,selM,selR,qZ,xH,qB hs,qB ht,Option.map_some,Option.getD_some]
theorem zxs{j i t:Nat}(h:t<j):(List.range j++[i]).getD t 0=t:=by
 rw[qZ,qP (by simpa using h),List.getElem?_range h];rfl
theorem zsn{j i:Nat}:(List.range j++[i]).getD j 0=i:=by
 rw[qZ,qI (by simp)];simp
theorem qap{M:List (List Int)}{i j s t:Nat}(hs:s<=j)(ht:t<=j):ent (lamM M i j) s t=ent M (if s=j then i else s) t:=by
 unfold lamM;rw[xcd (by simp;omega) (by simp;omega)]
 have e:(List.range j++[j]).getD t 0=t:=by
  rcases qW t j with h | h
  ·exact zxs h
  ·have:t=j:=by omega
   rw[this];exact zsn
 rw[e];split
 ·rename_i h;rw[h,zsn]
 ·rw[zxs (by omega)]
theorem qaq(M:List (List Int))(i j:Nat):Shp (j+1) (lamM M i j):=by
 refine⟨by simp[lamM,selM],λt ht=>?_⟩;simp only[lamM,selM,qZ,xH];rw[qB (by simpa using ht)];simp[selR]
theorem qxj{M:List (List Int)}{i j t:Nat}(ht:t<=j):lead (rowF (lamM M i j)) t=lead (rowF M) t:=by
 unfold lead;refine zxr _ _ _ (by rw[zbw,zbw]) (λs hs c hc=>?_);rw[zbw]at hs;have:=zqp hc;rw[zin _ hs,zin _ hs]
 show ent (lamM M i j) s c=ent M s c
 rw[qap (by omega) (by omega),if_neg (by omega)]
theorem qxk{M:List (List Int)}{i j:Nat}:lead (rowF (lamM M i j)) (j+1)=stg (rowF M) j i j:=by
 unfold lead stg bord;refine zxr _ _ _ (by rw[zbw,qO,zbw];rfl) (λs hs c hc=>?_);rw[zbw]at hs
 have hc:c<=j:=by
  rcases List.mem_cons.1 hc with e | e
  ·omega
  ·have:=zqp e;omega
 rw[zin _ hs]
 show ent (lamM M i j) s c=_
 rw[qap (by omega) hc,qZ];rcases qW s j with h | h
 ·rw[if_neg (by omega),qP (by rw[zbw];exact h),<-qZ,zin _ h];rfl
 ·have:s=j:=by omega
  subst this;rw[if_pos rfl,qI (by rw[zbw];exact qK _),zbw,xC];rfl
theorem zlw{B i j:Nat}{M:List (List Int)}(hp:∀t,t<=j->lead (rowF M) t≠0){d:Int}(h:detO B (lamM M i j)=some d):d=stg (rowF M) j i j:=by
 rw[<-qxk];exact zqq (qaq M i j) (λt ht=>by rw[qxj (by omega)];exact hp t (by omega)) h
theorem qxl(M:List (List Int))(k:Nat):minK M k=lamM M k k:=rfl
theorem zxt{B:Nat}{M:List (List Int)}:∀{n:Nat} {ds:List Int},zeg B M n=some ds->∀k,k<n->detO B (minK M k)=some (ds.getD k 0):=by
 intro n
 induction n with
 |zero=>intro ds _ k hk;omega
 |succ n ih=>
  intro ds h k hk;have hpre:=zql (m:=1) h;have hl:=zea h;rcases qW k n with hlt | hge
  ·have:=ih hpre k hlt;rw[this,qZ,qZ,List.getElem?_take_of_lt hlt]
  ·have:k=n:=by omega
   subst this;simp only[zeg,qU,qE]at h;obtain⟨l,h1,h⟩:=h;have hl1:=zea h1;obtain⟨d,h2,d',h3,h⟩:=h;obtain⟨rfl,_⟩:=zcm h3;subst h;rw[qZ,qI (by omega),hl1,xC];simpa using h2
theorem xce{B n:Nat}{M:List (List Int)}{ds:List Int}(h:zeg B M n=some ds):∀k,k<=n->(∀t,t<k->0<ds.getD t 0)->(∀t,t<=k->0<lead (rowF M) t)/\∀t,t<k->ds.getD t 0=lead (rowF M) (t+1):=by
 intro k
 induction k with
 |zero=>intro _ _;exact⟨λt ht=>(by
  have e:t=0:=Nat.le_zero.1 ht;rw[e,zav];decide),λt ht=>absurd ht (by omega)⟩
 |succ k ih=>
  intro hk hp;obtain⟨h1,h2⟩:=ih (by omega) (λt ht=>hp t (by omega))
  have e:ds.getD k 0=lead (rowF M) (k+1):=by
   have:=zlw (i:=k) (j:=k) (λt ht=>by have:=h1 t ht;omega) (zxt h k (by omega));rw[this,zau]
  refine⟨λt ht=>?_,λt ht=>?_⟩
  ·rcases qW t (k+1)with hlt | hge
   ·exact h1 t (by omega)
   ·have:t=k+1:=by omega
    rw[this,<-e];exact hp k (by omega)
  ·rcases qW t k with hlt | hge
   ·exact h2 t hlt
   ·have:t=k:=by omega
    rw[this];exact e
theorem qar{B n:Nat}{M:List (List Int)}{ds:List Int}(h:zeg B M n=some ds)(hp:∀t,t<=n->0<lead (rowF M) t):∀k,k<n->ds.getD k 0=lead (rowF M) (k+1):=by
 intro k hk;have:=zlw (i:=k) (j:=k) (λt ht=>by have:=hp t (by omega);omega) (zxt h k hk);rw[this,zau]
theorem qas{ds:List Int}:(ds.all λd=>decide (0<d))=true↔∀t,t<ds.length->0<ds.getD t 0:=by
 rw[xL];constructor
 ·intro h t ht;rw[qZ,qB ht];exact of_decide_eq_true (h _ (List.getElem_mem ht))
 ·intro h d hd;obtain⟨t,ht,rfl⟩:=List.mem_iff_getElem.1 hd;have:=h t ht;rw[qZ,qB ht]at this;exact decide_eq_true this
def szP(M:List (List Int))(i j:Nat):Prop:=2*stg (rowF M) j i j<=lead (rowF M) (j+1)/\ -(2*stg (rowF M) j i j)<=lead (rowF M) (j+1)
def lvP(M:List (List Int))(i:Nat):Prop:=3*(lead (rowF M) i*lead (rowF M) i)<=4*(lead (rowF M) (i-1)*lead (rowF M) (i+1)+stg (rowF M) (i-1) i (i-1)*stg (rowF M) (i-1) i (i-1))
section
variable{B n:Nat}{M:List (List Int)}{ds:List Int}
theorem zgy(h:zeg B M n=some ds)(hp:∀t,t<=n->0<lead (rowF M) t){k:Nat}(hk:k<=n):zcj ds k=lead (rowF M) k:=by
 unfold zcj;split
 ·rename_i e;rw[e,zav]
 ·rw[qar h hp (k-1) (by omega)];congr 1;omega
theorem qpc(h:zeg B M n=some ds)(hp:∀t,t<=n->0<lead (rowF M) t){i j:Nat}(hj:j<n){b:Bool}(hb:zqn B M ds i j=some b):b=true↔szP M i j:=by
 unfold zqn at hb;simp only[qU,qE]at hb;obtain⟨l,hl,x,hx,rfl⟩:=hb;have e:=zlw (λt ht=>by have:=hp t (by omega);omega) (zgw hl).1;rw[decide_eq_true_eq,zgy h hp (by omega),e];unfold szP;omega
theorem xcf(h:zeg B M n=some ds)(hp:∀t,t<=n->0<lead (rowF M) t){i:Nat}(h0:0<i)(hi:i<n){b:Bool}(hb:lovO B M ds i=some b):b=true↔lvP M i:=by
 unfold lovO at hb;simp only[qU,qE]at hb;obtain⟨l,hl,p,hp1,q,hq,s,hs,x,hx,r,hr,y,hy,rfl⟩:=hb;have e:=zlw (λt ht=>by have:=hp t (by omega);omega) (zgw hl).1;obtain⟨rfl,_⟩:=zcm hp1;obtain⟨rfl,_⟩:=zcm hq;obtain⟨rfl,_⟩:=zcm hs;obtain⟨rfl,_⟩:=zcm hx;obtain⟨rfl,_⟩:=zcm hr;obtain⟨rfl,_⟩:=zcm hy;rw[decide_eq_true_eq,zgy h hp (by omega),zgy h hp (by omega),zgy h hp (by omega),e];exact Iff.rfl
theorem qdz(hs:Shp n M):symB M=true↔∀i j,i<n->j<n->rowF M i j=rowF M j i:=by
 rw[zqm,hs.len];constructor
 ·intro h i j hi hj;rcases qW j i with h1 | h1
  ·exact h i hi j h1
  ·rcases qW i j with h2 | h2
   ·exact(h j hj i h2).symm
   ·have:i=j:=by omega
    rw[this]
 ·intro h i hi j hj;exact h i j hi (by omega)
end
def Bnd(A:Nat)(M:List (List Int)):Prop:= ∀i j,(ent M i j).natAbs<=A
theorem xcg(x y:Int):(x/y).natAbs<=x.natAbs:=Int.natAbs_ediv_le_natAbs x y
theorem zdx{x y:Int}{a b:Nat}(hx:x.natAbs<=a)(hy:y.natAbs<=b):(x*y).natAbs<=a*b:=by
 rw[Int.natAbs_mul];exact xA hx hy
theorem zlx{B:Nat}{z:Int}(h:z.natAbs<B):ck B z=some z:=by unfold ck;rw[if_pos h]
section
variable{B n A:Nat}
theorem xzl{k i:Nat}{last:Int}(hki:k<i)(hi:i<n)(hl:last≠0)(hlA:last.natAbs<=A)(hB:2*(A*A)<B)(hA:A<B):∀(m j:Nat) (M:List (List Int)),Shp n M->k<j->j+m<=n->
  (∀i' l,(ent M i' l).natAbs<=2*(A*A))->(∀l,(ent M k l).natAbs<=A)->(∀i',(ent M i' k).natAbs<=A)->(∀l,j<=l->(ent M i l).natAbs<=A)->∃fin,elJ B k i last m j M=some fin/\Shp n fin/\∀i' l,(ent fin i' l).natAbs<=2*(A*A):=by
 intro m
 induction m with
 |zero=>intro j M h _ _ h1 _ _ _;exact⟨M,rfl,h,h1⟩
 |succ m ih=>
  intro j M h hj hm h1 h2 h3 h4;have p:=zdx (h2 k) (h4 j (qK _));have q:=zdx (h3 i) (h2 j);have s:(ent M k k*ent M i j-ent M i k*ent M k j).natAbs<=2*(A*A):=by omega
  have t:=xcg (ent M k k*ent M i j-ent M i k*ent M k j) last
  have hn:newE B M k i j last=some ((ent M k k*ent M i j-ent M i k*ent M k j)/last):=by
   unfold newE;rw[if_neg hl,zlx (by omega),zlx (by omega),zlx (by omega)];simp only[qC];rw[zlx (by omega)];simp only[qC];rw[zlx (by omega)]
  have es:=λi' l=>h.ent_set (i:=i) (j:=j) (z:=(ent M k k*ent M i j-ent M i k*ent M k j)/last) hi (by omega) i' l
  simp only[elJ,hn,qC];refine ih (j+1) _ (h.set hi) (by omega) (by omega) (λi' l=>?_) (λl=>?_) (λi'=>?_) (λl hl=>?_)
  ·rw[es];split
   ·omega
   ·exact h1 i' l
  ·rw[es,if_neg (by omega)];exact h2 l
  ·rw[es,if_neg (by omega)];exact h3 i'
  ·rw[es,if_neg (by omega)];exact h4 l (by omega)
theorem xzm{k:Nat}{last:Int}(hl:last≠0)(hlA:last.natAbs<=A)(hB:2*(A*A)<B)(hA:A<B):∀(m i:Nat) (M:List (List Int)),Shp n M->k<i->i+m=n->
  (∀i' l,(ent M i' l).natAbs<=2*(A*A))->(∀l,(ent M k l).natAbs<=A)->(∀i',(ent M i' k).natAbs<=A)->(∀i' l,i<=i'->(ent M i' l).natAbs<=A)->∃fin,elI B n k last m i M=some fin/\Shp n fin/\∀i' l,(ent fin i' l).natAbs<=2*(A*A):=by
 intro m
 induction m with
 |zero=>intro i M h _ _ h1 _ _ _;exact⟨M,rfl,h,h1⟩
 |succ m ih=>
  intro i M h hi hm h1 h2 h3 h4;obtain⟨M1,e1,s1,b1⟩:=xzl hi (by omega) hl hlA hB hA (n-(k+1)) (k+1) M h (by omega) (by omega) h1 h2 h3 (λl _=>h4 i l (qK _));obtain⟨_,f1⟩:=qdx hi (by omega) (n-(k+1)) (k+1) M M1 h (by omega) (by omega) e1;simp only[elI,e1,qC];refine ih (i+1) M1 s1 (by omega) (by omega) b1 (λl=>?_) (λi'=>?_) (λi' l hi'=>?_)
  ·rw[f1,if_neg (by omega)];exact h2 l
  ·rw[f1,if_neg (by omega)];exact h3 i'
  ·rw[f1,if_neg (by omega)];exact h4 i' l (by omega)
def bndS(A:Nat):Nat->Nat
 |0=>A
 |k+1=>2*(bndS A k*bndS A k)
theorem zly{M:List (List Int)}{p k:Nat}(h:Shp n M)(hp:p<n)(hk:k<n):Shp n (zdb M p k)/\∀i l,ent (zdb M p k) i l=ent M (if i=k then p else if i=p then k else i) l:=by
 have g:∀i,(zdb M p k).getD i []=M.getD (if i=k then p else if i=p then k else i) []:=by
  intro i;unfold zdb;rw[zio (by rw[yQ,h.len];exact hk)];split
  ·rfl
  ·rw[zio (by rw[h.len];exact hp)];split<;>rfl
 refine⟨⟨by simp[zdb,h.len],λi hi=>?_⟩,λi l=>by unfold ent;rw[g]⟩;rw[g];refine h.row _ ?_;split
 ·exact hp
 ·split<;>assumption
theorem xch{A0:Nat}(hA0:1<=A0)(hB:∀k,k<=n->2*(bndS A0 k*bndS A0 k)<B):∀(m k:Nat) (M:List (List Int)) (last:Int) (neg:Bool),k+m=n->Shp n M->Bnd (bndS A0 k) M->last≠0->last.natAbs<=bndS A0 k->
  ∃d,detG B n m k M last neg=some d/\d.natAbs<=bndS A0 n:=by
 have pos:∀k,1<=bndS A0 k:=by
  intro k
  induction k with
  |zero=>exact hA0
  |succ k ih=>have:=xA ih ih;simp only[bndS];omega
 have mono:∀k,bndS A0 k<=bndS A0 (k+1):=by
  intro k;have:=qN (bndS A0 k) (pos k);simp only[bndS];omega
 have monoN:∀m k,bndS A0 k<=bndS A0 (k+m):=by
  intro m
  induction m with
  |zero=>intro k;exact qK _
  |succ m ih=>intro k;exact xZ (ih k) (mono (k+m))
 intro m
 induction m with
 |zero=>
  intro k M last neg hk _ _ _ hl;have:k=n:=by omega
  subst this;cases neg
  ·exact⟨last,by simp[detG],hl⟩
  ·exact⟨-last,by simp[detG],by omega⟩
 |succ m ih=>
  intro k M last neg hk hs hb hl0 hl;simp only[detG];by_cases hpn:piv M k (n-k) k=n
  ·rw[if_pos hpn];exact⟨0,rfl,by simp⟩
  ·rw[if_neg hpn];have hpl:=jwp (M:=M) (k:=k) (m:=n-k) (p:=k);have hpne:=xzb (M:=M) (k:=k) (m:=n-k) (p:=k) (by omega);generalize hpe:piv M k (n-k) k=p at*
   obtain⟨hs',hb',hne⟩:Shp n (if k<p then zdb M p k else M)/\Bnd (bndS A0 k) (if k<p then zdb M p k else M)/\ent (if k<p then zdb M p k else M) k k≠0:=by
    by_cases hkp:k<p
    ·rw[if_pos hkp];obtain⟨g1,g2⟩:=zly hs (p:=p) (k:=k) (by omega) (by omega);exact⟨g1,λi j=>by rw[g2];exact hb _ _,by rw[g2,if_pos rfl];exact hpne⟩
    ·rw[if_neg hkp];have:p=k:=by omega
     subst this;exact⟨hs,hb,hpne⟩
   generalize (if k<p then zdb M p k else M)=M1 at*;have hB1:=hB k (by omega);have hA1:bndS A0 k<=2*(bndS A0 k*bndS A0 k):=mono k;obtain⟨M2,e2,s2,b2⟩:=xzm hl0 hl hB1 (by omega) (n-(k+1)) (k+1) M1 hs' (by omega) (by omega) (λi l=>xZ (hb' i l) hA1) (λl=>hb' k l) (λi=>hb' i k) (λi l _=>hb' i l);obtain⟨_,f2⟩:=qdy (n-(k+1)) (k+1) M1 M2 hs' (by omega) (by omega) e2;have ek:ent M2 k k=ent M1 k k:=by rw[f2,if_neg (by omega)]
   rw[e2,qC];exact ih (k+1) M2 _ _ (by omega) s2 b2 (by rw[ek];exact hne) (by rw[ek];exact xZ (hb' k k) (mono k))
theorem qat{A0:Nat}{M:List (List Int)}(hA0:1<=A0)(hB:∀k,k<=n->2*(bndS A0 k*bndS A0 k)<B)(hs:Shp n M)(hb:Bnd A0 M):∃d,detO B M=some d/\d.natAbs<=bndS A0 n:=by
 unfold detO;rw[hs.len];exact xch hA0 hB n 0 M 1 false (by omega) hs hb (by decide) hA0
theorem zlz{A0:Nat}(hA0:1<=A0):∀k,1<=bndS A0 k:=by
 intro k
 induction k with
 |zero=>exact hA0
 |succ k ih=>have:=xA ih ih;simp only[bndS];omega
theorem qpd{A0:Nat}(hA0:1<=A0):∀m k,bndS A0 k<=bndS A0 (k+m):=by
 intro m
 induction m with
 |zero=>intro k;exact qK _
 |succ m ih=>
  intro k;have:=qN (bndS A0 (k+m)) (zlz hA0 (k+m));refine xZ (ih k) ?_
  show _<=2*(bndS A0 (k+m)*bndS A0 (k+m))
  omega
structure FitN(N B A0:Nat):Prop where
 one:1<=A0
 fit:8*(bndS A0 N*bndS A0 N)<B
theorem FitN.all{N A0:Nat}(h:FitN N B A0){k:Nat}(hk:k<=N):bndS A0 k<=bndS A0 N/\2*(bndS A0 k*bndS A0 k)<B:=by
 have m:=qpd h.one (N-k) k;have e:k+(N-k)=N:=by omega
 rw[e]at m;have:=xA m m;have:=h.fit;exact⟨m,by omega⟩
theorem FitN.lt{N A0:Nat}(h:FitN N B A0):bndS A0 N<B:=by
 have:=qN (bndS A0 N) (zlz h.one N);have:=h.fit;omega
theorem xci{A0:Nat}{M:List (List Int)}(hb:Bnd A0 M)(i j:Nat):Bnd A0 (lamM M i j):=by
 intro s t;rcases qW j s with h | h
 ·have:ent (lamM M i j) s t=0:=by
   unfold ent
   have:(lamM M i j).getD s []=[]:=by
    rw[qZ,xX (by simp[lamM,selM];omega)];rfl
   rw[this];rfl
  rw[this];simp
 ·rcases qW j t with h2 | h2
  ·have:ent (lamM M i j) s t=0:=by
    have hl:=(qaq M i j).row s (by omega);unfold ent;rw[qZ,xX (by omega)];rfl
   rw[this];simp
  ·rw[qap h h2];exact hb _ _
theorem jwr{N A0:Nat}{M:List (List Int)}(hF:FitN N B A0)(hb:Bnd A0 M){i j:Nat}(hj:j<N):∃d,detO B (lamM M i j)=some d/\d.natAbs<=bndS A0 N:=by
 obtain⟨d,h1,h2⟩:=qat (B:=B) hF.one (λk hk=>(hF.all (k:=k) (by omega)).2) (qaq M i j) (xci hb i j);exact⟨d,h1,xZ h2 (hF.all (k:=j+1) (by omega)).1⟩
theorem zur{N A0:Nat}{M:List (List Int)}(hF:FitN N B A0)(hb:Bnd A0 M):∀k,k<=N->∃ds,zeg B M k=some ds/\∀z∈ds,z.natAbs<=bndS A0 N:=by
 intro k
 induction k with
 |zero=>intro _;exact⟨[],rfl,λz h=>by simp at h⟩
 |succ k ih=>
  intro hk;obtain⟨l,h1,h2⟩:=ih (by omega);obtain⟨d,h3,h4⟩:=jwr hF hb (i:=k) (j:=k) (by omega);refine⟨l++[d],?_,λz hz=>?_⟩
  ·simp only[zeg,h1,qC,qxl,h3];rw[zlx (xU h4 hF.lt)];rfl
  ·rcases List.mem_append.1 hz with e | e
   ·exact h2 z e
   ·have:z=d:=by simpa using e
    rw[this];exact h4
theorem ziq{N A0:Nat}(hF:FitN N B A0){ds:List Int}(h:∀z∈ds,z.natAbs<=bndS A0 N)(k:Nat):(zcj ds k).natAbs<=bndS A0 N:=by
 unfold zcj;split
 ·exact zlz hF.one N
 ·rw[qZ];cases e:ds[k-1]? with
  |none=>simp
  |some z=>exact h z (List.mem_of_getElem? e)
theorem qau{N A0:Nat}{M:List (List Int)}(hF:FitN N B A0)(hb:Bnd A0 M){i j:Nat}(hj:j<N):∃l,lamO B M i j=some l/\l.natAbs<=bndS A0 N:=by
 obtain⟨d,h3,h4⟩:=jwr hF hb (i:=i) (j:=j) hj;refine⟨d,?_,h4⟩;unfold lamO;rw[h3,qC,zlx (xU h4 hF.lt)]
theorem qpe{N A0:Nat}{M:List (List Int)}{ds:List Int}(hF:FitN N B A0)(hb:Bnd A0 M){i j:Nat}(hj:j<N):∃b,zqn B M ds i j=some b:=by
 obtain⟨l,h1,h2⟩:=qau hF hb (i:=i) (j:=j) hj;have:=hF.fit;have:=qN (bndS A0 N) (zlz hF.one N);unfold zqn;rw[h1,qC,zlx (by omega)];exact⟨_,rfl⟩
theorem xcj{N A0:Nat}{M:List (List Int)}{ds:List Int}(hF:FitN N B A0)(hb:Bnd A0 M)(hd:∀z∈ds,z.natAbs<=bndS A0 N){i:Nat}(hi:i-1<N):∃b,lovO B M ds i=some b:=by
 obtain⟨l,h1,h2⟩:=qau hF hb (i:=i) (j:=i-1) hi;have hf:=hF.fit;have p:=zdx (ziq hF hd (i-1)) (ziq hF hd (i+1));have q:=zdx h2 h2;have r:=zdx (ziq hF hd i) (ziq hF hd i);unfold lovO;rw[h1,qC,zlx (by omega),qC,zlx (by omega),qC,zlx (by omega),qC,zlx (by omega),qC,zlx (by omega),qC,zlx (by omega)];exact⟨_,rfl⟩
end
end Go.Proofs.YtbjdfanphdfkdaaGreatDoor
namespace Go.Det
theorem zus{a:Nat->Row}{k j c:Nat}(hj:j<k):stg a k j c=0:=by
 unfold stg bord;have hm:a j∈zct a k:=by simp only[zct,List.mem_map,xE];exact⟨j,hj,rfl⟩
 exact qdu (qox _) (qoy _) (L2:=[]) hm
def addG(a:Nat->Row)(i j:Nat)(c:Int):Nat->Row:=λs t=>a s t+(if s=i then c*a j t else 0)+(if t=i then c*a s j else 0)+(if s=i/\t=i then c*c*a j j else 0)
theorem qpf{a:Nat->Row}{i j:Nat}{c:Int}(hji:j<i)(hp:∀t,t<=i->lead a t≠0):∀k,k<=i->(∀t,t<=k->lead (addG a i j c) t=lead a t)/\
  ∀s t,stg (addG a i j c) k s t=stg a k s t+(if s=i then c*stg a k j t else 0)+(if t=i then c*stg a k s j else 0)+(if s=i/\t=i then c*c*stg a k j j else 0):=by
 intro k
 induction k with
 |zero=>
  intro _;refine⟨λt ht=>?_,λs t=>?_⟩
  ·have:t=0:=Nat.le_zero.1 ht;subst this;rfl
  ·simp only[zcb];rfl
 |succ k ih=>
  intro hk;obtain⟨h1,h2⟩:=ih (by omega);have hki:k≠i:=by omega
  have hl:lead (addG a i j c) (k+1)=lead a (k+1):=by
   rw[zau,h2,if_neg hki,if_neg hki,if_neg (λe=>hki e.1),zau];omega
  refine⟨λt ht=>?_,λs t=>?_⟩
  ·rcases qW t (k+1)with e | e
   ·exact h1 t (by omega)
   ·have:t=k+1:=by omega
    rw[this];exact hl
  ·have hne:∀t,t<=k->lead (addG a i j c) t≠0:=λt ht=>by rw[h1 t ht];exact hp t (by omega)
   have hne0:∀t,t<=k->lead a t≠0:=λt ht=>hp t (by omega)
   have e:=zcg hne s t;rw[h1 k (qK _),hl,h2 s t,h2 s k,h2 k t]at e;simp only[hki,and_false,false_and,if_false,qL]at e;have r1:=zcg hne0 s t;have r2:=zcg hne0 j t;have r3:=zcg hne0 s j;have r4:=zcg hne0 j j;refine qY (hp k (by omega)) ?_;rw[e];by_cases hs:s=i
   ·by_cases ht:t=i
    ·subst hs ht;simp only[and_self,if_true];grind
    ·simp only[hs,ht,if_true,if_false,and_false];subst hs;grind
   ·by_cases ht:t=i
    ·simp only[hs,ht,if_true,if_false,false_and];subst ht;grind
    ·simp only[hs,ht,if_false,false_and];grind
theorem qea{a:Nat->Row}{i j n:Nat}{c:Int}(hji:j<i)(hp:∀t,t<=n->lead a t≠0)(hin:i<=n):∀m,i+m<=n->(∀t,t<=i+m->lead (addG a i j c) t=lead a t)/\∀s t,stg (addG a i j c) (i+m) s t=stg a (i+m) s t:=by
 intro m
 induction m with
 |zero=>
  intro _;obtain⟨h1,h2⟩:=qpf (c:=c) hji (λt ht=>hp t (by omega)) i (qK _);refine⟨h1,λs t=>?_⟩;have z1:∀t,stg a i j t=0:=λt=>zus hji
  have z2:∀s,stg a i s j=0:=λs=>zuq (λt ht=>hp t (by omega)) s j hji
  rw[Nat.add_zero,h2,z1,z1,z2];simp
 |succ m ih=>
  intro hm;obtain⟨h1,h2⟩:=ih (by omega);have hl:lead (addG a i j c) (i+m+1)=lead a (i+m+1):=by rw[zau,h2,zau]
  refine⟨λt ht=>?_,λs t=>?_⟩
  ·rcases qW t (i+m+1)with e | e
   ·exact h1 t (by omega)
   ·have:t=i+m+1:=by omega
    rw[this];exact hl
  ·have hne:∀t,t<=i+m->lead (addG a i j c) t≠0:=λt ht=>by rw[h1 t ht];exact hp t (by omega)
   have hne0:∀t,t<=i+m->lead a t≠0:=λt ht=>hp t (by omega)
   have e:=zcg hne s t;rw[h1 _ (qK _),hl,h2,h2,h2,<-zcg hne0 s t]at e;exact qY (hne0 _ (qK _)) e
theorem zma{a:Nat->Row}{i j n:Nat}{c:Int}(hji:j<i)(hin:i<n)(hp:∀t,t<=n->lead a t≠0){t:Nat}(ht:t<=n):lead (addG a i j c) t=lead a t:=by
 have:=(qea (c:=c) hji hp (by omega) (n-i) (by omega)).1 t (by omega);exact this
theorem xck{a:Nat->Row}{i j n:Nat}{c:Int}(hji:j<i)(hin:i<n)(hp:∀t,t<=n->lead a t≠0){s t:Nat}(hts:t<s)(hs:s<n):
  stg (addG a i j c) t s t=stg a t s t+if s=i then(if t<=j then c*stg a t j t else 0)else 0:=by
 rcases qW t i with hlt | hge
 ·rw[(qpf (c:=c) hji (λt ht=>hp t (by omega)) t (by omega)).2 s t];rw[if_neg (show¬t=i by omega),if_neg (show¬(s=i/\t=i) by omega)];by_cases e:s=i
  ·rw[if_pos e,if_pos e];by_cases h:t<=j
   ·rw[if_pos h];omega
   ·rw[if_neg h,zus (show j<t by omega)];simp
  ·rw[if_neg e,if_neg e];omega
 ·obtain⟨m,rfl⟩:∃m,t=i+m:=⟨t-i,by omega⟩
  rw[(qea (c:=c) hji hp (by omega) m (by omega)).2 s (i+m),if_neg (by omega)];omega
def sw(p:Nat)(s:Nat):Nat:=if s=p then p+1 else if s=p+1 then p else s
theorem qhk{p s:Nat}(h1:s≠p)(h2:s≠p+1):sw p s=s:=by unfold sw;rw[if_neg h1,if_neg h2]
theorem sw_p{p:Nat}:sw p p=p+1:=by unfold sw;rw[if_pos rfl]
theorem sw_q{p:Nat}:sw p (p+1)=p:=by unfold sw;rw[if_neg (by omega),if_pos rfl]
def swG(a:Nat->Row)(p:Nat):Nat->Row:=λs t=>a (sw p s) (sw p t)
theorem qpg{a:Nat->Row}{p:Nat}(hp:∀t,t<=p->lead a t≠0):∀k,k<=p->(∀t,t<=k->lead (swG a p) t=lead a t)/\∀s t,stg (swG a p) k s t=stg a k (sw p s) (sw p t):=by
 intro k
 induction k with
 |zero=>
  intro _;refine⟨λt ht=>?_,λs t=>by simp only[zcb];rfl⟩;have:t=0:=Nat.le_zero.1 ht;subst this;rfl
 |succ k ih=>
  intro hk;obtain⟨h1,h2⟩:=ih (by omega);have hkk:sw p k=k:=qhk (by omega) (by omega);have hl:lead (swG a p) (k+1)=lead a (k+1):=by rw[zau,h2,hkk,zau]
  refine⟨λt ht=>?_,λs t=>?_⟩
  ·rcases qW t (k+1)with e | e
   ·exact h1 t (by omega)
   ·have:t=k+1:=by omega
    rw[this];exact hl
  ·have hne:∀t,t<=k->lead (swG a p) t≠0:=λt ht=>by rw[h1 t ht];exact hp t (by omega)
   have hne0:∀t,t<=k->lead a t≠0:=λt ht=>hp t (by omega)
   have e:=zcg hne s t;rw[h1 k (qK _),hl,h2,h2,h2,hkk,<-zcg hne0]at e;exact qY (hp k (by omega)) e
theorem xzn{a:Nat->Row}{n p:Nat}(hs:∀i j,i<n->j<n->a i j=a j i)(hpn:p+1<n)(hp:∀t,t<=p+1->lead a t≠0):
  lead a (p+1)*lead (swG a p) (p+1)=lead a p*lead a (p+2)+stg a p (p+1) p*stg a p (p+1) p:=by
 have h2:=(qpg (λt ht=>hp t (by omega)) p (qK _)).2;have r:=zcg (a:=a) (k:=p) (λt ht=>hp t (by omega)) (p+1) (p+1);have sy:=znc hs p (by omega) (λt ht=>hp t (by omega)) p (p+1) (by omega) hpn (qK _) (by omega);rw[zau (swG a p) p,h2,sw_p,zau a (p+1)];rw[sy]at r;omega
theorem dd(d U V W Z:Int):d*d*(U*V-W*Z)=d*U*(d*V)-d*W*(d*Z):=by grind
theorem kqq(a11 a12 a21 a22 a1t a2t as1 as2 ast:Int):(a11*a22-a21*a12)*(a11*ast-as1*a1t)-(a11*as2-as1*a12)*(a11*a2t-a21*a1t)=a11*(a11*(a22*ast-as2*a2t)-a12*(a21*ast-as1*a2t)+a1t*(a21*as2-as1*a22)):=by grind
theorem kqr(a11 a12 a21 a22 a1t a2t as1 as2 ast:Int):(a11*a22-a21*a12)*(a22*ast-as2*a2t)-(a22*as1-as2*a21)*(a22*a1t-a12*a2t)=a22*(a11*(a22*ast-as2*a2t)-a12*(a21*ast-as1*a2t)+a1t*(a21*as2-as1*a22)):=by grind
theorem mlc(u d x:Int):u*(d*d*x)=d*d*(u*x):=by grind
theorem xcl{a:Nat->Row}{n p:Nat}(hs:∀i j,i<n->j<n->a i j=a j i)(hpn:p+1<n)(hp:∀t,t<=n->lead a t≠0)(hm:lead (swG a p) (p+1)≠0):
  ∀m,p+2+m<=n->(∀t,t<=p+2+m->t≠p+1->lead (swG a p) t=lead a t)/\∀s t,stg (swG a p) (p+2+m) s t=stg a (p+2+m) (sw p s) (sw p t):=by
 have ne0:∀{k},k<=n->∀t,t<=k->lead a t≠0:=λhk t ht=>hp t (by omega)
 obtain⟨l1,l2⟩:=qpg (a:=a) (p:=p) (ne0 (by omega)) p (qK _);have np:∀t,t<=p->lead (swG a p) t≠0:=λt ht=>by rw[l1 t ht];exact hp t (by omega)
 have np1:∀t,t<=p+1->lead (swG a p) t≠0:=λt ht=>by
  rcases qW t (p+1)with e | e
  ·exact np t (by omega)
  ·have:t=p+1:=by omega
   rw[this];exact hm
 have e1:lead (swG a p) (p+1)=stg a p (p+1) (p+1):=by rw[zau,l2,sw_p]
 have dp:lead a (p+1)=stg a p p p:=zau a p;have A:∀s t,lead a p*stg a (p+1) s t=stg a p p p*stg a p s t-stg a p s p*stg a p p t:=λs t=>by rw[<-dp];exact zcg (ne0 (by omega)) s t
 have B:∀s t,lead a p*stg (swG a p) (p+1) s t=stg a p (p+1) (p+1)*stg a p (sw p s) (sw p t)-stg a p (sw p s) (p+1)*stg a p (p+1) (sw p t):=λs t=>by
  have:=zcg np s t;rw[l1 p (qK _),e1,l2,l2,l2,sw_p]at this;exact this
 have q2:lead (swG a p) (p+2)=lead a (p+2):=by
  rw[zau (swG a p) (p+1),zau a (p+1)];refine qY (hp p (by omega)) ?_;rw[A,B,sw_q];grind
 intro m
 induction m with
 |zero=>
  intro _;refine⟨λt ht hne=>?_,λs t=>?_⟩
  ·rcases qW t (p+1)with e | e
   ·exact l1 t (by omega)
   ·have:t=p+2:=by omega
    rw[this];exact q2
  ·have ra:=zcg (a:=a) (k:=p+1) (ne0 (by omega)) (sw p s) (sw p t);have rb:=zcg np1 s t;rw[q2,e1]at rb;rw[dp]at ra;have x1:=A (sw p s) (sw p t);have x2:=A (sw p s) (p+1);have x3:=A (p+1) (sw p t);have x4:=A (p+1) (p+1);have y1:=B s t;have y2:=B s (p+1);have y3:=B (p+1) t;rw[sw_q]at y2 y3;have hd2:=zau a (p+1);rw[hd2]at ra rb
   have key:lead a p*lead a p*stg (swG a p) (p+2) s t=lead a p*lead a p*stg a (p+2) (sw p s) (sw p t):=by
    have ka:stg a p p p*(lead a p*lead a p*stg a (p+1+1) (sw p s) (sw p t))=stg a p p p*(stg a p p p*(stg a p (p+1) (p+1)*stg a p (sw p s) (sw p t)-stg a p (sw p s) (p+1)*stg a p (p+1) (sw p t))-stg a p p (p+1)*(stg a p (p+1) p*stg a p (sw p s) (sw p t)-stg a p (sw p s) p*stg a p (p+1) (sw p t))+stg a p p (sw p t)*(stg a p (p+1) p*stg a p (sw p s) (p+1)-stg a p (sw p s) p*stg a p (p+1) (p+1))):=by
     rw[mlc,ra,dd,x1,x2,x3,x4,kqq]
    have kb:stg a p (p+1) (p+1)*(lead a p*lead a p*stg (swG a p) (p+1+1) s t)=stg a p (p+1) (p+1)*(stg a p p p*(stg a p (p+1) (p+1)*stg a p (sw p s) (sw p t)-stg a p (sw p s) (p+1)*stg a p (p+1) (sw p t))-stg a p p (p+1)*(stg a p (p+1) p*stg a p (sw p s) (sw p t)-stg a p (sw p s) p*stg a p (p+1) (sw p t))+stg a p p (sw p t)*(stg a p (p+1) p*stg a p (sw p s) (p+1)-stg a p (sw p s) p*stg a p (p+1) (p+1))):=by
     rw[mlc,rb,dd,x4,y1,y2,y3,kqr]
    have n1:stg a p p p≠0:=by rw[<-dp];exact hp (p+1) (by omega)
    have n2:stg a p (p+1) (p+1)≠0:=by rw[<-e1];exact hm
    exact(qY n2 kb).trans (qY n1 ka).symm
   have h0:=hp p (by omega);exact qY (Int.mul_ne_zero h0 h0) key
 |succ m ih=>
  intro hm';obtain⟨h1,h2⟩:=ih (by omega);have hk:sw p (p+2+m)=p+2+m:=qhk (by omega) (by omega);have hl:lead (swG a p) (p+2+m+1)=lead a (p+2+m+1):=by rw[zau,h2,hk,zau]
  refine⟨λt ht hne=>?_,λs t=>?_⟩
  ·rcases qW t (p+2+m+1)with e | e
   ·exact h1 t (by omega) hne
   ·have:t=p+2+m+1:=by omega
    rw[this];exact hl
  ·have hne:∀t,t<=p+2+m->lead (swG a p) t≠0:=λt ht=>by
    rcases qW t (p+2)with e | e
    ·exact np1 t (by omega)
    ·rw[h1 t ht (by omega)];exact hp t (by omega)
   have e:=zcg hne s t;rw[h1 _ (qK _) (by omega),hl,h2,h2,h2,hk,<-zcg (ne0 (by omega))]at e;exact qY (hp _ (by omega)) e
theorem xcm{a:Nat->Row}{n p:Nat}(hs:∀i j,i<n->j<n->a i j=a j i)(hpn:p+1<n)(hp:∀t,t<=n->0<lead a t)(hlov:¬3*(lead a (p+1)*lead a (p+1))<=4*(lead a p*lead a (p+2)+stg a p (p+1) p*stg a p (p+1) p)):
  (∀t,t<=n->t≠p+1->lead (swG a p) t=lead a t)/\0<lead (swG a p) (p+1)/\lead (swG a p) (p+1)<lead a (p+1):=by
 have hne:∀t,t<=n->lead a t≠0:=λt ht=>by have:=hp t ht;omega
 have mid:=xzn hs hpn (λt ht=>hne t (by omega));have p0:=hp p (by omega);have p1:=hp (p+1) (by omega);have p2:=hp (p+2) (by omega);have m1:=xK p0 p2
 have m2:0<=stg a p (p+1) p*stg a p (p+1) p:=by
  rcases Int.le_total 0 (stg a p (p+1) p)with h | h
  ·exact qV h h
  ·exact xJ h h
 have pm:0<lead (swG a p) (p+1):=by
  have:0<lead a (p+1)*lead (swG a p) (p+1):=by omega
  rcases(by omega:lead (swG a p) (p+1)<=0\/0<lead (swG a p) (p+1))with h | h
  ·have:=qX h (show 0<=lead a (p+1) by omega);omega
  ·exact h
 refine⟨λt ht hne2=>?_,pm,?_⟩
 ·rcases qW t (p+2)with e | e
  ·exact(qpg (λt ht=>hne t (by omega)) p (qK _)).1 t (by omega)
  ·exact(xcl hs hpn hne (by omega) (n-(p+2)) (by omega)).1 t (by omega) hne2
 ·have h1:lead a (p+1)*lead (swG a p) (p+1)<lead a (p+1)*lead a (p+1):=by
   have:=xK p1 p1;omega
  exact Int.lt_of_mul_lt_mul_left h1 (by omega)
structure Pos(n:Nat)(D:Int)(a:Nat->Row):Prop where
 sym:∀i j,i<n->j<n->a i j=a j i
 pos:∀k,k<=n->0<lead a k
 le:∀k,k<=n->lead a k<=D
section
variable{n:Nat}{D:Int}{a:Nat->Row}
theorem Pos.ne(h:Pos n D a){k:Nat}(hk:k<=n):∀t,t<=k->lead a t≠0:=λt ht=>by have:=h.pos t (by omega);omega
theorem Pos.sq(h:Pos n D a){s k:Nat}(hs:s<n)(hk:k<s):lead a k*stg a (k+1) s s=lead a (k+1)*stg a k s s-stg a k s k*stg a k s k:=by
 have e:=zcg (h.ne (k:=k) (by omega)) s s;rw[znc h.sym k (by omega) (h.ne (by omega)) k s (by omega) hs (qK _) (by omega)]at e;exact e
theorem zek(x:Int):0<=x*x:=by
 rcases Int.le_total 0 x with h | h
 ·exact qV h h
 ·exact xJ h h
theorem qhl{x y:Int}(hx:0<x)(h:0<x*y):0<y:=by
 rcases(by omega:y<=0\/0<y)with h2 | h2
 ·have:=qX h2 (show 0<=x by omega);omega
 ·exact h2
theorem Pos.diag(h:Pos n D a){s:Nat}(hs:s<n):∀m k,k+m=s->0<stg a k s s:=by
 intro m
 induction m with
 |zero=>
  intro k hk;have:k=s:=by omega
  subst this;rw[<-zau];exact h.pos _ (by omega)
 |succ m ih=>
  intro k hk;have e:=h.sq hs (show k<s by omega);have h1:=ih (k+1) (by omega);have h2:=xK (h.pos k (by omega)) h1;have h3:=zek (stg a k s k);exact qhl (h.pos (k+1) (by omega)) (by omega)
theorem Pos.down(h:Pos n D a){s:Nat}(hs:s<n):∀k,k<=s->stg a k s s<=lead a k*a s s:=by
 intro k
 induction k with
 |zero=>intro _;rw[zcb,zav];omega
 |succ k ih=>
  intro hk;have e:=h.sq hs (show k<s by omega);have h3:=zek (stg a k s k);have h1:=qX (ih (by omega)) (show 0<=lead a (k+1) by have:=h.pos (k+1) (by omega);omega)
  have h2:lead a k*stg a (k+1) s s<=lead a k*(lead a (k+1)*a s s):=by
   have:lead a (k+1)*(lead a k*a s s)=lead a k*(lead a (k+1)*a s s):=by grind
   omega
  exact qA h2 (h.pos k (by omega))
theorem Pos.lam_sq(h:Pos n D a){s k:Nat}(hs:s<n)(hk:k<s):stg a k s k*stg a k s k<=lead a (k+1)*(lead a k*a s s):=by
 have e:=h.sq hs hk;have h1:=xK (h.pos k (by omega)) (h.diag hs (s-(k+1)) (k+1) (by omega));have h2:=qX (h.down hs k (by omega)) (show 0<=lead a (k+1) by have:=h.pos (k+1) (by omega);omega);omega
theorem zir{x m:Int}(hm:0<=m)(h:x*x<=m*m):x<=m/\ -m<=x:=by
 constructor
 ·rcases(by omega:x<=m\/m<x)with h1 | h1
  ·exact h1
  ·have h2:=qX (show m+1<=x by omega) (show 0<=x by omega);have h3:=qJ (show m+1<=x by omega) (show 0<=m+1 by omega);have e1:(m+1)*(m+1)=m*m+2*m+1:=by grind
   have e2:x*(m+1)=(m+1)*x:=xW _ _;omega
 ·rcases(by omega: -m<=x\/x< -m)with h1 | h1
  ·exact h1
  ·have h2:=qX (show m+1<= -x by omega) (show 0<= -x by omega);have h3:=qJ (show m+1<= -x by omega) (show 0<=m+1 by omega);have e1:(m+1)*(m+1)=m*m+2*m+1:=by grind
   have e2: -x*(m+1)=(m+1)* -x:=xW _ _;have e3: -x* -x=x*x:=by grind
   omega
theorem Pos.one(h:Pos n D a):1<=D:=by have:=h.le 0 (by omega);rw[zav]at this;omega
theorem Pos.lam_le(h:Pos n D a){s k:Nat}{K:Int}(hs:s<n)(hk:k<s)(hK:a s s<=K)(hK1:1<=K):stg a k s k<=lead a (k+1)*(K*D)/\ -(lead a (k+1)*(K*D))<=stg a k s k:=by
 have p1:=h.pos (k+1) (by omega);have p0:=h.pos k (by omega);have l0:=h.le k (by omega);have hD:=h.one;have hKD:1<=K*D:=by have:=qX hD (show 0<=K by omega);omega
 refine zir (qV (by omega) (by omega)) ?_;have q:=h.lam_sq hs hk
 have q1:lead a k*a s s<=D*K:=by
  have m1:=qX hK (show 0<=lead a k by omega);have m2:=qJ l0 (show 0<=K by omega);omega
 have q2:=qX q1 (show 0<=lead a (k+1) by omega);have c:D*K=K*D:=xW _ _
 have q3:lead a (k+1)*(K*D)<=(lead a (k+1)*(K*D))*(lead a (k+1)*(K*D)):=by
  have z:1<=lead a (k+1)*(K*D):=by have:=qX hKD (show 0<=lead a (k+1) by omega);omega
  have:=qX z (show 0<=lead a (k+1)*(K*D) by omega);omega
 rw[c]at q2;omega
theorem Pos.norm_le(h:Pos n D a){s:Nat}(hs:s<n){m:Int}(hl:∀k,k<s->stg a k s k<=lead a (k+1)*m/\ -(lead a (k+1)*m)<=stg a k s k):∀c k,k+c=s->stg a k s s<=lead a k*(D+(c:Int)*(D*(m*m))):=by
 intro c
 induction c with
 |zero=>
  intro k hk;have:k=s:=by omega
  subst this;rw[<-zau];have h1:=h.le (k+1) (by omega);have h0:=h.pos k (by omega);have:=qJ (show(1:Int)<=lead a k by omega) (show 0<=D by have:=h.one;omega);have e:lead a k*(D+((0:Nat):Int)*(D*(m*m)))=lead a k*D:=by simp
  omega
 |succ c ih=>
  intro k hk;have e:=h.sq hs (show k<s by omega);have i1:=ih (k+1) (by omega);obtain⟨l1,l2⟩:=hl k (by omega);have q:=xzk l1 l2;have p0:=h.pos k (by omega);have p1:=h.pos (k+1) (by omega);have d1:=h.le (k+1) (by omega);have m1:=qX i1 (show 0<=lead a k by omega);have mm:=zek m
  have x1:lead a (k+1)*(lead a (k+1)*(m*m))<=lead a (k+1)*(lead a k*(D*(m*m))):=by
   refine qX ?_ (by omega);have y1:=qJ d1 mm;have y2:=qJ (show(1:Int)<=lead a k by omega) (qV (show 0<=D by omega) mm);omega
  have z:lead a (k+1)*stg a k s s<=lead a (k+1)*(lead a k*(D+((c+1:Nat):Int)*(D*(m*m)))):=by
   have e1:lead a (k+1)*m*(lead a (k+1)*m)=lead a (k+1)*(lead a (k+1)*(m*m)):=by grind
   have e2:lead a k*(lead a (k+1)*(D+(c:Int)*(D*(m*m))))=lead a (k+1)*(lead a k*(D+(c:Int)*(D*(m*m)))):=by grind
   have e3:lead a (k+1)*(lead a k*(D+((c+1:Nat):Int)*(D*(m*m))))=lead a (k+1)*(lead a k*(D+(c:Int)*(D*(m*m))))+lead a (k+1)*(lead a k*(D*(m*m))):=by
    have:((c+1:Nat):Int)=(c:Int)+1:=by omega
    rw[this];grind
   omega
  exact qA z p1
theorem Pos.norm(h:Pos n D a){s:Nat}(hs:s<n){m:Int}(hl:∀k,k<s->stg a k s k<=lead a (k+1)*m/\ -(lead a (k+1)*m)<=stg a k s k):a s s<=D+(s:Int)*(D*(m*m)):=by
 have:=h.norm_le hs hl s 0 (by omega);rw[zcb,zav]at this;omega
theorem Pos.entry(h:Pos n D a){s t:Nat}(hs:s<n)(ht:t<=s):∀m k,k+m=t->2*stg a k s t<=stg a k s s+stg a k t t/\ -(2*stg a k s t)<=stg a k s s+stg a k t t:=by
 intro m
 induction m with
 |zero=>
  intro k hk;have hkt:k=t:=by omega
  subst hkt;rcases qW k s with h1 | h1
  ·have e:=h.sq hs h1;have p:=xK (h.pos k (by omega)) (h.diag hs (s-(k+1)) (k+1) (by omega));have d:=zau a k;rw[d]at e;have p1:=h.diag hs (s-k) k (by omega);have p2:0<stg a k k k:=by rw[<-d];exact h.pos _ (by omega)
   have q:2*stg a k s k*(2*stg a k s k)<=(stg a k s s+stg a k k k)*(stg a k s s+stg a k k k):=by
    have w:=zek (stg a k s s-stg a k k k);have e1:(stg a k s s-stg a k k k)*(stg a k s s-stg a k k k)=(stg a k s s+stg a k k k)*(stg a k s s+stg a k k k)-4*(stg a k k k*stg a k s s):=by grind
    have e2:2*stg a k s k*(2*stg a k s k)=4*(stg a k s k*stg a k s k):=by grind
    omega
   have:=zir (by omega) q;omega
  ·have:k=s:=by omega
   subst this;have:=h.diag hs 0 k (by omega);omega
 |succ m ih=>
  intro k hk;obtain⟨i1,i2⟩:=ih (k+1) (by omega);have e1:=h.sq hs (show k<s by omega);have e2:=h.sq (show t<n by omega) (show k<t by omega);have hn:=h.ne (k:=k) (by omega);have e3:=zcg hn s t;rw[znc h.sym k (by omega) hn k t (by omega) (by omega) (qK _) (by omega)]at e3;have p0:=h.pos k (by omega);have p1:=h.pos (k+1) (by omega);have w1:=zek (stg a k s k-stg a k t k);have w2:=zek (stg a k s k+stg a k t k);have f1:(stg a k s k-stg a k t k)*(stg a k s k-stg a k t k)=stg a k s k*stg a k s k+stg a k t k*stg a k t k-2*(stg a k s k*stg a k t k):=by grind
  have f2:(stg a k s k+stg a k t k)*(stg a k s k+stg a k t k)=stg a k s k*stg a k s k+stg a k t k*stg a k t k+2*(stg a k s k*stg a k t k):=by grind
  have m1:=qX i1 (show 0<=lead a k by omega);have m2:=qX i2 (show 0<=lead a k by omega);have g1:lead a k*(2*stg a (k+1) s t)=2*(lead a k*stg a (k+1) s t):=by grind
  have g2:lead a k*(-(2*stg a (k+1) s t))= -(2*(lead a k*stg a (k+1) s t)):=by grind
  have g3:lead a k*(stg a (k+1) s s+stg a (k+1) t t)=lead a k*stg a (k+1) s s+lead a k*stg a (k+1) t t:=by grind
  have c1:lead a (k+1)*(2*stg a k s t)<=lead a (k+1)*(stg a k s s+stg a k t t):=by
   have h1:lead a (k+1)*(2*stg a k s t)=2*(lead a (k+1)*stg a k s t):=by grind
   have h2:lead a (k+1)*(stg a k s s+stg a k t t)=lead a (k+1)*stg a k s s+lead a (k+1)*stg a k t t:=by grind
   omega
  have c2:lead a (k+1)*(-(2*stg a k s t))<=lead a (k+1)*(stg a k s s+stg a k t t):=by
   have h1:lead a (k+1)*(-(2*stg a k s t))= -(2*(lead a (k+1)*stg a k s t)):=by grind
   have h2:lead a (k+1)*(stg a k s s+stg a k t t)=lead a (k+1)*stg a k s s+lead a (k+1)*stg a k t t:=by grind
   omega
  exact⟨qA c1 p1,qA c2 p1⟩
theorem Pos.bound(h:Pos n D a){K:Int}(hK:∀s,s<n->a s s<=K){s t:Nat}(hs:s<n)(ht:t<n):a s t<=K/\ -K<=a s t:=by
 have key:∀s t,s<n->t<=s->a s t<=K/\ -K<=a s t:=by
  intro s t hs ht;have:=h.entry hs ht t 0 (by omega);simp only[zcb]at this;have:=hK s hs;have:=hK t (by omega);omega
 rcases Nat.le_total t s with h1 | h1
 ·exact key s t hs h1
 ·rw[h.sym s t hs ht];exact key t s ht h1
end
def SZ(a:Nat->Row)(i j:Nat):Prop:=2*stg a j i j<=lead a (j+1)/\ -(2*stg a j i j)<=lead a (j+1)
def LV(a:Nat->Row)(i:Nat):Prop:=3*(lead a i*lead a i)<=4*(lead a (i-1)*lead a (i+1)+stg a (i-1) i (i-1)*stg a (i-1) i (i-1))
def OKr(a:Nat->Row)(i:Nat):Prop:=(∀j,j<i->SZ a i j)/\(0<i->LV a i)
structure CurA(n:Nat)(a:Nat->Row)(i j:Nat):Prop where
 hi:i<n
 hj:j<i
 pre:∀s,s<i->OKr a s
 up:∀l,j<l->l<i->SZ a i l
 no:¬SZ a i j
structure CurS(n:Nat)(a:Nat->Row)(i:Nat):Prop where
 hi:i<n
 h0:0<i
 pre:∀s,s<i->OKr a s
 up:∀l,l<i->SZ a i l
 no:¬LV a i
structure Good(n:Nat)(D K:Int)(a:Nat->Row):Prop where
 cA:∀i j,CurA n a i j->(∀s,s<n->s≠i->a s s<=K)/\∀l,l<=j->stg a l i l<=lead a (l+1)*(2^(i-1-j)*(K*D))/\ -(lead a (l+1)*(2^(i-1-j)*(K*D)))<=stg a l i l
 cS:∀i,CurS n a i->∀s,s<n->a s s<=K
 cE:(∀i,i<n->OKr a i)->∀s,s<n->a s s<=K
section
variable{n:Nat}{D K:Int}{a:Nat->Row}
theorem zut(e:Nat):(1:Int)<=2^e:=by
 induction e with
 |zero=>decide
 |succ e ih=>rw[qT];omega
theorem zxu{e f:Nat}(h:e<=f):(2:Int)^e<=2^f:=by
 induction f with
 |zero=>
  have:e=0:=by omega
  subst this;exact qS _
 |succ f ih=>
  rcases qW e (f+1)with h1 | h1
  ·have:=ih (by omega);have:=zut f;rw[qT];omega
  ·have:e=f+1:=by omega
   rw[this];exact qS _
theorem zuu(h:Pos n D a)(hK:1<=K)(ha:∀s,s<n->a s s<=K):Good n D K a:=by
 refine⟨λi j c=>⟨λs hs _=>ha s hs,λl hl=>?_⟩,λ_ _=>ha,λ_=>ha⟩;have:=h.lam_le c.hi (show l<i by have:=c.hj;omega) (ha i c.hi) hK;have p:=h.pos (l+1) (by have:=c.hj;have:=c.hi;omega);have hKD:0<=K*D:=qV (by omega) (by have:=h.one;omega)
 have q:lead a (l+1)*(K*D)<=lead a (l+1)*(2^(i-1-j)*(K*D)):=by
  refine qX ?_ (by omega);have:=qJ (zut (i-1-j)) hKD;omega
 omega
theorem xcn(h:Pos n D a)(h8:n<=8)(hKD:8*D<=K){s:Nat}(hs:s<n)(hz:∀l,l<s->SZ a s l):a s s<=K:=by
 have:=h.norm hs (m:=1) (λk hk=>by
  obtain⟨z1,z2⟩:=hz k hk;have:=h.pos (k+1) (by omega);omega)
 have e:(D:Int)*(1*1)=D:=by omega
 rw[e]at this;have hD:=h.one;have:(s:Int)*D<=7*D:=qJ (by omega) (by omega);omega
theorem xco{i j:Nat}{c:Int}(h:Pos n D a)(hi:i<n)(hj:j<i):Pos n D (addG a i j c):=by
 have hn:=h.ne (k:=n) (qK _);refine⟨λs t hs ht=>?_,λk hk=>by rw[zma hj hi hn hk];exact h.pos k hk,λk hk=>by rw[zma hj hi hn hk];exact h.le k hk⟩;unfold addG;rw[h.sym s t hs ht,h.sym j t (by omega) ht,h.sym s j hs (by omega)];have e:(s=i/\t=i)↔(t=i/\s=i):=And.comm;simp only[e];omega
theorem qeb{i j:Nat}{c:Int}(h:Pos n D a)(h8:n<=8)(hK:1<=K)(hKD:8*D<=K)(hc:CurA n a i j)(hg:Good n D K a)(hz:2*(stg a j i j+c*lead a (j+1))<=lead a (j+1)/\ -(2*(stg a j i j+c*lead a (j+1)))<=lead a (j+1)):
  (c<=2^(i-1-j)*(K*D)/\ -(2^(i-1-j)*(K*D))<=c)/\Pos n D (addG a i j c)/\Good n D K (addG a i j c)/\
   (∀i' j',CurA n (addG a i j c) i' j'->i<=i'/\(i'=i->j'<j))/\∀i',CurS n (addG a i j c) i'->i<=i':=by
 have hi:=hc.hi;have hj:=hc.hj;have hn:=h.ne (k:=n) (qK _);have hp':=xco (c:=c) h hi hj;obtain⟨g1,g2⟩:=hg.cA i j hc
 have hM:1<=2^(i-1-j)*(K*D):=by
  have h1:=zut (i-1-j);have h2:1<=K*D:=by have:=qX h.one (show 0<=K by omega);omega
  have:=qX h2 (show(0:Int)<=2^(i-1-j) by omega);omega
 have hcb:c<=2^(i-1-j)*(K*D)/\ -(2^(i-1-j)*(K*D))<=c:=by
  obtain⟨b1,b2⟩:=g2 j (qK _);have p:=h.pos (j+1) (by omega);generalize 2^(i-1-j)*(K*D)=M at*;generalize lead a (j+1)=d at*
  have t1:d*(2*c)<=d*(2*M+1):=by
   have e1:d*(2*c)=2*(c*d):=by grind
   have e2:d*(2*M+1)=2*(d*M)+d:=by grind
   omega
  have t2:d*(-(2*c))<=d*(2*M+1):=by
   have e1:d*(-(2*c))= -(2*(c*d)):=by grind
   have e2:d*(2*M+1)=2*(d*M)+d:=by grind
   omega
  have u1:=qA t1 p;have u2:=qA t2 p;omega
 have lam:∀s t,t<s->s<n->stg (addG a i j c) t s t=stg a t s t+if s=i then(if t<=j then c*stg a t j t else 0)else 0:=λs t h1 h2=>xck hj hi hn h1 h2
 have ld:∀t,t<=n->lead (addG a i j c) t=lead a t:=λt ht=>zma hj hi hn ht
 have szk:∀s l,l<s->s<n->s≠i->(SZ (addG a i j c) s l↔SZ a s l):=λs l h1 h2 h3=>by
  unfold SZ;rw[lam s l h1 h2,if_neg h3,ld _ (by omega),qL]
 have lvk:∀s,0<s->s<n->s≠i->(LV (addG a i j c) s↔LV a s):=λs h1 h2 h3=>by
  unfold LV;rw[lam s (s-1) (by omega) h2,if_neg h3,ld _ (by omega),ld _ (by omega),ld _ (by omega),qL]
 have dg:∀s,s≠i->(addG a i j c) s s=a s s:=λs hs=>by
  unfold addG;rw[if_neg hs,if_neg hs,if_neg (λe=>hs e.1)];omega
 have low:∀i' j',CurA n (addG a i j c) i' j'->i<=i'/\(i'=i->j'<j):=by
  intro i' j' hc';refine⟨xO λhlt=>?_,λe=>?_⟩
  ·have:=(hc.pre i' hlt).1 j' hc'.hj;exact hc'.no ((szk i' j' hc'.hj hc'.hi (by omega)).2 this)
  ·subst e;refine xM λhle=>?_
   have hj':=hc'.hj;apply hc'.no;unfold SZ;rw[lam i' j' hj' hi,if_pos rfl,ld _ (by omega)];rcases qW j j' with h1 | h1
   ·rw[if_neg (by omega),qL];exact hc.up j' h1 hj'
   ·have:j'=j:=by omega
    subst this;rw[if_pos (qK _),<-zau];exact hz
 have lowS:∀i',CurS n (addG a i j c) i'->i<=i':=by
  intro i' hc';refine xO λhlt=>?_
  have:=(hc.pre i' hlt).2 hc'.h0;exact hc'.no ((lvk i' hc'.h0 hc'.hi (by omega)).2 this)
 have done:(∀l,l<i->SZ (addG a i j c) i l)->∀s,s<n->(addG a i j c) s s<=K:=by
  intro hz' s hs;by_cases e:s=i
  ·subst e;exact xcn hp' h8 hKD hs hz'
  ·rw[dg s e];exact g1 s hs e
 refine⟨hcb,hp',⟨λi' j' hc'=>?_,λi' hc'=>?_,λhall=>done (hall i hi).1⟩,low,lowS⟩
 ·obtain⟨l1,l2⟩:=low i' j' hc';by_cases e:i'=i
  ·subst e;have hlt:=l2 rfl;refine⟨λs hs hne=>by rw[dg s hne];exact g1 s hs hne,λl hl=>?_⟩;obtain⟨b1,b2⟩:=g2 l (by omega);obtain⟨z1,z2⟩:=(hc.pre j hj).1 l (by omega);have p:=h.pos (l+1) (by omega);rw[lam i' l (by omega) hi,if_pos rfl,if_pos (by omega),ld _ (by omega)];have m:=qao hcb.1 hcb.2 z1 (by omega);have e2:c*(2*stg a l j l)=2*(c*stg a l j l):=by grind
   rw[e2]at m
   have pw:(2:Int)^(i'-1-j)*2<=2^(i'-1-j'):=by
    rw[<-qT];exact zxu (by omega)
   have hKD0:0<=K*D:=qV (by omega) (by have:=h.one;omega);have pw2:=qJ pw hKD0;have pw3:=qX pw2 (show 0<=lead a (l+1) by omega);have e3:lead a (l+1)*(2^(i'-1-j)*2*(K*D))=2*(lead a (l+1)*(2^(i'-1-j)*(K*D))):=by grind
   have e4:2^(i'-1-j)*(K*D)*lead a (l+1)=lead a (l+1)*(2^(i'-1-j)*(K*D)):=xW _ _;have pp:=qV (show 0<=lead a (l+1) by omega) (show 0<=2^(i'-1-j)*(K*D) by omega);rw[e3]at pw3;rw[e4]at m;omega
  ·have hlt:i<i':=by omega
   have hall:=done (hc'.pre i hlt).1;exact(zuu hp' hK hall).cA i' j' hc'
 ·have l1:=lowS i' hc';by_cases e:i'=i
  ·subst e;exact done hc'.up
  ·exact done (hc'.pre i (by omega)).1
theorem qav{p s:Nat}(hp:p+1<n)(hs:s<n):sw p s<n:=by
 unfold sw;split
 ·omega
 ·split<;>omega
theorem qaw{i:Nat}(h:Pos n D a)(hK:1<=K)(hc:CurS n a i)(hg:Good n D K a):Pos n D (swG a (i-1))/\Good n D K (swG a (i-1))/\(∀t,t<=n->t≠i->lead (swG a (i-1)) t=lead a t)/\lead (swG a (i-1)) i<lead a i:=by
 have hi:=hc.hi;have h0:=hc.h0;obtain⟨p,rfl⟩:∃p,i=p+1:=⟨i-1,by omega⟩
 simp only[xQ];have hno:=hc.no;unfold LV at hno;simp only[xQ]at hno;obtain⟨s1,s2,s3⟩:=xcm h.sym hi h.pos hno
 have hP:Pos n D (swG a p):=by
  refine⟨λs t hs ht=>h.sym _ _ (qav hi hs) (qav hi ht),λk hk=>?_,λk hk=>?_⟩
  ·by_cases e:k=p+1
   ·rw[e];exact s2
   ·rw[s1 k hk e];exact h.pos k hk
  ·by_cases e:k=p+1
   ·rw[e];have:=h.le (p+1) (by omega);omega
   ·rw[s1 k hk e];exact h.le k hk
 exact⟨hP,zuu hP hK (λs hs=>hg.cS _ hc _ (qav hi hs)),s1,s3⟩
def zkn(a:Nat->Row):Nat->Nat
 |0=>1
 |k+1=>zkn a k*(lead a (k+1)).toNat
theorem zso{b:Nat->Row}:∀k,(∀t,t<=k->lead b t=lead a t)->zkn b k=zkn a k:=by
 intro k
 induction k with
 |zero=>intro _;rfl
 |succ k ih=>intro h;simp only[zkn];rw[ih (λt ht=>h t (by omega)),h (k+1) (qK _)]
theorem qxm:∀k,(∀t,t<=k->0<lead a t)->0<zkn a k:=by
 intro k
 induction k with
 |zero=>intro _;exact Nat.one_pos
 |succ k ih=>
  intro h;have:=h (k+1) (qK _);exact Nat.mul_pos (ih (λt ht=>h t (by omega))) (by omega)
theorem xcp{b:Nat->Row}{i:Nat}(h0:0<i)(hl:lead b i<lead a i)(hb:0<lead b i):∀k,i<=k->(∀t,t<=k->t≠i->lead b t=lead a t)->(∀t,t<=k->0<lead a t)->zkn b k<zkn a k:=by
 intro k
 induction k with
 |zero=>intro h1;omega
 |succ k ih=>
  intro h1 h2 h3;simp only[zkn];by_cases e:i=k+1
  ·subst e;rw[zso k (λt ht=>h2 t (by omega) (by omega))];have:=qxm k (λt ht=>h3 t (by omega));exact Nat.mul_lt_mul_of_pos_left (by omega) this
  ·rw[h2 (k+1) (qK _) (λx=>e x.symm)];have:=h3 (k+1) (qK _);exact Nat.mul_lt_mul_of_pos_right (ih (by omega) (λt ht hne=>h2 t (by omega) hne) (λt ht=>h3 t (by omega))) (by omega)
def bigK(D K:Int):Int:=D+8*(D*((2^7*(K*D))*(2^7*(K*D))))
theorem qph(h:Pos n D a)(h8:n<=8)(hK:1<=K)(hg:Good n D K a)(hcase:(∃i j,CurA n a i j)\/(∃i,CurS n a i)\/∀i,i<n->OKr a i){s:Nat}(hs:s<n):a s s<=bigK D K:=by
 have hD:=h.one;have h1:1<=K*D:=by have:=qX hD (show 0<=K by omega);omega
 have hm:K*D<=2^7*(K*D):=by omega
 have hmm:2^7*(K*D)<=(2^7*(K*D))*(2^7*(K*D)):=by
  have:=qX (show 1<=2^7*(K*D) by omega) (show 0<=2^7*(K*D) by omega);omega
 have hK2:K<=K*D:=by have:=qX hD (show 0<=K by omega);omega
 have hDm:(2^7*(K*D))*(2^7*(K*D))<=D*((2^7*(K*D))*(2^7*(K*D))):=by
  have:=qJ hD (show 0<=(2^7*(K*D))*(2^7*(K*D)) by omega);omega
 have hKB:K<=bigK D K:=by unfold bigK;omega
 rcases hcase with⟨i,j,hc⟩ | ⟨i,hc⟩ | hall
 ·obtain⟨g1,g2⟩:=hg.cA i j hc;by_cases e:s=i
  ·subst e
   have:=h.norm hs (m:=2^7*(K*D)) (λk hk=>by
    have p:=h.pos (k+1) (by omega)
    have q:lead a (k+1)<=lead a (k+1)*(2^7*(K*D)):=by
     have:=qX (show 1<=2^7*(K*D) by omega) (show 0<=lead a (k+1) by omega);omega
    rcases qW j k with h2 | h2
    ·obtain⟨z1,z2⟩:=hc.up k h2 hk;omega
    ·obtain⟨b1,b2⟩:=g2 k h2;have w:(2:Int)^(s-1-j)<=2^7:=zxu (by omega);have w2:=qJ w (show 0<=K*D by omega);have w3:=qX w2 (show 0<=lead a (k+1) by omega);omega)
   have f:(s:Int)*(D*((2^7*(K*D))*(2^7*(K*D))))<=8*(D*((2^7*(K*D))*(2^7*(K*D)))):=qJ (by omega) (by omega);unfold bigK;omega
  ·exact xY (g1 s hs e) hKB
 ·exact xY (hg.cS i hc s hs) hKB
 ·exact xY (hg.cE hall s hs) hKB
end
theorem zfb(f g:Nat->Int)(n:Nat):sumR (λi=>f i+g i) n=sumR f n+sumR g n:=by
 induction n with
 |zero=>rfl
 |succ n ih=>simp only[sumR,ih];omega
theorem zdo(c:Int)(f:Nat->Int)(n:Nat):sumR (λi=>c*f i) n=c*sumR f n:=by
 induction n with
 |zero=>simp[sumR]
 |succ n ih=>simp only[sumR,ih];grind
theorem zjk{f:Nat->Int}{n k:Nat}(hk:k<n)(h:∀t,t<n->t≠k->f t=0):sumR f n=f k:=by
 induction n with
 |zero=>omega
 |succ n ih=>
  simp only[sumR];by_cases e:k=n
  ·subst e;rw[zga (λt ht=>h t (by omega) (by omega))];omega
  ·rw[ih (by omega) (λt ht hne=>h t (by omega) hne),h n (by omega) (λx=>e x.symm)];omega
theorem qec{f:Nat->Int}{n:Nat}{c:Int}(h:∀t,t<n->f t<=c/\ -c<=f t):sumR f n<=n*c/\ -(n*c)<=sumR f n:=by
 induction n with
 |zero=>simp[sumR]
 |succ n ih=>
  obtain⟨h1,h2⟩:=ih (λt ht=>h t (by omega));obtain⟨h3,h4⟩:=h n (by omega);simp only[sumR];have e:((n+1:Nat):Int)*c=(n:Int)*c+c:=by rw[show((n+1:Nat):Int)=(n:Int)+1 by omega];grind
  omega
def linK(a:Nat->Row)(n k s:Nat)(v:Nat->Int):Int:=sumR (λt=>stg a k s t*v t) n
def quaK(a:Nat->Row)(n k:Nat)(v:Nat->Int):Int:=sumR (λs=>linK a n k s v*v s) n
section
variable{n:Nat}{D:Int}{a:Nat->Row}
theorem xcq(h:Pos n D a){k s:Nat}(hk:k<n)(v:Nat->Int):lead a k*linK a n (k+1) s v=lead a (k+1)*linK a n k s v-stg a k s k*linK a n k k v:=by
 unfold linK;rw[<-zdo,<-zdo,<-zdo]
 have e:sumR (λi=>lead a k*(stg a (k+1) s i*v i)) n=sumR (λi=>lead a (k+1)*(stg a k s i*v i)+(-1)*(stg a k s k*(stg a k k i*v i))) n:=by
  refine zap λi _=>?_
  have r:=zcg (h.ne (k:=k) (by omega)) s i;have:lead a k*(stg a (k+1) s i*v i)=(lead a k*stg a (k+1) s i)*v i:=by grind
  rw[this,r];grind
 rw[e,zfb,zdo (-1)];omega
theorem qax(h:Pos n D a){k:Nat}(hk:k<n)(v:Nat->Int):lead a k*quaK a n (k+1) v=lead a (k+1)*quaK a n k v-linK a n k k v*linK a n k k v:=by
 unfold quaK;rw[<-zdo,<-zdo]
 have hl:linK a n k k v*linK a n k k v=sumR (λs=>linK a n k k v*(stg a k s k*v s)) n:=by
  rw[zdo];congr 1;unfold linK;refine zap λs hs=>?_
  rcases qW s k with h1 | h1
  ·rw[zus h1,zuq (h.ne (k:=k) (by omega)) k s h1]
  ·rw[znc h.sym k hk (h.ne (by omega)) k s hk hs (qK _) h1]
 have e:sumR (λi=>lead a k*(linK a n (k+1) i v*v i)) n=sumR (λi=>lead a (k+1)*(linK a n k i v*v i)+(-1)*(linK a n k k v*(stg a k i k*v i))) n:=by
  refine zap λi _=>?_
  have r:=xcq h (s:=i) hk v;have:lead a k*(linK a n (k+1) i v*v i)=(lead a k*linK a n (k+1) i v)*v i:=by grind
  rw[this,r];grind
 rw[e,zfb,zdo (-1),hl];omega
theorem xcr(v:Nat->Int):quaK a n n v=0:=by
 unfold quaK;refine zga λs hs=>?_
 have:linK a n n s v=0:=by
  unfold linK;exact zga λt _=>by rw[zus hs];simp
 rw[this];simp
theorem zjl(h:Pos n D a)(v:Nat->Int):∀m k,k+m=n->0<=quaK a n k v:=by
 intro m
 induction m with
 |zero=>
  intro k hk;have:k=n:=by omega
  subst this;rw[xcr];exact qS _
 |succ m ih=>
  intro k hk;have e:=qax h (show k<n by omega) v;have h1:=qV (show 0<=lead a k by have:=h.pos k (by omega);omega) (ih (k+1) (by omega));have h2:=zek (linK a n k k v);have h3:0<=lead a (k+1)*quaK a n k v:=by omega
  rcases(by omega:quaK a n k v<0\/0<=quaK a n k v)with h4 | h4
  ·have:=xK (h.pos (k+1) (by omega)) (show 0< -quaK a n k v by omega);have e2:lead a (k+1)* -quaK a n k v= -(lead a (k+1)*quaK a n k v):=by grind
   omega
  ·exact h4
theorem qxn(h:Pos n D a)(v:Nat->Int):∀k,k<=n->quaK a n k v<=lead a k*quaK a n 0 v:=by
 intro k
 induction k with
 |zero=>intro _;rw[zav];omega
 |succ k ih=>
  intro hk;have e:=qax h (show k<n by omega) v;have h2:=zek (linK a n k k v);have h1:=qX (ih (by omega)) (show 0<=lead a (k+1) by have:=h.pos (k+1) (by omega);omega)
  have h3:lead a k*quaK a n (k+1) v<=lead a k*(lead a (k+1)*quaK a n 0 v):=by
   have:lead a (k+1)*(lead a k*quaK a n 0 v)=lead a k*(lead a (k+1)*quaK a n 0 v):=by grind
   omega
  exact qA h3 (h.pos k (by omega))
theorem qpi(h:Pos n D a)(v:Nat->Int){Q:Int}(hQ:quaK a n 0 v<=Q){k:Nat}(hk:k<n):linK a n k k v<=D*(Q+1)/\ -(D*(Q+1))<=linK a n k k v:=by
 have q0:=zjl h v n 0 (by omega);have hD:=h.one;refine zir (qV (by omega) (by omega)) ?_;have e:=qax h hk v;have h1:=qV (show 0<=lead a k by have:=h.pos k (by omega);omega) (zjl h v (n-(k+1)) (k+1) (by omega));have p1:=h.pos (k+1) (by omega);have p0:=h.pos k (by omega);have l1:=h.le (k+1) (by omega);have l0:=h.le k (by omega);have m1:=qX (qxn h v k (by omega)) (show 0<=lead a (k+1) by omega)
 have m2:lead a k*quaK a n 0 v<=D*Q:=by
  have x1:=qX hQ (show 0<=lead a k by omega);have x2:=qJ l0 (show 0<=Q by omega);omega
 have m3:lead a (k+1)*(lead a k*quaK a n 0 v)<=D*(D*Q):=by
  have x1:=qX m2 (show 0<=lead a (k+1) by omega);have x2:=qJ l1 (show 0<=D*Q from qV (by omega) (by omega));omega
 have m4:D*(D*Q)<=D*(Q+1)*(D*(Q+1)):=by
  have e1:D*(Q+1)*(D*(Q+1))=D*(D*Q)+D*D*(Q*Q+Q+1):=by grind
  have:=qV (qV (show 0<=D by omega) (show 0<=D by omega)) (show 0<=Q*Q+Q+1 by have:=zek Q;omega);omega
 omega
def vecB(D K Q:Int):Nat->Int
 |0=>D*(Q+1)
 |m+1=>D*(Q+1)+8*(D*K*vecB D K Q m)
theorem zqr{K Q:Int}(hD:1<=D)(hK:0<=K)(hQ:0<=Q):∀m,0<=vecB D K Q m:=by
 intro m
 induction m with
 |zero=>exact qV (by omega) (by omega)
 |succ m ih=>
  have h1:=qV (show 0<=D by omega) (show 0<=Q+1 by omega);have h2:=qV (qV (show 0<=D by omega) hK) ih;simp only[vecB];omega
theorem qpj{K Q:Int}(hD:1<=D)(hK:1<=K)(hQ:0<=Q):∀m,vecB D K Q m<=vecB D K Q (m+1):=by
 intro m;have h0:=zqr hD (show 0<=K by omega) hQ m;have h1:=qV (show 0<=D by omega) (show 0<=Q+1 by omega);have h2:1<=D*K:=by have:=qX hK (show 0<=D by omega);omega
 have h3:=qJ h2 h0;simp only[vecB];omega
theorem qpk{K Q:Int}(hD:1<=D)(hK:1<=K)(hQ:0<=Q):∀c m,vecB D K Q m<=vecB D K Q (m+c):=by
 intro c
 induction c with
 |zero=>intro m;exact qS _
 |succ c ih=>intro m;exact xY (ih m) (qpj hD hK hQ (m+c))
theorem qpl(h:Pos n D a)(h8:n<=8){K:Int}(hK:1<=K)(ha:∀s,s<n->a s s<=K)(v:Nat->Int){Q:Int}(hQ:quaK a n 0 v<=Q):∀m k,k+m+1=n->v k<=vecB D K Q m/\ -(vecB D K Q m)<=v k:=by
 have hD:=h.one;have hQ0:0<=Q:=by have:=zjl h v n 0 (by omega);omega
 intro m
 induction m using Nat.strongRecOn with
 |ind m ih=>
 intro k hk;obtain⟨b1,b2⟩:=qpi h v hQ (show k<n by omega)
 have rest:∃x,linK a n k k v=lead a (k+1)*v k+x/\x<=(if m=0 then 0 else 8*(D*K*vecB D K Q (m-1)))/\ -(if m=0 then 0 else 8*(D*K*vecB D K Q (m-1)))<=x:=by
  refine⟨sumR (λt=>if t=k then 0 else stg a k k t*v t) n,?_,?_⟩
  ·have e:linK a n k k v=sumR (λt=>(if t=k then stg a k k k*v k else 0)+(if t=k then 0 else stg a k k t*v t)) n:=by
    unfold linK;refine zap λt _=>?_
    split
    ·rename_i e;rw[e];omega
    ·omega
   rw[e,zfb,zjk (k:=k) (by omega) (λt _ hne=>if_neg hne),if_pos rfl,zau]
  ·by_cases hm:m=0
   ·rw[if_pos hm]
    have:sumR (λt=>if t=k then 0 else stg a k k t*v t) n=0:=zga λt ht=>by
     split
     ·rfl
     ·rw[zuq (h.ne (k:=k) (by omega)) k t (by omega)];simp
    rw[this];omega
   ·rw[if_neg hm];have hb:=zqr hD (show 0<=K by omega) hQ0 (m-1);have hDK:0<=D*K:=qV (by omega) (by omega)
    have:=qec (f:=λt=>if t=k then 0 else stg a k k t*v t) (n:=n) (c:=D*K*vecB D K Q (m-1)) (λt ht=>by
     have hz:=qV hDK hb;split
     ·omega
     ·rename_i hne;rcases qW t k with h1 | h1
      ·rw[zuq (h.ne (k:=k) (by omega)) k t h1];omega
      ·obtain⟨v1,v2⟩:=ih (n-1-t) (by omega) t (by omega);have vm:=qpk hD hK hQ0 (m-1-(n-1-t)) (n-1-t);have em:n-1-t+(m-1-(n-1-t))=m-1:=by omega
       rw[em]at vm;have en:=h.entry ht (show k<=t by omega) 0 k (by omega);have sy:=znc h.sym k (by omega) (h.ne (by omega)) k t (by omega) ht (qK _) (by omega);have d1:=h.down ht k (by omega);have d2:=h.down (show k<n by omega) k (qK _);have p0:=h.pos k (by omega);have l0:=h.le k (by omega)
       have f:∀s,s<n->lead a k*a s s<=D*K:=λs hs=>by
        have x1:=qX (ha s hs) (show 0<=lead a k by omega);have x2:=qJ l0 (show 0<=K by omega);omega
       have f1:=f t ht;have f2:=f k (by omega);rw[sy];exact qao (by omega) (by omega) (by omega) (by omega))
    have e8:(n:Int)*(D*K*vecB D K Q (m-1))<=8*(D*K*vecB D K Q (m-1)):=qJ (by omega) (qV hDK hb);omega
 obtain⟨x,e,x1,x2⟩:=rest;have p1:=h.pos (k+1) (by omega)
 have key:∀{w:Int},lead a (k+1)*v k<=w-> -w<=lead a (k+1)*v k->v k<=w/\ -w<=v k:=by
  intro w h1 h2;rcases(by omega:v k<=0\/0<v k)with h3 | h3
  ·have:=qJ (show(1:Int)<=lead a (k+1) by omega) (show 0<= -v k by omega);have e2:lead a (k+1)* -v k= -(lead a (k+1)*v k):=by grind
   have:=qV (show 0<=lead a (k+1) by omega) (show 0<= -v k by omega);omega
  ·have:=qJ (show(1:Int)<=lead a (k+1) by omega) (show 0<=v k by omega);omega
 by_cases hm:m=0
 ·subst hm;simp only[if_true]at x1 x2;simp only[vecB];exact key (by omega) (by omega)
 ·obtain⟨m',rfl⟩:∃m',m=m'+1:=⟨m-1,by omega⟩
  rw[if_neg (by omega)]at x1 x2;simp only[xQ]at x1 x2;simp only[vecB];exact key (by omega) (by omega)
theorem xcs(h:Pos n D a)(h8:n<=8){K:Int}(hK:1<=K)(ha:∀s,s<n->a s s<=K)(v:Nat->Int){Q:Int}(hQ:quaK a n 0 v<=Q){k:Nat}(hk:k<n):v k<=vecB D K Q 7/\ -(vecB D K Q 7)<=v k:=by
 have hQ0:0<=Q:=by have:=zjl h v n 0 (by omega);omega
 obtain⟨h1,h2⟩:=qpl h h8 hK ha v hQ (n-1-k) k (by omega);have:=qpk h.one hK hQ0 (7-(n-1-k)) (n-1-k);have e:n-1-k+(7-(n-1-k))=7:=by omega
 rw[e]at this;omega
def zqs(a:Nat->Row)(n:Nat)(T:Nat->Nat->Int):Nat->Row:=λs t=>sumR (λx=>sumR (λy=>a x y*T y t) n*T x s) n
theorem qhm(T:Nat->Nat->Int)(s:Nat):zqs a n T s s=quaK a n 0 (λx=>T x s):=by
 unfold zqs quaK linK;refine zap λx _=>?_
 congr 1;exact zap λy _=>by rw[zcb]
theorem qpm(T:Nat->Nat->Int)(i j:Nat)(c:Int):zqs a n (λx s=>T x s+if s=i then c*T x j else 0)=addG (zqs a n T) i j c:=by
 funext s t
 have col:∀x t,sumR (λy=>a x y*(T y t+if t=i then c*T y j else 0)) n=sumR (λy=>a x y*T y t) n+if t=i then c*sumR (λy=>a x y*T y j) n else 0:=by
  intro x t;split
  ·rw[<-zdo,<-zfb];exact zap λy _=>by grind
  ·rw[qL];exact zap λy _=>by rw[qL]
 show sumR (λx=>sumR (λy=>a x y*(T y t+if t=i then c*T y j else 0)) n*(T x s+if s=i then c*T x j else 0)) n=_
 have e1:sumR (λx=>sumR (λy=>a x y*(T y t+if t=i then c*T y j else 0)) n*(T x s+if s=i then c*T x j else 0)) n=
   sumR (λx=>(sumR (λy=>a x y*T y t) n+if t=i then c*sumR (λy=>a x y*T y j) n else 0)*(T x s+if s=i then c*T x j else 0)) n:=
  zap λx _=>by rw[col]
 rw[e1];unfold addG zqs;by_cases hs:s=i
 ·by_cases ht:t=i
  ·simp only[hs,ht,if_true,and_self];rw[<-zdo,<-zdo,<-zdo,<-zfb,<-zfb,<-zfb];exact zap λx _=>by grind
  ·simp only[hs,ht,if_true,if_false,and_false,qL];rw[<-zdo,<-zfb];exact zap λx _=>by grind
 ·by_cases ht:t=i
  ·simp only[hs,ht,if_true,if_false,false_and,qL];rw[<-zdo,<-zfb];exact zap λx _=>by grind
  ·simp only[hs,ht,if_false,false_and,qL]
end
end Go.Det
namespace Go.Proofs.YtbjdfanphdfkdaaGreatDoor
open Go Go.AL Go.Det
def mkM(n:Nat)(f:Nat->Nat->Int):List (List Int):=(List.range n).map λi=>(List.range n).map λj=>f i j
theorem zdd(n:Nat)(f:Nat->Nat->Int):Shp n (mkM n f):=by
 refine⟨by simp[mkM],λi hi=>?_⟩;rw[qZ];simp[mkM,hi]
theorem zcw{n:Nat}{f:Nat->Nat->Int}{i j:Nat}(hi:i<n)(hj:j<n):ent (mkM n f) i j=f i j:=by
 unfold ent;simp[mkM,qZ,hi,hj]
theorem Shp.out{n:Nat}{M:List (List Int)}(h:Shp n M){i j:Nat}(hij:n<=i\/n<=j):ent M i j=0:=by
 unfold ent;rcases qW i n with h1 | h1
 ·rw[qZ,xX (by rw[h.row i h1];omega)];rfl
 ·have:M.getD i []=[]:=by rw[qZ,xX (by rw[h.len];exact h1)];rfl
  rw[this];rfl
theorem qay{n:Nat}{M M':List (List Int)}(h:Shp n M)(h':Shp n M')(he:∀i j,i<n->j<n->ent M i j=ent M' i j):M=M':=by
 refine xP (h.len.trans h'.len.symm) λi hi hi'=>?_
 have e1:M.getD i []=M[i]:=by rw[qZ,qB hi];rfl
 have e2:M'.getD i []=M'[i]:=by rw[qZ,qB hi'];rfl
 have hin:i<n:=by rw[<-h.len];exact hi
 have l1:=h.row i hin;have l2:=h'.row i hin;rw[e1]at l1;rw[e2]at l2;refine xP (l1.trans l2.symm) λj hj hj'=>?_
 have:=he i j hin (by omega);unfold ent at this;rw[e1,e2,qZ,qZ,qB hj,qB hj']at this;simpa using this
def mulM(n:Nat)(A B:List (List Int)):List (List Int):=mkM n λi j=>sumR (λk=>ent A i k*ent B k j) n
def trM(n:Nat)(A:List (List Int)):List (List Int):=mkM n λi j=>ent A j i
def idM(n:Nat):List (List Int):=mkM n λi j=>if i=j then 1 else 0
def cgM(n:Nat)(G U:List (List Int)):List (List Int):=mulM n (mulM n (trM n U) G) U
def addU(n i j:Nat)(c:Int):List (List Int):=setM (idM n) j i c
theorem zgb(n:Nat):Shp n (idM n):=zdd n _
theorem zuv(n:Nat)(A B:List (List Int)):Shp n (mulM n A B):=zdd n _
theorem qed(n:Nat)(G U:List (List Int)):Shp n (cgM n G U):=zdd n _
theorem zqt{n i j:Nat}(hi:i<n)(hj:j<n):ent (idM n) i j=if i=j then 1 else 0:=zcw hi hj
theorem qee{n i j:Nat}{c:Int}(hj:j<n):Shp n (addU n i j c):=(zdd n _).set hj
theorem qxo{n i j x s:Nat}{c:Int}(hij:i≠j)(hi:i<n)(hj:j<n)(hx:x<n)(hs:s<n):ent (addU n i j c) x s=(if x=s then 1 else 0)+(if s=i/\x=j then c else 0):=by
 unfold addU;rw[(zgb n).ent_set hj hi];by_cases h:x=j/\s=i
 ·have h1:¬x=s:=by omega
  have h2:s=i/\x=j:=⟨h.2,h.1⟩
  rw[if_pos h,if_neg h1,if_pos h2];omega
 ·have h2:¬(s=i/\x=j):=λe=>h ⟨e.2,e.1⟩
  rw[if_neg h,if_neg h2];rw[zqt hx hs];omega
theorem zuw{n i j s:Nat}{c:Int}(hij:i≠j)(hi:i<n)(hj:j<n)(hs:s<n)(f:Nat->Int):sumR (λx=>f x*ent (addU n i j c) x s) n=f s+if s=i then c*f j else 0:=by
 have e:sumR (λx=>f x*ent (addU n i j c) x s) n=sumR (λx=>(if x=s then f s else 0)+(if x=j then(if s=i then c*f j else 0)else 0)) n:=by
  refine zap λx hx=>?_
  rw[qxo hij hi hj hx hs];by_cases h1:x=s
  ·by_cases h2:s=i
   ·have h3:x≠j:=by omega
    rw[if_pos h1,if_neg (by omega),if_pos h1,if_neg h3,h1];omega
   ·rw[if_pos h1,if_neg (by omega),if_pos h1,if_neg h2,h1];split<;>omega
  ·by_cases h2:x=j
   ·by_cases h3:s=i
    ·rw[if_neg h1,if_pos ⟨h3,h2⟩,if_neg h1,if_pos h2,if_pos h3,h2];grind
    ·rw[if_neg h1,if_neg (by omega),if_neg h1,if_pos h2,if_neg h3];omega
   ·rw[if_neg h1,if_neg (by omega),if_neg h1,if_neg h2];omega
 rw[e,zfb,zjk hs (λt _ hne=>if_neg hne),if_pos rfl,zjk hj (λt _ hne=>if_neg hne),if_pos rfl]
theorem jws{n i j:Nat}{c:Int}{M:List (List Int)}(h:Shp n M)(hij:i≠j)(hi:i<n)(hj:j<n):rowF (cgM n M (addU n i j c))=addG (rowF M) i j c:=by
 funext s t
 show ent (cgM n M (addU n i j c)) s t=addG (rowF M) i j c s t
 by_cases hs:s<n
 ·by_cases ht:t<n
  ·unfold cgM mulM;rw[zcw hs ht]
   have e:sumR (λk=>ent (mkM n λi_1 j_1=>sumR (λk=>ent (trM n (addU n i j c)) i_1 k*ent M k j_1) n) s k*ent (addU n i j c) k t) n=
     sumR (λk=>(ent M s k+if s=i then c*ent M j k else 0)*ent (addU n i j c) k t) n:=by
    refine zap λk hk=>?_
    rw[zcw hs hk];congr 1
    have e2:sumR (λx=>ent (trM n (addU n i j c)) s x*ent M x k) n=sumR (λx=>ent M x k*ent (addU n i j c) x s) n:=by
     refine zap λx hx=>?_
     unfold trM;rw[zcw hs hx,xW]
    rw[e2,zuw hij hi hj hs]
   rw[e,zuw hij hi hj ht];unfold addG rowF;by_cases h1:s=i
   ·by_cases h2:t=i
    ·simp only[h1,h2,if_true,and_self];grind
    ·simp only[h1,h2,if_true,if_false,and_false,qL]
   ·by_cases h2:t=i
    ·simp only[h1,h2,if_true,if_false,false_and,qL]
    ·simp only[h1,h2,if_false,false_and,qL]
  ·rw[(qed n _ _).out (.inr (by omega))];unfold addG rowF;have z:∀x,ent M x t=0:=λx=>h.out (.inr (by omega))
   rw[z,z,if_neg (show¬t=i by omega),if_neg (show¬(s=i/\t=i) by omega)];split<;>omega
 ·rw[(qed n _ _).out (.inl (by omega))];unfold addG rowF;have z:∀x,ent M s x=0:=λx=>h.out (.inl (by omega))
  rw[z,z,if_neg (show¬s=i by omega),if_neg (show¬(s=i/\t=i) by omega)];split<;>omega
theorem xzo(p s:Nat):sw p (sw p s)=s:=by
 by_cases h1:s=p
 ·rw[h1,sw_p,sw_q]
 ·by_cases h2:s=p+1
  ·rw[h2,sw_q,sw_p]
  ·rw[qhk h1 h2,qhk h1 h2]
theorem xzp{p x s:Nat}:sw p x=s↔x=sw p s:=by
 constructor
 ·intro h;rw[<-h,xzo]
 ·intro h;rw[h,xzo]
theorem xct{n p x s:Nat}(hp:p+1<n)(hx:x<n)(hs:s<n):ent (zdb (idM n) (p+1) p) x s=if x=sw p s then 1 else 0:=by
 rw[(zly (zgb n) hp (by omega)).2]
 show ent (idM n) (sw p x) s=_
 rw[zqt (qav hp hx) hs];by_cases h:sw p x=s
 ·rw[if_pos h,if_pos (xzp.1 h)]
 ·rw[if_neg h,if_neg (λe=>h (xzp.2 e))]
theorem qaz{n p s:Nat}(hp:p+1<n)(hs:s<n)(f:Nat->Int):sumR (λx=>f x*ent (zdb (idM n) (p+1) p) x s) n=f (sw p s):=by
 have e:sumR (λx=>f x*ent (zdb (idM n) (p+1) p) x s) n=sumR (λx=>if x=sw p s then f (sw p s)else 0) n:=by
  refine zap λx hx=>?_
  rw[xct hp hx hs];split
  ·rename_i e;rw[e];omega
  ·omega
 rw[e,zjk (qav hp hs) (λt _ hne=>if_neg hne),if_pos rfl]
theorem xzq{n p:Nat}{M:List (List Int)}(h:Shp n M)(hp:p+1<n):rowF (cgM n M (zdb (idM n) (p+1) p))=swG (rowF M) p:=by
 funext s t
 show ent (cgM n M (zdb (idM n) (p+1) p)) s t=ent M (sw p s) (sw p t)
 by_cases hs:s<n
 ·by_cases ht:t<n
  ·unfold cgM mulM;rw[zcw hs ht]
   have e:sumR (λk=>ent (mkM n λi_1 j_1=>sumR (λk=>ent (trM n (zdb (idM n) (p+1) p)) i_1 k*ent M k j_1) n) s k*ent (zdb (idM n) (p+1) p) k t) n=sumR (λk=>ent M (sw p s) k*ent (zdb (idM n) (p+1) p) k t) n:=by
    refine zap λk hk=>?_
    rw[zcw hs hk];congr 1
    have e2:sumR (λx=>ent (trM n (zdb (idM n) (p+1) p)) s x*ent M x k) n=sumR (λx=>ent M x k*ent (zdb (idM n) (p+1) p) x s) n:=by
     refine zap λx hx=>?_
     unfold trM;rw[zcw hs hx,xW]
    rw[e2,qaz hp hs]
   rw[e,qaz hp ht]
  ·have hne:sw p t=t:=qhk (by omega) (by omega);rw[(qed n _ _).out (.inr (by omega)),hne,h.out (.inr (by omega))]
 ·have hne:sw p s=s:=qhk (by omega) (by omega);rw[(qed n _ _).out (.inl (by omega)),hne,h.out (.inl (by omega))]
theorem mul_add{n i j x s:Nat}{c:Int}{T:List (List Int)}(hij:i≠j)(hi:i<n)(hj:j<n)(hx:x<n)(hs:s<n):ent (mulM n T (addU n i j c)) x s=ent T x s+if s=i then c*ent T x j else 0:=by
 unfold mulM;rw[zcw hx hs,zuw hij hi hj hs]
theorem jwt{n p x s:Nat}{T:List (List Int)}(hp:p+1<n)(hx:x<n)(hs:s<n):ent (mulM n T (zdb (idM n) (p+1) p)) x s=ent T x (sw p s):=by
 unfold mulM;rw[zcw hx hs,qaz hp hs]
def zis(l:List Int)(k:Nat):Int:=l.getD k 0
def zit(l:List Int)(k:Nat):Nat:=if k<l.length then k+1 else k
def zbx(l:List Int)(k:Nat):Int:=zis l k%256
def zak(l:List Int)(k:Nat):Nat->Nat
 |0=>k
 |m+1=>zit l (zak l k m)
theorem qxp{l:List Int}{k:Nat}(h:k<=l.length):zit l k<=l.length:=by unfold zit;split<;>omega
theorem zhr{l:List Int}{k:Nat}(h:k<=l.length):∀m,zak l k m<=l.length:=by
 intro m
 induction m with
 |zero=>exact h
 |succ m ih=>exact qxp ih
theorem qpn(l:List Int)(k a:Nat):∀b,zak l (zak l k a) b=zak l k (a+b):=by
 intro b
 induction b with
 |zero=>rfl
 |succ b ih=>
  show zit l (zak l (zak l k a) b)=zit l (zak l k (a+b))
  rw[ih]
def diaM(l:List Int)(k n:Nat)(most:Int):List (List Int):=mkM n λi j=>if i=j then 1+zbx l (zak l k i)%most else 0
def triK:Nat->Nat
 |0=>0
 |i+1=>triK i+i
def offZ(l:List Int)(k i j:Nat):Int:=Int.tmod (zis l (zak l k (triK i+j))) 3
def genM(l:List Int)(k n:Nat):List (List Int):=mkM n λi j=>if i=j then 1+zbx l (zak l k i)%6 else if j<i then offZ l (zak l k n) i j else offZ l (zak l k n) j i
def zce(n:Nat)(fork:Bool)(i k:Nat):Bool:=if fork=true/\i+1=n/\3<n then k+2 == i else k+1 == i
def zcc(n:Nat)(fork:Bool):List (List Int):=mkM n λi j=>if i=j then 2 else if zce n fork i j=true\/zce n fork j i=true then -1 else 0
def qhn(M:List (List Int))(i:Nat)(z:Int):List (List Int):=setM M i i (ent M i i+z)
theorem zbc(l:List Int)(k:Nat){m:Int}(hm:1<=m):0<=zbx l k%m/\zbx l k%m<m:=⟨Int.emod_nonneg _ (by omega),Int.emod_lt_of_pos _ (by omega)⟩
theorem zhs(l:List Int)(k i j:Nat): -2<=offZ l k i j/\offZ l k i j<=2:=by
 unfold offZ;have:=Int.tmod_lt_of_pos (zis l (zak l k (triK i+j))) (show(0:Int)<3 by decide);have:=Int.lt_tmod_of_pos (zis l (zak l k (triK i+j))) (show(0:Int)<3 by decide);omega
structure SmallG(n:Nat)(M:List (List Int)):Prop where
 shp:Shp n M
 sym:∀i j,i<n->j<n->ent M i j=ent M j i
 bnd:∀i j,-16<=ent M i j/\ent M i j<=16
theorem zux{n:Nat}{f:Nat->Nat->Int}(h1:∀i j,i<n->j<n->f i j=f j i)(h2:∀i j,i<n->j<n-> -16<=f i j/\f i j<=16):SmallG n (mkM n f):=by
 refine⟨zdd n f,λi j hi hj=>by rw[zcw hi hj,zcw hj hi];exact h1 i j hi hj,λi j=>?_⟩;by_cases h:i<n/\j<n
 ·rw[zcw h.1 h.2];exact h2 i j h.1 h.2
 ·rw[(zdd n f).out (by omega)];omega
theorem zmb{l:List Int}{k n:Nat}{most:Int}(h1:1<=most)(h2:most<=9):SmallG n (diaM l k n most):=by
 refine zux (λi j _ _=>?_) λi j _ _=>?_
 ·by_cases h:i=j
  ·rw[h]
  ·have h':¬j=i:=λe=>h e.symm
   rw[if_neg h,if_neg h']
 ·have:=zbc l (zak l k i) h1;split<;>omega
theorem qpo{l:List Int}{k n:Nat}:SmallG n (genM l k n):=by
 refine zux (λi j _ _=>?_) λi j _ _=>?_
 ·by_cases h:i=j
  ·rw[h]
  ·have h':¬j=i:=λe=>h e.symm
   rw[if_neg h,if_neg h'];by_cases h2:j<i
   ·have h3:¬i<j:=by omega
    rw[if_pos h2,if_neg h3]
   ·have h3:i<j:=by omega
    rw[if_neg h2,if_pos h3]
 ·have:=zbc l (zak l k i) (show(1:Int)<=6 by decide);have:=zhs l (zak l k n) i j;have:=zhs l (zak l k n) j i;split
  ·omega
  ·split<;>omega
theorem zqu{n:Nat}{fork:Bool}:SmallG n (zcc n fork):=by
 refine zux (λi j _ _=>?_) λi j _ _=>?_
 ·by_cases h:i=j
  ·rw[h]
  ·have h':¬j=i:=λe=>h e.symm
   rw[if_neg h,if_neg h'];by_cases h2:zce n fork i j=true\/zce n fork j i=true
   ·rw[if_pos h2,if_pos h2.symm]
   ·have h3:¬(zce n fork j i=true\/zce n fork i j=true):=λe=>h2 e.symm
    rw[if_neg h2,if_neg h3]
 ·split
  ·omega
  ·split<;>omega
theorem zfs{n i:Nat}{fork:Bool}(hi:i<n):ent (zcc n fork) i i=2:=by
 unfold zcc;rw[zcw hi hi,if_pos rfl]
theorem zsp{n i:Nat}{M:List (List Int)}{z:Int}(h:SmallG n M)(hi:i<n)(hd:ent M i i=2)(hz:0<=z/\z<=3):SmallG n (qhn M i z):=by
 unfold qhn;refine⟨h.shp.set hi,λs t hs ht=>?_,λs t=>?_⟩
 ·rw[h.shp.ent_set hi hi,h.shp.ent_set hi hi];by_cases e:s=i/\t=i
  ·rw[if_pos e,if_pos ⟨e.2,e.1⟩]
  ·rw[if_neg e,if_neg (λx=>e ⟨x.2,x.1⟩)];exact h.sym s t hs ht
 ·rw[h.shp.ent_set hi hi];have:=h.bnd s t;split<;>omega
def rawM(l:List Int)(kind n:Nat):List (List Int):=
 if kind<4 then genM l 0 n else if kind=4 then qhn (zcc n false) 0 (zbx l 0%3)else if kind=5 then qhn (zcc n true) (n-1) (zbx l 0%2)else if kind=6 then diaM l 0 n 9 else diaM l 0 n 1
def rawK(l:List Int)(kind n:Nat):Nat:=
 if kind<4 then zak l 0 (n+triK n)else if kind=4 then zit l 0 else if kind=5 then zit l 0 else zak l 0 n
theorem zxv{l:List Int}{kind n:Nat}(hn:1<=n):SmallG n (rawM l kind n):=by
 unfold rawM;split
 ·exact qpo
 split
 ·exact zsp zqu (by omega) (zfs (by omega)) (by have:=zbc l 0 (show(1:Int)<=3 by decide);omega)
 split
 ·exact zsp zqu (by omega) (zfs (by omega)) (by have:=zbc l 0 (show(1:Int)<=2 by decide);omega)
 split
 ·exact zmb (by decide) (by decide)
 ·exact zmb (by decide) (by decide)
theorem qpp{l:List Int}{k n i j:Nat}{most:Int}(hi:i<n)(hj:j<n):ent (diaM l k n most) i j=if i=j then 1+zbx l (zak l k i)%most else 0:=by
 unfold diaM;rw[zcw hi hj]
def MuOK(n:Nat)(a:Nat->Row)(k:Nat):Prop:=(∀i j,CurA n a i j->zkn a n*100+(n-i)*10+j+1<=k)/\∀i,CurS n a i->zkn a n*100+(n-i)*10<=k
theorem qeh{n:Nat}{a:Nat->Row}(h8:n<=8):MuOK n a (zkn a n*100+99):=
 ⟨λi j c=>by have:=c.hi;have:=c.hj;omega,λi c=>by omega⟩
theorem xzy{n:Nat}{D K:Int}{a:Nat->Row}{i j:Nat}{c:Int}{k:Nat}(h:Pos n D a)(h8:n<=8)(hK:1<=K)(hKD:8*D<=K)(hc:CurA n a i j)(hg:Good n D K a)(hz:2*(stg a j i j+c*lead a (j+1))<=lead a (j+1)/\ -(2*(stg a j i j+c*lead a (j+1)))<=lead a (j+1))
  (hm:MuOK n a k):∃k',k'<k/\MuOK n (addG a i j c) k':=by
 obtain⟨_,_,_,g1,g2⟩:=qeb h h8 hK hKD hc hg hz;have hi:=hc.hi;have hj:=hc.hj;have hp:zkn (addG a i j c) n=zkn a n:=zso n (λt ht=>zma hj hi (h.ne (qK _)) ht);have:=hm.1 i j hc;refine⟨zkn a n*100+(n-i)*10+j,by omega,λi' j' c'=>?_,λi' c'=>?_⟩
 ·obtain⟨l1,l2⟩:=g1 i' j' c';have:=c'.hi;have:=c'.hj;rw[hp];by_cases e:i'=i
  ·have:=l2 e;subst e;omega
  ·omega
 ·have:=g2 i' c';rw[hp];omega
theorem kqs{n:Nat}{D K:Int}{a:Nat->Row}{i:Nat}{k:Nat}(h:Pos n D a)(h8:n<=8)(hK:1<=K)(hc:CurS n a i)(hg:Good n D K a)(hm:MuOK n a k):∃k',k'<k/\MuOK n (swG a (i-1)) k':=by
 obtain⟨gp,_,g1,g2⟩:=qaw h hK hc hg;have hlt:=xcp (b:=swG a (i-1)) hc.h0 g2 (gp.pos i (by have:=hc.hi;omega)) n (by have:=hc.hi;omega) g1 h.pos;have:=hm.2 i hc;exact⟨zkn (swG a (i-1)) n*100+99,by omega,qeh h8⟩
def zep(l d:Int):Int:=(2*l+d)/(2*d)
theorem qpv{l d:Int}(hd:0<d):2*(l+ -(zep l d)*d)<=d/\ -(2*(l+ -(zep l d)*d))<=d:=by
 unfold zep;have h1:=Int.ediv_mul_le (2*l+d) (show 2*d≠0 by omega);have h2:=Int.lt_ediv_add_one_mul_self (2*l+d) (show 0<2*d by omega);generalize (2*l+d)/(2*d)=q at*;have e1:q*(2*d)=2*(q*d):=by grind
 have e2:(q+1)*(2*d)=2*(q*d)+2*d:=by grind
 have e3: -q*d= -(q*d):=by grind
 omega
structure LState(n:Nat)(D K:Int)(M0 M T:List (List Int)):Prop where
 shM:Shp n M
 shT:Shp n T
 pos:Pos n D (rowF M)
 good:Good n D K (rowF M)
 rel:∀s t,s<n->t<n->ent M s t=zqs (rowF M0) n (λx y=>ent T x y) s t
theorem xcx{n:Nat}(a:Nat->Row){s t:Nat}(hs:s<n)(ht:t<n):zqs a n (λx y=>ent (idM n) x y) s t=a s t:=by
 unfold zqs
 have e:sumR (λx=>sumR (λy=>a x y*ent (idM n) y t) n*ent (idM n) x s) n=sumR (λx=>if x=s then a s t else 0) n:=by
  refine zap λx hx=>?_
  have e2:sumR (λy=>a x y*ent (idM n) y t) n=a x t:=by
   have e3:sumR (λy=>a x y*ent (idM n) y t) n=sumR (λy=>if y=t then a x t else 0) n:=by
    refine zap λy hy=>?_
    rw[zqt hy ht];split
    ·rename_i e;rw[e];omega
    ·omega
   rw[e3,zjk ht (λz _ hne=>if_neg hne),if_pos rfl]
  rw[e2,zqt hx hs];split
  ·rename_i e;rw[e];omega
  ·omega
 rw[e,zjk hs (λz _ hne=>if_neg hne),if_pos rfl]
theorem zss{n:Nat}(a:Nat->Row){T T':Nat->Nat->Int}{s t:Nat}(hs:∀x,x<n->T x s=T' x s)(ht:∀x,x<n->T x t=T' x t):zqs a n T s t=zqs a n T' s t:=by
 unfold zqs;refine zap λx hx=>?_
 rw[hs x hx];congr 1;exact zap λy hy=>by rw[ht y hy]
section
variable{n:Nat}{D K:Int}{M0 M T:List (List Int)}
theorem LState.start(h1:Shp n M0)(hp:Pos n D (rowF M0))(hK:1<=K)(ha:∀s,s<n->ent M0 s s<=K):LState n D K M0 M0 (idM n):=
 ⟨h1,zdd n _,hp,zuu hp hK ha,λs t hs ht=>(xcx (rowF M0) hs ht).symm⟩
theorem LState.add{i j:Nat}(h:LState n D K M0 M T)(h8:n<=8)(hK:1<=K)(hKD:8*D<=K)(hc:CurA n (rowF M) i j):
  LState n D K M0 (cgM n M (addU n i j (-(zep (stg (rowF M) j i j) (lead (rowF M) (j+1)))))) (mulM n T (addU n i j (-(zep (stg (rowF M) j i j) (lead (rowF M) (j+1))))))/\
   ∀k,MuOK n (rowF M) k->∃k',k'<k/\MuOK n (rowF (cgM n M (addU n i j (-(zep (stg (rowF M) j i j) (lead (rowF M) (j+1))))))) k':=by
 have hi:=hc.hi;have hj:=hc.hj;have hz:=qpv (l:=stg (rowF M) j i j) (h.pos.pos (j+1) (by omega));generalize -(zep (stg (rowF M) j i j) (lead (rowF M) (j+1)))=c at*;have e:=jws (c:=c) h.shM (show i≠j by omega) hi (show j<n by omega);obtain⟨_,g1,g2,_,_⟩:=qeb h.pos h8 hK hKD hc h.good hz;refine⟨⟨zdd n _,zdd n _,by rw[e];exact g1,by rw[e];exact g2,λs t hs ht=>?_⟩,λk hk=>by rw[e];exact xzy h.pos h8 hK hKD hc h.good hz hk⟩;have e2:ent (cgM n M (addU n i j c)) s t=addG (rowF M) i j c s t:=congrFun (congrFun e s) t;rw[e2,zss (rowF M0) (T':=λx s=>ent T x s+if s=i then c*ent T x j else 0) (λx hx=>mul_add (show i≠j by omega) hi (by omega) hx hs) (λx hx=>mul_add (show i≠j by omega) hi (by omega) hx ht)];rw[qpm (a:=rowF M0) (n:=n) (λx s=>ent T x s) i j c];unfold addG;have r:=h.rel;rw[<-r s t hs ht,<-r j t (by omega) ht,<-r s j hs (by omega),<-r j j (by omega) (by omega)];rfl
theorem LState.sw{p:Nat}(h:LState n D K M0 M T)(h8:n<=8)(hK:1<=K)(hc:CurS n (rowF M) (p+1)):LState n D K M0 (cgM n M (zdb (idM n) (p+1) p)) (mulM n T (zdb (idM n) (p+1) p))/\
   ∀k,MuOK n (rowF M) k->∃k',k'<k/\MuOK n (rowF (cgM n M (zdb (idM n) (p+1) p))) k':=by
 have hi:=hc.hi;have e:=xzq h.shM hi;obtain⟨g1,g2,_,_⟩:=qaw h.pos hK hc h.good;simp only[xQ]at g1 g2
 refine⟨⟨zdd n _,zdd n _,by rw[e];exact g1,by rw[e];exact g2,λs t hs ht=>?_⟩,λk hk=>by
  rw[e];have:=kqs h.pos h8 hK hc h.good hk;simpa using this⟩
 have e2:ent (cgM n M (zdb (idM n) (p+1) p)) s t=ent M (Det.sw p s) (Det.sw p t):=congrFun (congrFun e s) t;rw[e2,zss (rowF M0) (T':=λx s=>ent T x (Det.sw p s)) (λx hx=>jwt hi hx hs) (λx hx=>jwt hi hx ht),h.rel _ _ (qav hi hs) (qav hi ht)];rfl
theorem LState.bound(h:LState n D K M0 M T)(h8:n<=8)(hK:1<=K)(hp:Pos n D (rowF M0))(ha:∀s,s<n->ent M0 s s<=K)(hcase:(∃i j,CurA n (rowF M) i j)\/(∃i,CurS n (rowF M) i)\/∀i,i<n->OKr (rowF M) i):
  (∀s t,s<n->t<n->ent M s t<=bigK D K/\ -(bigK D K)<=ent M s t)/\∀s t,s<n->t<n->ent T s t<=vecB D K (bigK D K) 7/\ -(vecB D K (bigK D K) 7)<=ent T s t:=by
 have hn:=λs hs=>qph (s:=s) h.pos h8 hK h.good hcase hs
 refine⟨λs t hs ht=>h.pos.bound hn hs ht,λs t hs ht=>?_⟩;refine xcs hp h8 hK ha (λx=>ent T x t) ?_ hs;rw[<-qhm (a:=rowF M0) (n:=n) (λx y=>ent T x y) t,<-h.rel t t ht ht];exact hn t ht
end
theorem qei{a:Nat->Row}{n:Nat}(h0:∀i j,i≠j->a i j=0)(h1:∀i,i<n->0<a i i):∀k,k<=n->(∀t,t<=k->0<lead a t)/\∀i j,k<=i->k<=j->stg a k i j=lead a k*a i j:=by
 intro k
 induction k with
 |zero=>
  intro _;refine⟨λt ht=>?_,λi j _ _=>by rw[zcb,zav,xT]⟩;obtain rfl:t=0:=by omega
  rw[zav];decide
 |succ k ih=>
  intro hk;obtain⟨p,q⟩:=ih (by omega);have e:lead a (k+1)=lead a k*a k k:=by rw[zau,q k k (qK _) (qK _)]
  have pk:=p k (qK _);have pk1:0<lead a (k+1):=by rw[e];exact xK pk (h1 k (by omega))
  refine⟨λt ht=>?_,λi j hi hj=>?_⟩
  ·rcases(by omega:t<=k\/t=k+1)with h | h
   ·exact p t h
   ·rw[h];exact pk1
  ·have r:=zcg (a:=a) (k:=k) (λt ht=>by have:=p t ht;omega) i j;rw[q i j (by omega) (by omega),q i k (by omega) (qK _),q k j (qK _) (by omega),h0 i k (by omega),Int.mul_zero,Int.zero_mul,Int.sub_zero]at r;have e2:lead a (k+1)*(lead a k*a i j)=lead a k*(lead a (k+1)*a i j):=Int.mul_left_comm _ _ _;rw[e2]at r;exact qY (by omega) r
theorem qpw{a:Nat->Row}{n:Nat}{c:Int}(h0:∀i j,i≠j->a i j=0)(h1:∀i,i<n->0<a i i)(h2:∀i,i<n->a i i<=c)(hc:0<=c):∀k,k<=n->lead a k<=c^k:=by
 intro k
 induction k with
 |zero=>intro _;rw[zav,xI];exact qS _
 |succ k ih=>
  intro hk;obtain⟨p,q⟩:=qei h0 h1 k (by omega);rw[zau,q k k (qK _) (qK _),qT];exact Int.mul_le_mul (ih (by omega)) (h2 k (by omega)) (by have:=h1 k (by omega);omega) (Int.pow_nonneg hc)
theorem qxt{a:Nat->Row}{n:Nat}(hs:∀i j,i<n->j<n->a i j=a j i)(hp:∀k,k<=n->0<lead a k):∃D,Pos n D a:=by
 have:∀m,m<=n->∃D,∀k,k<=m->lead a k<=D:=by
  intro m
  induction m with
  |zero=>intro _;exact⟨lead a 0,λk hk=>by
    have e:k=0:=by omega
    rw[e];exact qS _⟩
  |succ m ih=>
   intro hm;obtain⟨D,h⟩:=ih (by omega);refine⟨max D (lead a (m+1)),λk hk=>?_⟩;rcases(by omega:k<=m\/k=m+1)with h1 | h1
   ·have:=h k h1;omega
   ·rw[h1];omega
 obtain⟨D,h⟩:=this n (qK _);exact⟨D,hs,hp,h⟩
theorem qxu{a:Nat->Row}{n:Nat}{c:Int}(hs:∀i j,i<n->j<n->a i j=a j i)(hp:∀k,k<=n->0<lead a k)(hd:∀s,s<n->a s s<=c)(hc:1<=c):Pos n (c^n) a:=by
 obtain⟨D,h⟩:=qxt hs hp
 have key:∀k,k<=n->lead a k<=c^k:=by
  intro k
  induction k with
  |zero=>intro _;rw[zav,xI];exact qS _
  |succ k ih=>
   intro hk;have d:=h.down (s:=k) (by omega) k (qK _);rw[<-zau]at d;have p:=hp k (by omega);have m1:lead a k*a k k<=lead a k*c:=qX (hd k (by omega)) (by omega);have m2:lead a k*c<=c^k*c:=qJ (ih (by omega)) (by omega);rw[qT];omega
 refine⟨hs,hp,λk hk=>xY (key k hk) ?_⟩;obtain⟨m,rfl⟩:∃m,n=k+m:=⟨n-k,by omega⟩
 clear key h hs hp hd hk D
 induction m with
 |zero=>exact qS _
 |succ m ih=>
  rw[<-Nat.add_assoc,qT];have:0<=c^(k+m):=Int.pow_nonneg (by omega);have:=qX hc this;omega
def zkq(n:Nat)(M:List (List Int)):Prop:=(∀k,k<n+1->0<lead (rowF M) k)/\lead (rowF M) n<=10000
instance (n:Nat)(M:List (List Int)):Decidable (zkq n M):=inferInstanceAs (Decidable (_/\_))
def zqx(l:List Int)(kind n:Nat):List (List Int):=if zkq n (rawM l kind n)then rawM l kind n else diaM l (rawK l kind n) n 2
theorem qxv{l:List Int}{k n:Nat}(h8:n<=8):zkq n (diaM l k n 2):=by
 have h0:∀i j,i≠j->rowF (diaM l k n 2) i j=0:=by
  intro i j hij
  show ent (diaM l k n 2) i j=0
  by_cases h:i<n/\j<n
  ·rw[qpp h.1 h.2,if_neg hij]
  ·exact(zmb (l:=l) (k:=k) (n:=n) (most:=2) (by decide) (by decide)).shp.out (by omega)
 have hd:∀i,i<n->0<rowF (diaM l k n 2) i i/\rowF (diaM l k n 2) i i<=2:=by
  intro i hi
  show 0<ent (diaM l k n 2) i i/\ent (diaM l k n 2) i i<=2
  rw[qpp hi hi,if_pos rfl];have:=zbc l (zak l k i) (show(1:Int)<=2 by decide);omega
 refine⟨λt ht=>(qei h0 (λi hi=>(hd i hi).1) n (qK _)).1 t (by omega),?_⟩;have:=qpw h0 (λi hi=>(hd i hi).1) (λi hi=>(hd i hi).2) (by decide) n (qK _)
 have h2:(2:Int)^n<=2^8:=by
  have:=Nat.pow_le_pow_right (n:=2) (by decide) h8
  exact_mod_cast this
 have e8:(2:Int)^8=256:=by decide
 omega
theorem xcy{l:List Int}{kind n:Nat}(hn:1<=n)(h8:n<=8):SmallG n (zqx l kind n)/\zkq n (zqx l kind n):=by
 unfold zqx;split
 ·rename_i h;exact⟨zxv hn,h⟩
 ·exact⟨zmb (by decide) (by decide),qxv h8⟩
theorem qxw{n:Nat}{M:List (List Int)}(h:SmallG n M)(hg:zkq n M):Pos n (16^n) (rowF M):=
 qxu h.sym (λk hk=>hg.1 k (by omega)) (λs _=>(h.bnd s s).2) (by decide)
instance (a:Nat->Row)(i j:Nat):Decidable (SZ a i j):=inferInstanceAs (Decidable (_/\_))
instance (a:Nat->Row)(i:Nat):Decidable (LV a i):=inferInstanceAs (Decidable (_<=_))
theorem qxx{n:Nat}{a:Nat->Row}{i j i' j':Nat}(h:CurA n a i j)(h':CurA n a i' j'):i=i'/\j=j':=by
 have e:i=i':=by
  rcases qW i i' with h1 | h1
  ·exact absurd ((h'.pre i h1).1 j h.hj) h.no
  ·rcases qW i' i with h2 | h2
   ·exact absurd ((h.pre i' h2).1 j' h'.hj) h'.no
   ·omega
 subst e;refine⟨rfl,?_⟩;rcases qW j j' with h1 | h1
 ·exact absurd (h.up j' h1 h'.hj) h'.no
 ·rcases qW j' j with h2 | h2
  ·exact absurd (h'.up j h2 h.hj) h.no
  ·omega
theorem qxy{n:Nat}{a:Nat->Row}{i i':Nat}(h:CurS n a i)(h':CurS n a i'):i=i':=by
 rcases qW i i' with h1 | h1
 ·exact absurd ((h'.pre i h1).2 h.h0) h.no
 ·rcases qW i' i with h2 | h2
  ·exact absurd ((h.pre i' h2).2 h'.h0) h'.no
  ·omega
theorem jwy{n:Nat}{a:Nat->Row}{i j i':Nat}(h:CurA n a i j)(h':CurS n a i'):False:=by
 rcases qW i i' with h1 | h1
 ·exact h.no ((h'.pre i h1).1 j h.hj)
 ·rcases qW i' i with h2 | h2
  ·exact h'.no ((h.pre i' h2).2 h'.h0)
  ·have e:i=i':=by omega
   subst e;exact h.no (h'.up j h.hj)
theorem qpx{n:Nat}(a:Nat->Row):(∃i j,CurA n a i j)\/(∃i,CurS n a i)\/∀i,i<n->OKr a i:=by
 have key:∀m,m<=n->(∃i j,CurA n a i j)\/(∃i,CurS n a i)\/∀i,i<m->OKr a i:=by
  intro m
  induction m with
  |zero=>intro _;exact .inr (.inr λi h=>absurd h (by omega))
  |succ m ih=>
   intro hm;rcases ih (by omega)with h | h | h
   ·exact .inl h
   ·exact .inr (.inl h)
   ·have inner:∀c j,j+c=m->(∀l,j<=l->l<m->SZ a m l)->(∃j,CurA n a m j)\/∀l,l<m->SZ a m l:=by
     intro c
     suffices H:∀j,j<=m->(∀l,j<=l->l<m->SZ a m l)->(∃j,CurA n a m j)\/∀l,l<m->SZ a m l by
      intro j hj hl;exact H j (by omega) hl
     intro j
     induction j with
     |zero=>intro _ hl;exact .inr λl hlm=>hl l (Nat.zero_le _) hlm
     |succ j ihj=>
      intro hj hl;by_cases hz:SZ a m j
      ·refine ihj (by omega) λl h1 h2=>?_
       rcases(by omega:l=j\/j+1<=l)with e | e
       ·rw[e];exact hz
       ·exact hl l e h2
      ·exact .inl ⟨j,by omega,by omega,h,λl h1 h2=>hl l (by omega) h2,hz⟩
    rcases inner 0 m rfl (λl h1 h2=>absurd h2 (by omega))with⟨j,hj⟩ | hz
    ·exact .inl ⟨m,j,hj⟩
    ·by_cases h0:0<m
     ·by_cases hl:LV a m
      ·refine .inr (.inr λi hi=>?_);rcases(by omega:i<m\/i=m)with e | e
       ·exact h i e
       ·subst e;exact⟨hz,λ_=>hl⟩
      ·exact .inr (.inl ⟨m,by omega,h0,h,hz,hl⟩)
     ·refine .inr (.inr λi hi=>?_);have e:i=m:=by omega
      subst e;exact⟨hz,λh=>absurd h h0⟩
 exact key n (qK _)
def zfl(n:Nat)(M:List (List Int))(i j:Nat):List (List Int):=addU n i j (-(zep (stg (rowF M) j i j) (lead (rowF M) (j+1))))
def zgz(n i:Nat):List (List Int):=zdb (idM n) i (i-1)
inductive Ends(n:Nat)(M' T':List (List Int)):Nat->List (List Int)->List (List Int)->Prop
 |done {k:Nat}:(∀i,i<n->OKr (rowF M') i)->Ends n M' T' k M' T'
 |add {k i j:Nat} {M T:List (List Int)}:CurA n (rowF M) i j->Ends n M' T' k (cgM n M (zfl n M i j)) (mulM n T (zfl n M i j))->Ends n M' T' (k+1) M T
 |sw {k i:Nat} {M T:List (List Int)}:CurS n (rowF M) i->Ends n M' T' k (cgM n M (zgz n i)) (mulM n T (zgz n i))->Ends n M' T' (k+1) M T
theorem qpy{n:Nat}{D K:Int}{M0:List (List Int)}(h8:n<=8)(hK:1<=K)(hKD:8*D<=K):∀(m:Nat) (M T:List (List Int)),LState n D K M0 M T->MuOK n (rowF M) m->∃k M' T',Ends n M' T' k M T/\LState n D K M0 M' T':=by
 intro m
 induction m using Nat.strongRecOn with
 |_ m ih=>
  intro M T hL hm;rcases qpx (n:=n) (rowF M)with⟨i,j,hc⟩ | ⟨i,hc⟩ | h
  ·obtain⟨hL',hmu⟩:=hL.add h8 hK hKD hc;obtain⟨m',hlt,hm'⟩:=hmu m hm;obtain⟨k,M',T',he,hl⟩:=ih m' hlt _ _ hL' hm';exact⟨k+1,M',T',.add hc he,hl⟩
  ·obtain⟨p,rfl⟩:∃p,i=p+1:=⟨i-1,by have:=hc.h0;omega⟩
   obtain⟨hL',hmu⟩:=hL.sw h8 hK hc;obtain⟨m',hlt,hm'⟩:=hmu m hm;obtain⟨k,M',T',he,hl⟩:=ih m' hlt _ _ hL' hm';exact⟨k+1,M',T',.sw hc he,hl⟩
  ·exact⟨0,M,T,.done h,hL⟩
theorem qpz{n k:Nat}{D K:Int}{M0 M' T' M T:List (List Int)}(h8:n<=8)(hK:1<=K)(hKD:8*D<=K)(hL:LState n D K M0 M T)(h:Ends n M' T' k M T):
  ((∀i,i<n->OKr (rowF M) i)/\M=M'/\T=T')\/(∃k' i j,k=k'+1/\CurA n (rowF M) i j/\LState n D K M0 (cgM n M (zfl n M i j)) (mulM n T (zfl n M i j))/\Ends n M' T' k' (cgM n M (zfl n M i j)) (mulM n T (zfl n M i j)))\/
   ∃k' i,k=k'+1/\CurS n (rowF M) i/\LState n D K M0 (cgM n M (zgz n i)) (mulM n T (zgz n i))/\Ends n M' T' k' (cgM n M (zgz n i)) (mulM n T (zgz n i)):=by
 cases h with
 |done h=>exact .inl ⟨h,rfl,rfl⟩
 |add hc he=>
  rename_i k' i j;exact .inr (.inl ⟨k',i,j,rfl,hc,(hL.add h8 hK hKD hc).1,he⟩)
 |sw hc he=>
  rename_i k' i;obtain⟨p,rfl⟩:∃p,i=p+1:=⟨i-1,by have:=hc.h0;omega⟩
  exact .inr (.inr ⟨k',p+1,rfl,hc,(hL.sw h8 hK hc).1,he⟩)
theorem qxz{n:Nat}{D K:Int}{M0 M' T':List (List Int)}(h8:n<=8)(hK:1<=K)(hKD:8*D<=K):∀{k:Nat} {M T:List (List Int)},Ends n M' T' k M T->LState n D K M0 M T->lead (rowF M') n=lead (rowF M) n:=by
 intro k M T h
 induction h with
 |done h=>intro _;rfl
 |add hc he ih=>
  rename_i k i j M T;intro hL;have hi:=hc.hi;have hj:=hc.hj;rw[ih (hL.add h8 hK hKD hc).1];have e:=jws (c:= -(zep (stg (rowF M) j i j) (lead (rowF M) (j+1)))) hL.shM (show i≠j by omega) hi (show j<n by omega);unfold zfl;rw[e];exact zma hj hi (hL.pos.ne (qK _)) (qK _)
 |sw hc he ih=>
  rename_i k i M T;intro hL;obtain⟨p,rfl⟩:∃p,i=p+1:=⟨i-1,by have:=hc.h0;omega⟩
  have hi:=hc.hi;rw[ih (hL.sw h8 hK hc).1];have e:=xzq hL.shM hi;obtain⟨_,_,g,_⟩:=qaw hL.pos hK hc hL.good;simp only[xQ]at g
  show lead (rowF (cgM n M (zdb (idM n) (p+1) p))) n=_
  rw[e];exact g n (qK _) (by omega)
theorem zva{c:Int}(hc:1<=c):∀k:Nat,1<=c^k
 |0=>by rw[xI];decide
 |k+1=>by
  rw[qT];have:=Int.mul_le_mul (zva hc k) hc (by decide) (by have:=zva hc k;omega);omega
theorem qqa{c:Int}(hc:1<=c){n:Nat}(h:1<=n):c<=c^n:=by
 obtain⟨m,rfl⟩:∃m,n=m+1:=⟨n-1,by omega⟩
 rw[qT];have:=qJ (zva hc m) (show 0<=c by omega);omega
theorem xcz{n:Nat}{c:Int}{M0:List (List Int)}(h1:1<=n)(h8:n<=8)(hc:1<=c)(hS:Shp n M0)(hp:Pos n (c^n) (rowF M0))(ha:∀s,s<n->ent M0 s s<=c)(hd:lead (rowF M0) n<=10000):
  ∃k M' T',Ends n M' T' k M0 (idM n)/\LState n (c^n) (8*c^n) M0 M0 (idM n)/\LState n (c^n) (8*c^n) M0 M' T'/\Red n (rowF M')/\lead (rowF M') n=lead (rowF M0) n:=by
 have hcc:=qqa hc h1;have h1c:=zva hc n;have hst:LState n (c^n) (8*c^n) M0 M0 (idM n):=LState.start hS hp (by omega) λs hs=>by have:=ha s hs;omega
 obtain⟨k,M',T',he,hl⟩:=qpy h8 (by omega) (qS _) _ _ _ hst (qeh h8);have hdet:=qxz h8 (by omega) (qS _) he hst
 have hok:∀i,i<n->OKr (rowF M') i:=by
  clear hdet hl hst hp hd ha hS;generalize idM n=T at he
  induction he with
  |done h=>exact h
  |add _ _ ih=>exact ih
  |sw _ _ ih=>exact ih
 exact⟨k,M',T',he,hst,hl,⟨h1,h8,hl.pos.sym,λk hk=>hl.pos.pos (k+1) (by omega),by rw[hdet];exact hd,λi j hi hj=>(hok i hi).1 j hj,λi h0 hi=>(hok i hi).2 h0⟩,hdet⟩
noncomputable section
def bN(n:Nat)(f:Nat->Bool):Bool:=Nat.rec (motive:=λ_=>(Nat->Bool)->Bool) (λf=>f 0) (λp _ f=>f (Nat.succ p)) n f
theorem qrz(n:Nat)(f:Nat->Bool):bN n f=f n:=by cases n<;>rfl
def bI(x:Int)(f:Int->Bool):Bool:=Int.rec (motive:=λ_=>(Int->Bool)->Bool) (λm f=>bN m λm=>f (.ofNat m)) (λm f=>bN m λm=>f (.negSucc m)) x f
theorem ziw(x:Int)(f:Int->Bool):bI x f=f x:=by
 cases x with
 |ofNat m=>exact qrz m _
 |negSucc m=>exact qrz m _
def leB(x y:Int):Bool:=Int.rec (motive:=λ_=>Bool) (λ_=>true) (λ_=>false) (y-x)
theorem zgm{x y:Int}:leB x y=true↔x<=y:=by
 unfold leB;generalize h:y-x=z;cases z with
 |ofNat m=>exact⟨λ_=>by have:(0:Int)<=Int.ofNat m:=Int.natCast_nonneg m;omega,λ_=>rfl⟩
 |negSucc m=>exact⟨λh=>by simp at h,λh'=>by have:=Int.negSucc_lt_zero m;omega⟩
def ifB(b:Bool)(x y:Bool):Bool:=Bool.rec (motive:=λ_=>Bool) y x b
theorem zem{b x y:Bool}(h:b=true):ifB b x y=x:=by subst h;rfl
theorem zkr{b x y:Bool}(h:¬b=true):ifB b x y=y:=by
 cases b with
 |false=>rfl
 |true=>exact absurd rfl h
def szB(l d:Int):Bool:=ifB (leB (2*l) d) (leB (-(2*l)) d) false
theorem zvf{l d:Int}:szB l d=true↔2*l<=d/\ -(2*l)<=d:=by
 unfold szB;by_cases h:leB (2*l) d=true
 ·rw[zem h,zgm];exact⟨λh'=>⟨zgm.1 h,h'⟩,λh'=>h'.2⟩
 ·rw[zkr h];exact⟨λh'=>by simp at h',λh'=>absurd (zgm.2 h'.1) h⟩
def M1(a:Int):List (List Int):=[[a]]
def M2(a t b:Int):List (List Int):=[[a,t],[t,b]]
def M3(a t s b r c:Int):List (List Int):=[[a,t,s],[t,b,r],[s,r,c]]
abbrev K2:=Int->Int->Int->Bool
abbrev K3:=Int->Int->Int->Int->Int->Int->Bool
def go2(k:K2)(a t b:Int):Bool:=bI a λa=>bI t λt=>bI b λb=>k a t b
theorem jyc(k:K2)(a t b:Int):go2 k a t b=k a t b:=by simp only[go2,ziw]
def go3(k:K3)(a t s b r c:Int):Bool:=bI a λa=>bI t λt=>bI s λs=>bI b λb=>bI r λr=>bI c λc=>k a t s b r c
theorem zyf(k:K3)(a t s b r c:Int):go3 k a t s b r c=k a t s b r c:=by simp only[go3,ziw]
def stp2(P:K2)(ih:K2)(a t b:Int):Bool:=
 ifB (szB t a)
  (ifB (leB (3*(a*a)) (4*((a*b-t*t)+t*t))) (P a t b) (go2 ih b t a))
  (bI (zep t a) λq=>go2 ih a (t-q*a) (b-2*q*t+q*q*a))
def run2(P:K2)(n:Nat):K2:=Nat.rec (motive:=λ_=>K2) (λ_ _ _=>false) (λ_ ih=>stp2 P ih) n
def stp3(P:K3)(ih:K3)(a t s b r c:Int):Bool:=
 ifB (szB t a)
  (bI (a*b-t*t) λd=>ifB (leB (3*(a*a)) (4*(d+t*t)))
   (bI (a*r-s*t) λl=>ifB (szB l d)
    (ifB (szB s a)
     (ifB (leB (3*(d*d)) (4*(a*(c*d-a*(r*r)-b*(s*s)+2*(t*(r*s)))+l*l))) (P a t s b r c) (go3 ih a s t c r b))
     (bI (zep s a) λq=>go3 ih a t (s-q*a) b (r-q*t) (c-2*q*s+q*q*a)))
    (bI (zep l d) λq=>go3 ih a t (s-q*t) b (r-q*b) (c-2*q*r+q*q*b)))
   (go3 ih b t r a s c))
  (bI (zep t a) λq=>go3 ih a (t-q*a) s (b-2*q*t+q*q*a) (r-q*s) c)
def run3(P:K3)(n:Nat):K3:=Nat.rec (motive:=λ_=>K3) (λ_ _ _ _ _ _=>false) (λ_ ih=>stp3 P ih) n
end
theorem zvg(a:Nat->Row):lead a 1=a 0 0:=by rw[zau,zcb]
theorem stg1(a:Nat->Row)(i j:Nat):stg a 1 i j=a 0 0*a i j-a i 0*a 0 j:=by
 simp[stg,bord,det,zec,zct,zbr,sg];grind
theorem qbq(a:Nat->Row):lead a 2=a 0 0*a 1 1-a 1 0*a 0 1:=by rw[zau,stg1]
theorem kgn(a:Nat->Row):lead a 3=a 0 0*(a 1 1*a 2 2-a 2 1*a 1 2)-a 1 0*(a 0 1*a 2 2-a 2 1*a 0 2)+a 2 0*(a 0 1*a 1 2-a 1 1*a 0 2):=by
 simp[lead,det,zec,zct,zbr,sg,qM];grind
theorem qig(a t s b r c q:Int):cgM 3 (M3 a t s b r c) (addU 3 1 0 (-q))=M3 a (t-q*a) s (b-2*q*t+q*q*a) (r-q*s) c:=by
 simp[cgM,mulM,trM,mkM,addU,setM,idM,sumR,ent,M3,qM];grind
theorem qih(a t s b r c q:Int):cgM 3 (M3 a t s b r c) (addU 3 2 0 (-q))=M3 a t (s-q*a) b (r-q*t) (c-2*q*s+q*q*a):=by
 simp[cgM,mulM,trM,mkM,addU,setM,idM,sumR,ent,M3,qM];grind
theorem qii(a t s b r c q:Int):cgM 3 (M3 a t s b r c) (addU 3 2 1 (-q))=M3 a t (s-q*t) b (r-q*b) (c-2*q*r+q*q*b):=by
 simp[cgM,mulM,trM,mkM,addU,setM,idM,sumR,ent,M3,qM];grind
theorem jma(a t s b r c:Int):cgM 3 (M3 a t s b r c) (zgz 3 1)=M3 b t r a s c:=by
 simp[cgM,mulM,trM,mkM,zgz,zdb,idM,sumR,ent,M3,qM]
theorem jmb(a t s b r c:Int):cgM 3 (M3 a t s b r c) (zgz 3 2)=M3 a s t c r b:=by
 simp[cgM,mulM,trM,mkM,zgz,zdb,idM,sumR,ent,M3,qM]
theorem xsv(a t b q:Int):cgM 2 (M2 a t b) (addU 2 1 0 (-q))=M2 a (t-q*a) (b-2*q*t+q*q*a):=by
 simp[cgM,mulM,trM,mkM,addU,setM,idM,sumR,ent,M2,qM];grind
theorem kgo(a t b:Int):cgM 2 (M2 a t b) (zgz 2 1)=M2 b t a:=by
 simp[cgM,mulM,trM,mkM,zgz,zdb,idM,sumR,ent,M2,qM]
section
variable{a t s b r c:Int}
theorem zri:rowF (M3 a t s b r c) 0 0=a:=rfl
theorem qij:rowF (M3 a t s b r c) 0 1=t:=rfl
theorem kgp:rowF (M3 a t s b r c) 0 2=s:=rfl
theorem zyg:rowF (M3 a t s b r c) 1 0=t:=rfl
theorem qik:rowF (M3 a t s b r c) 1 1=b:=rfl
theorem kgq:rowF (M3 a t s b r c) 1 2=r:=rfl
theorem qil:rowF (M3 a t s b r c) 2 0=s:=rfl
theorem jmc:rowF (M3 a t s b r c) 2 1=r:=rfl
theorem kgr:rowF (M3 a t s b r c) 2 2=c:=rfl
theorem zsv:SZ (rowF (M3 a t s b r c)) 1 0↔szB t a=true:=by
 rw[zvf];unfold SZ;rw[zcb,zvg,zyg,zri]
theorem qsa:SZ (rowF (M3 a t s b r c)) 2 0↔szB s a=true:=by
 rw[zvf];unfold SZ;rw[zcb,zvg,qil,zri]
theorem qet:SZ (rowF (M3 a t s b r c)) 2 1↔szB (a*r-s*t) (a*b-t*t)=true:=by
 rw[zvf];unfold SZ;rw[stg1,qbq,zri,jmc,qil,qij,qik,zyg]
theorem qsb:LV (rowF (M3 a t s b r c)) 1↔leB (3*(a*a)) (4*((a*b-t*t)+t*t))=true:=by
 rw[zgm];unfold LV;rw[zvg,show(1:Nat)-1=0 from rfl,show(1:Nat)+1=2 from rfl,zav,qbq,zcb,zri,qik,zyg,qij,xT]
theorem kgs:LV (rowF (M3 a t s b r c)) 2↔leB (3*((a*b-t*t)*(a*b-t*t))) (4*(a*(c*(a*b-t*t)-a*(r*r)-b*(s*s)+2*(t*(r*s)))+(a*r-s*t)*(a*r-s*t)))=true:=by
 rw[zgm];unfold LV;rw[qbq,show(2:Nat)-1=1 from rfl,show(2:Nat)+1=3 from rfl,zvg,kgn,stg1,zri,qik,zyg,qij,kgp,kgq,qil,jmc,kgr];have e:a*(b*c-r*r)-t*(t*c-r*s)+s*(t*r-b*s)=c*(a*b-t*t)-a*(r*r)-b*(s*s)+2*(t*(r*s)):=by grind
 rw[e]
theorem jmd:zfl 3 (M3 a t s b r c) 1 0=addU 3 1 0 (-(zep t a)):=by unfold zfl;rw[zcb,zvg,zyg,zri]
theorem jme:zfl 3 (M3 a t s b r c) 2 0=addU 3 2 0 (-(zep s a)):=by unfold zfl;rw[zcb,zvg,qil,zri]
theorem jmf:zfl 3 (M3 a t s b r c) 2 1=addU 3 2 1 (-(zep (a*r-s*t) (a*b-t*t))):=by
 unfold zfl;rw[stg1,qbq,zri,jmc,qil,qij,qik,zyg]
end
section
variable{a t b:Int}
theorem jmg:rowF (M2 a t b) 0 0=a:=rfl
theorem kgt:rowF (M2 a t b) 0 1=t:=rfl
theorem jmh:rowF (M2 a t b) 1 0=t:=rfl
theorem kgu:rowF (M2 a t b) 1 1=b:=rfl
theorem qsc:SZ (rowF (M2 a t b)) 1 0↔szB t a=true:=by
 rw[zvf];unfold SZ;rw[zcb,zvg,jmh,jmg]
theorem kgv:LV (rowF (M2 a t b)) 1↔leB (3*(a*a)) (4*((a*b-t*t)+t*t))=true:=by
 rw[zgm];unfold LV;rw[zvg,show(1:Nat)-1=0 from rfl,show(1:Nat)+1=2 from rfl,zav,qbq,zcb,jmg,kgu,jmh,kgt,xT]
theorem ktd:zfl 2 (M2 a t b) 1 0=addU 2 1 0 (-(zep t a)):=by unfold zfl;rw[zcb,zvg,jmh,jmg]
end
theorem xsw{P:K3}{M' T':List (List Int)}{k:Nat}{M T:List (List Int)}(h:Ends 3 M' T' k M T):∀{f:Nat} {a t s b r c:Int},M=M3 a t s b r c->run3 P f a t s b r c=true->
  ∃a t s b r c,M'=M3 a t s b r c/\P a t s b r c=true:=by
 induction h with
 |done hok=>
  intro f a t s b r c e hr;cases f with
  |zero=>exact absurd hr (by simp[run3])
  |succ f=>
   subst e;have o1:=hok 1 (by omega);have o2:=hok 2 (by omega);have hr:stp3 P (run3 P f) a t s b r c=true:=hr;unfold stp3 at hr;rw[zem (zsv.1 (o1.1 0 (by omega))),ziw,zem (qsb.1 (o1.2 (by omega))),ziw,zem (qet.1 (o2.1 1 (by omega))),zem (qsa.1 (o2.1 0 (by omega))),zem (kgs.1 (o2.2 (by omega)))]at hr;exact⟨_,_,_,_,_,_,rfl,hr⟩
 |add hc he ih=>
  rename_i k i j M T;intro f a t s b r c e hr;cases f with
  |zero=>exact absurd hr (by simp[run3])
  |succ f=>
   subst e;have hr:stp3 P (run3 P f) a t s b r c=true:=hr;unfold stp3 at hr;have hi:=hc.hi;have hj:=hc.hj;rcases(by omega:(i=1/\j=0)\/(i=2/\j=1)\/(i=2/\j=0))with⟨rfl,rfl⟩ | ⟨rfl,rfl⟩ | ⟨rfl,rfl⟩
   ·rw[zkr (λx=>hc.no (zsv.2 x)),ziw,zyf]at hr;exact ih (by rw[jmd,qig]) hr
   ·have o1:=hc.pre 1 (by omega);rw[zem (zsv.1 (o1.1 0 (by omega))),ziw,zem (qsb.1 (o1.2 (by omega))),ziw,zkr (λx=>hc.no (qet.2 x)),ziw,zyf]at hr;exact ih (by rw[jmf,qii]) hr
   ·have o1:=hc.pre 1 (by omega);rw[zem (zsv.1 (o1.1 0 (by omega))),ziw,zem (qsb.1 (o1.2 (by omega))),ziw,zem (qet.1 (hc.up 1 (by omega) (by omega))),zkr (λx=>hc.no (qsa.2 x)),ziw,zyf]at hr;exact ih (by rw[jme,qih]) hr
 |sw hc he ih=>
  rename_i k i M T;intro f a t s b r c e hr;cases f with
  |zero=>exact absurd hr (by simp[run3])
  |succ f=>
   subst e;have hr:stp3 P (run3 P f) a t s b r c=true:=hr;unfold stp3 at hr;have hi:=hc.hi;have h0:=hc.h0;rcases(by omega:i=1\/i=2)with rfl | rfl
   ·rw[zem (zsv.1 (hc.up 0 (by omega))),ziw,zkr (λx=>hc.no (qsb.2 x)),zyf]at hr;exact ih (by rw[jma]) hr
   ·have o1:=hc.pre 1 (by omega);rw[zem (zsv.1 (o1.1 0 (by omega))),ziw,zem (qsb.1 (o1.2 (by omega))),ziw,zem (qet.1 (hc.up 1 (by omega))),zem (qsa.1 (hc.up 0 (by omega))),zkr (λx=>hc.no (kgs.2 x)),zyf]at hr;exact ih (by rw[jmb]) hr
theorem xsx{P:K2}{M' T':List (List Int)}{k:Nat}{M T:List (List Int)}(h:Ends 2 M' T' k M T):∀{f:Nat} {a t b:Int},M=M2 a t b->run2 P f a t b=true->∃a t b,M'=M2 a t b/\P a t b=true:=by
 induction h with
 |done hok=>
  intro f a t b e hr;cases f with
  |zero=>exact absurd hr (by simp[run2])
  |succ f=>
   subst e;have o1:=hok 1 (by omega);have hr:stp2 P (run2 P f) a t b=true:=hr;unfold stp2 at hr;rw[zem (qsc.1 (o1.1 0 (by omega))),zem (kgv.1 (o1.2 (by omega)))]at hr;exact⟨_,_,_,rfl,hr⟩
 |add hc he ih=>
  rename_i k i j M T;intro f a t b e hr;cases f with
  |zero=>exact absurd hr (by simp[run2])
  |succ f=>
   subst e;have hr:stp2 P (run2 P f) a t b=true:=hr;unfold stp2 at hr;have hi:=hc.hi;have hj:=hc.hj;obtain⟨rfl,rfl⟩:i=1/\j=0:=by omega
   rw[zkr (λx=>hc.no (qsc.2 x)),ziw,jyc]at hr;exact ih (by rw[ktd,xsv]) hr
 |sw hc he ih=>
  rename_i k i M T;intro f a t b e hr;cases f with
  |zero=>exact absurd hr (by simp[run2])
  |succ f=>
   subst e;have hr:stp2 P (run2 P f) a t b=true:=hr;unfold stp2 at hr;have hi:=hc.hi;have h0:=hc.h0;obtain rfl:i=1:=by omega
   rw[zem (qsc.1 (hc.up 0 (by omega))),zkr (λx=>hc.no (kgv.2 x)),jyc]at hr;exact ih (by rw[kgo]) hr
theorem kte{M' T':List (List Int)}{k:Nat}{M T:List (List Int)}(h:Ends 1 M' T' k M T):M'=M:=by
 cases h with
 |done _=>rfl
 |add hc _=>have:=hc.hi;have:=hc.hj;omega
 |sw hc _=>have:=hc.hi;have:=hc.h0;omega
noncomputable section
def allI(lo:Int)(n:Nat)(f:Int->Bool):Bool:=Nat.rec (motive:=λ_=>Bool) true (λk ih=>bI (lo+ .ofNat k) λx=>ifB (f x) ih false) n
theorem zen{lo:Int}{f:Int->Bool}:∀{n:Nat},allI lo n f=true->∀x,lo<=x->x<lo+n->f x=true:=by
 intro n
 induction n with
 |zero=>intro _ x h1 h2;omega
 |succ n ih=>
  intro h x h1 h2;have h:bI (lo+ .ofNat n) (λx=>ifB (f x) (allI lo n f) false)=true:=h;rw[ziw]at h;by_cases hf:f (lo+ .ofNat n)=true
  ·rw[zem hf]at h;rcases(by omega:x<lo+n\/x=lo+n)with h3 | h3
   ·exact ih h x h1 h3
   ·rw[h3];exact hf
  ·rw[zkr hf]at h;simp at h
def chk2(P:K2):Bool:=allI 1 6 λa=>allI 1 6 λb=>allI (-2) 5 λt=>ifB (leB 1 (a*b-t*t)) (run2 P 16 a t b) true
def dia2(P:K2):Bool:=allI 1 9 λa=>allI 1 9 λb=>run2 P 16 a 0 b
def chk3(P:K3)(a:Int):Bool:=allI 1 6 λb=>allI 1 6 λc=>allI (-2) 5 λt=>ifB (leB 1 (a*b-t*t)) (allI (-2) 5 λs=>allI (-2) 5 λr=>
 ifB (leB 1 (c*(a*b-t*t)-a*(r*r)-b*(s*s)+2*(t*(r*s)))) (run3 P 16 a t s b r c) true) true
def dia3(P:K3):Bool:=allI 1 9 λa=>allI 1 9 λb=>allI 1 9 λc=>run3 P 16 a 0 0 b 0 c
end
theorem qsd(l:List Int)(k:Nat){m:Int}(h1:1<=m)(h9:m<=9):∃a b c,diaM l k 3 m=M3 a 0 0 b 0 c/\(1<=a/\a<=9)/\(1<=b/\b<=9)/\1<=c/\c<=9:=by
 have b0:=zbc l (zak l k 0) h1;have b1:=zbc l (zak l k 1) h1;have b2:=zbc l (zak l k 2) h1;exact⟨1+zbx l (zak l k 0)%m,1+zbx l (zak l k 1)%m,1+zbx l (zak l k 2)%m,rfl,by omega,by omega,by omega⟩
theorem qse(l:List Int)(k:Nat){m:Int}(h1:1<=m)(h9:m<=9):∃a b,diaM l k 2 m=M2 a 0 b/\(1<=a/\a<=9)/\1<=b/\b<=9:=by
 have b0:=zbc l (zak l k 0) h1;have b1:=zbc l (zak l k 1) h1;exact⟨1+zbx l (zak l k 0)%m,1+zbx l (zak l k 1)%m,rfl,by omega,by omega⟩
theorem qsf(l:List Int)(k:Nat){m:Int}(h1:1<=m)(h9:m<=9):∃a,diaM l k 1 m=M1 a/\1<=a/\a<=9:=by
 have b0:=zbc l (zak l k 0) h1;exact⟨1+zbx l (zak l k 0)%m,rfl,by omega⟩
def Gen3(a t s b r c:Int):Prop:=(1<=a/\a<=6)/\(1<=b/\b<=6)/\(1<=c/\c<=6)/\(-2<=t/\t<=2)/\(-2<=s/\s<=2)/\ -2<=r/\r<=2
def Dia3(a t s b r c:Int):Prop:=(1<=a/\a<=9)/\(1<=b/\b<=9)/\(1<=c/\c<=9)/\t=0/\s=0/\r=0
def Gen2(a t b:Int):Prop:=(1<=a/\a<=6)/\(1<=b/\b<=6)/\ -2<=t/\t<=2
def Dia2(a t b:Int):Prop:=(1<=a/\a<=9)/\(1<=b/\b<=9)/\t=0
theorem kgw(l:List Int)(kind:Nat):∃a t s b r c,rawM l kind 3=M3 a t s b r c/\(Gen3 a t s b r c\/Dia3 a t s b r c):=by
 unfold rawM;split
 ·have h6:(1:Int)<=6:=by decide
  have b0:=zbc l (zak l 0 0) h6;have b1:=zbc l (zak l 0 1) h6;have b2:=zbc l (zak l 0 2) h6;have o1:=zhs l (zak l 0 3) 1 0;have o2:=zhs l (zak l 0 3) 2 0;have o3:=zhs l (zak l 0 3) 2 1;exact⟨1+zbx l (zak l 0 0)%6,offZ l (zak l 0 3) 1 0,offZ l (zak l 0 3) 2 0,1+zbx l (zak l 0 1)%6,offZ l (zak l 0 3) 2 1,1+zbx l (zak l 0 2)%6,rfl,.inl ⟨by omega,by omega,by omega,o1,o2,o3⟩⟩
 split
 ·have b:=zbc l 0 (show(1:Int)<=3 by decide);refine⟨2+zbx l 0%3,-1,0,2,-1,2,rfl,.inl ⟨by omega,by omega,by omega,by omega,by omega,by omega⟩⟩
 split
 ·have b:=zbc l 0 (show(1:Int)<=2 by decide);refine⟨2,-1,0,2,-1,2+zbx l 0%2,rfl,.inl ⟨by omega,by omega,by omega,by omega,by omega,by omega⟩⟩
 split
 ·obtain⟨a,b,c,e,h1,h2,h3⟩:=qsd l 0 (m:=9) (by decide) (by decide);exact⟨a,0,0,b,0,c,e,.inr ⟨h1,h2,h3,rfl,rfl,rfl⟩⟩
 ·obtain⟨a,b,c,e,h1,h2,h3⟩:=qsd l 0 (m:=1) (by decide) (by decide);exact⟨a,0,0,b,0,c,e,.inr ⟨h1,h2,h3,rfl,rfl,rfl⟩⟩
theorem kgx(l:List Int)(kind:Nat):∃a t b,rawM l kind 2=M2 a t b/\(Gen2 a t b\/Dia2 a t b):=by
 unfold rawM;split
 ·have h6:(1:Int)<=6:=by decide
  have b0:=zbc l (zak l 0 0) h6;have b1:=zbc l (zak l 0 1) h6;have o1:=zhs l (zak l 0 2) 1 0;exact⟨1+zbx l (zak l 0 0)%6,offZ l (zak l 0 2) 1 0,1+zbx l (zak l 0 1)%6,rfl,.inl ⟨by omega,by omega,o1⟩⟩
 split
 ·have b:=zbc l 0 (show(1:Int)<=3 by decide);refine⟨2+zbx l 0%3,-1,2,rfl,.inl ⟨by omega,by omega,by omega⟩⟩
 split
 ·have b:=zbc l 0 (show(1:Int)<=2 by decide);refine⟨2,-1,2+zbx l 0%2,rfl,.inl ⟨by omega,by omega,by omega⟩⟩
 split
 ·obtain⟨a,b,e,h1,h2⟩:=qse l 0 (m:=9) (by decide) (by decide);exact⟨a,0,b,e,.inr ⟨h1,h2,rfl⟩⟩
 ·obtain⟨a,b,e,h1,h2⟩:=qse l 0 (m:=1) (by decide) (by decide);exact⟨a,0,b,e,.inr ⟨h1,h2,rfl⟩⟩
theorem kgy(l:List Int)(kind:Nat):∃a,rawM l kind 1=M1 a/\1<=a/\a<=9:=by
 unfold rawM;split
 ·have b0:=zbc l (zak l 0 0) (show(1:Int)<=6 by decide);exact⟨1+zbx l (zak l 0 0)%6,rfl,by omega⟩
 split
 ·have b:=zbc l 0 (show(1:Int)<=3 by decide);exact⟨2+zbx l 0%3,rfl,by omega⟩
 split
 ·have b:=zbc l 0 (show(1:Int)<=2 by decide);exact⟨2+zbx l 0%2,rfl,by omega⟩
 split
 ·exact qsf l 0 (by decide) (by decide)
 ·exact qsf l 0 (by decide) (by decide)
theorem jmi{P:K3}(h:allI 1 6 (chk3 P)=true){a t s b r c:Int}(hg:Gen3 a t s b r c)(h2:0<a*b-t*t)(h3:0<c*(a*b-t*t)-a*(r*r)-b*(s*s)+2*(t*(r*s))):run3 P 16 a t s b r c=true:=by
 obtain⟨ha,hb,hc,ht,hs,hr⟩:=hg;have g:=zen h a (by omega) (by omega);have g:=zen g b (by omega) (by omega);have g:=zen g c (by omega) (by omega);have g:=zen g t (by omega) (by omega);rw[zem (zgm.2 (by omega))]at g;have g:=zen g s (by omega) (by omega);have g:=zen g r (by omega) (by omega)
 rwa[zem (zgm.2 (by omega))]at g
theorem qeu{P:K3}(h:dia3 P=true){a t s b r c:Int}(hg:Dia3 a t s b r c):run3 P 16 a t s b r c=true:=by
 obtain⟨ha,hb,hc,rfl,rfl,rfl⟩:=hg;have g:=zen h a (by omega) (by omega);have g:=zen g b (by omega) (by omega);exact zen g c (by omega) (by omega)
theorem jmj{P:K2}(h:chk2 P=true){a t b:Int}(hg:Gen2 a t b)(h2:0<a*b-t*t):run2 P 16 a t b=true:=by
 obtain⟨ha,hb,ht⟩:=hg;have g:=zen h a (by omega) (by omega);have g:=zen g b (by omega) (by omega);have g:=zen g t (by omega) (by omega)
 rwa[zem (zgm.2 (by omega))]at g
theorem qev{P:K2}(h:dia2 P=true){a t b:Int}(hg:Dia2 a t b):run2 P 16 a t b=true:=by
 obtain⟨ha,hb,rfl⟩:=hg;have g:=zen h a (by omega) (by omega);exact zen g b (by omega) (by omega)
theorem qsg{Z:List (List Int)->Prop}{P2:K2}{P3:K3}(z1:∀a,1<=a->a<=9->Z (M1 a))(z2:∀a t b,P2 a t b=true->Z (M2 a t b))(z3:∀a t s b r c,P3 a t s b r c=true->Z (M3 a t s b r c))
  (c2:chk2 P2=true) (d2:dia2 P2=true) (c3:allI 1 6 (chk3 P3)=true) (d3:dia3 P3=true)
  {l:List Int} {kind n k:Nat} {M' T' T:List (List Int)} (hn:1<=n/\n<=3) (h:Ends n M' T' k (zqx l kind n) T):Z M':=by
 unfold zqx at h;rcases(by omega:n=1\/n=2\/n=3)with rfl | rfl | rfl
 ·have e:=kte h;split at e
  ·obtain⟨a,e1,h1,h2⟩:=kgy l kind;rw[e,e1];exact z1 a h1 h2
  ·obtain⟨a,e1,h1,h2⟩:=qsf l (rawK l kind 1) (m:=2) (by decide) (by decide);rw[e,e1];exact z1 a h1 h2
 ·have key:∀{M:List (List Int)},Ends 2 M' T' k M T->(∃a t b,M=M2 a t b/\run2 P2 16 a t b=true)->Z M':=by
   rintro M h ⟨a,t,b,rfl,hr⟩;obtain⟨a,t,b,rfl,hp⟩:=xsx h rfl hr;exact z2 a t b hp
  refine key h ?_;split
  ·rename_i hg;obtain⟨a,t,b,e,hh⟩:=kgx l kind;rw[e]at hg ⊢;refine⟨a,t,b,rfl,?_⟩;rcases hh with hh | hh
   ·have:=hg.1 2 (by omega);rw[qbq,jmg,kgu,jmh,kgt]at this;exact jmj c2 hh this
   ·exact qev d2 hh
  ·obtain⟨a,b,e,h1,h2⟩:=qse l (rawK l kind 2) (m:=2) (by decide) (by decide);rw[e];exact⟨a,0,b,rfl,qev d2 ⟨h1,h2,rfl⟩⟩
 ·have key:∀{M:List (List Int)},Ends 3 M' T' k M T->(∃a t s b r c,M=M3 a t s b r c/\run3 P3 16 a t s b r c=true)->Z M':=by
   rintro M h ⟨a,t,s,b,r,c,rfl,hr⟩;obtain⟨a,t,s,b,r,c,rfl,hp⟩:=xsw h rfl hr;exact z3 a t s b r c hp
  refine key h ?_;split
  ·rename_i hg;obtain⟨a,t,s,b,r,c,e,hh⟩:=kgw l kind;rw[e]at hg ⊢;refine⟨a,t,s,b,r,c,rfl,?_⟩;rcases hh with hh | hh
   ·have h2:=hg.1 2 (by omega);have h3:=hg.1 3 (by omega);rw[qbq,zri,qik,zyg,qij]at h2;rw[kgn,zri,qik,zyg,qij,kgp,kgq,qil,jmc,kgr]at h3;have e:a*(b*c-r*r)-t*(t*c-r*s)+s*(t*r-b*s)=c*(a*b-t*t)-a*(r*r)-b*(s*s)+2*(t*(r*s)):=by grind
    rw[e]at h3;exact jmi c3 hh h2 h3
   ·exact qeu d3 hh
  ·obtain⟨a,b,c,e,h1,h2,h3⟩:=qsd l (rawK l kind 3) (m:=2) (by decide) (by decide);rw[e];exact⟨a,0,0,b,0,c,rfl,qeu d3 ⟨h1,h2,h3,rfl,rfl,rfl⟩⟩
noncomputable section
inductive Tr where
 |lf (l:List Nat)
 |nd (p:Nat) (l r:Tr)
def memN(c:Nat)(l:List Nat):Bool:=List.rec (motive:=λ_=>Bool) false (λx _ ih=>ifB (Nat.beq x c) true ih) l
def memT(c:Nat)(t:Tr):Bool:=Tr.rec (motive:=λ_=>Bool) (λl=>memN c l) (λp _ _ x y=>ifB (Nat.blt c p) x y) t
def allN(f:Nat->Bool)(l:List Nat):Bool:=List.rec (motive:=λ_=>Bool) true (λx _ ih=>ifB (f x) ih false) l
def allT(f:Nat->Bool)(t:Tr):Bool:=Tr.rec (motive:=λ_=>Bool) (λl=>allN f l) (λ_ _ _ x y=>ifB x y false) t
def dig(x:Int)(f:Nat->Bool):Bool:=Int.rec (motive:=λ_=>Bool) (λm=>ifB (Nat.blt m 16) (bN m f) false) (λ_=>false) x
def P3(T:Tr):K3:=λa t s b r c=>dig a λa=>dig (t+8) λt=>dig (s+8) λs=>dig b λb=>dig (r+8) λr=>dig c λc=>
 bN (((((a*16+t)*16+s)*16+b)*16+r)*16+c) λx=>memT x T
def P2(T:Tr):K2:=λa t b=>dig a λa=>dig (t+8) λt=>dig b λb=>bN ((a*16+t)*16+b) λx=>memT x T
end
theorem zfc{f:Nat->Bool}{c:Nat}:∀{l:List Nat},memN c l=true->allN f l=true->f c=true:=by
 intro l
 induction l with
 |nil=>intro h;simp[memN]at h
 |cons x l ih=>
  intro h g;have h:ifB (Nat.beq x c) true (memN c l)=true:=h;have g:ifB (f x) (allN f l) false=true:=g;by_cases hf:f x=true
  ·rw[zem hf]at g;by_cases hx:Nat.beq x c=true
   ·rw[<-Nat.eq_of_beq_eq_true hx];exact hf
   ·rw[zkr hx]at h;exact ih h g
  ·rw[zkr hf]at g;simp at g
theorem qew{f:Nat->Bool}{c:Nat}{t:Tr}(h:memT c t=true)(g:allT f t=true):f c=true:=by
 induction t with
 |lf l=>exact zfc h g
 |nd p l r ihl ihr=>
  have h:ifB (Nat.blt c p) (memT c l) (memT c r)=true:=h;have g:ifB (allT f l) (allT f r) false=true:=g;by_cases hl:allT f l=true
  ·rw[zem hl]at g;by_cases hp:Nat.blt c p=true
   ·rw[zem hp]at h;exact ihl h hl
   ·rw[zkr hp]at h;exact ihr h g
  ·rw[zkr hl]at g;simp at g
theorem zmj{x:Int}{f:Nat->Bool}(h:dig x f=true):∃m:Nat,x=m/\m<16/\f m=true:=by
 cases x with
 |ofNat m=>
  have h:ifB (Nat.blt m 16) (bN m f) false=true:=h;rw[qrz]at h;by_cases hm:Nat.blt m 16=true
  ·rw[zem hm]at h;exact⟨m,rfl,by simpa using hm,h⟩
  ·rw[zkr hm]at h;simp at h
 |negSucc m=>exact absurd h (by simp[dig])
def jmk(c:Nat):List (List Int):=M2 (c/256) ((c/16%16:Nat)-8) (c%16:Nat)
def jml(c:Nat):List (List Int):=M3 (c/1048576:Nat) ((c/65536%16:Nat)-8) ((c/4096%16:Nat)-8) (c/256%16:Nat) ((c/16%16:Nat)-8) (c%16:Nat)
theorem ktf{T:Tr}{a t b:Int}(h:P2 T a t b=true):∃c,memT c T=true/\M2 a t b=jmk c:=by
 obtain⟨a,rfl,ha,h⟩:=zmj h;obtain⟨t',et,ht,h⟩:=zmj h;obtain⟨b,rfl,hb,h⟩:=zmj h;rw[qrz]at h;refine⟨_,h,?_⟩;obtain rfl:t=t'-8:=by omega
 unfold jmk;congr 1<;>omega
theorem ktg{T:Tr}{a t s b r c:Int}(h:P3 T a t s b r c=true):∃x,memT x T=true/\M3 a t s b r c=jml x:=by
 obtain⟨a,rfl,ha,h⟩:=zmj h;obtain⟨t',et,ht,h⟩:=zmj h;obtain⟨s',es,hs,h⟩:=zmj h;obtain⟨b,rfl,hb,h⟩:=zmj h;obtain⟨r',er,hr,h⟩:=zmj h;obtain⟨c,rfl,hc,h⟩:=zmj h;rw[qrz]at h;refine⟨_,h,?_⟩;obtain rfl:t=t'-8:=by omega
 obtain rfl:s=s'-8:=by omega
 obtain rfl:r=r'-8:=by omega
 unfold jml;congr 1<;>omega
end Go.Proofs.YtbjdfanphdfkdaaGreatDoor
namespace Go.Proofs.YtbjdfanphdfkdaaGreatDoor
open Go Go.AL Go.Proofs
noncomputable section
def mv0:List Nat:=[385,386,387,388,389,390,391,392,393,626,627,628,629,630,642,643,644,645,646,647,648,649,658,659,660,661,662,883,884,885,886,899,900,901,902,903,904,905,915,916,917,918,1123,1124,1125,1126,1139,1140,1141,1142,1155,1156,1157,1158,1159,1160,1161,1171,1172,1173,1174,1187,1188,1189,1190,1380,1381,1382,1396,1397,1398,1412,1413,1414,1415,1416,1417,1428,1429,1430,1444,1445,1446,1637,1638,1653,1654,1669,1670,1671,1672,1673,1685,1686,1701,1702,1926,1927,1928,1929]
def mv1:List Nat:=[2182,2183,2184,2185,2439,2440,2441]
def lv0:List Nat:=[1606017,1606018,1606019,1606020,1606021,1606022,1606023,1606024,1606025,1606258,1606259,1606260,1606261,1606262,1606274,1606275,1606276,1606277,1606278,1606279,1606280,1606281,1606290,1606291,1606292,1606293,1606294,1606515,1606516,1606517,1606518,1606531,1606532,1606533,1606534,1606535,1606536,1606537,1606547,1606548,1606549,1606550,1606755,1606756,1606757,1606758,1606771,1606772,1606773,1606774,1606787,1606788,1606789,1606790,1606791,1606792,1606793,1606803,1606804,1606805,1606806,1606819,1606820,1606821,1606822,1607012,1607013,1607014,1607028,1607029,1607030,1607044,1607045,1607046,1607047,1607048,1607049,1607060,1607061,1607062,1607076,1607077,1607078,1607269,1607270,1607285,1607286,1607301,1607302,1607303,1607304,1607305,1607317,1607318,1607333,1607334,1607558,1607559,1607560,1607561]
def lv1:List Nat:=[1607814,1607815,1607816,1607817,1608071,1608072,1608073,2585218,2585219,2585220,2585221,2585222,2585234,2585235,2585236,2585237,2585238,2585475,2585476,2585477,2585478,2585491,2585492,2585493,2585494,2585716,2585717,2585718,2585732,2585733,2585734,2585748,2585749,2585750,2585764,2585765,2585766,2585972,2585973,2585974,2585988,2585989,2585990,2586004,2586005,2586006,2586020,2586021,2586022,2586213,2586214,2586229,2586230,2586245,2586246,2586261,2586262,2586277,2586278,2589314,2589315,2589316,2589317,2589318,2589554,2589555,2589556,2589557,2589558,2589570,2589571,2589572,2589573,2589574,2589586,2589587,2589588,2589589,2589590,2589811,2589812,2589813,2589814,2589827,2589828,2589829,2589830,2589843,2589844,2589845,2589846,2590052,2590053,2590054,2590068,2590069,2590070,2590084,2590085,2590086]
def lv2:List Nat:=[2590100,2590101,2590102,2590116,2590117,2590118,2590309,2590310,2590325,2590326,2590341,2590342,2590357,2590358,2590373,2590374,2593394,2593395,2593396,2593397,2593398,2593410,2593411,2593412,2593413,2593414,2593651,2593652,2593653,2593654,2593667,2593668,2593669,2593670,2593892,2593893,2593894,2593908,2593909,2593910,2593924,2593925,2593926,2593940,2593941,2593942,2594148,2594149,2594150,2594164,2594165,2594166,2594180,2594181,2594182,2594196,2594197,2594198,2594405,2594406,2594421,2594422,2594437,2594438,2594453,2594454,2594469,2594470,2650738,2650739,2650740,2650741,2650742,2650754,2650755,2650756,2650757,2650758,2650770,2650771,2650772,2650773,2650774,2650995,2650996,2650997,2650998,2651011,2651012,2651013,2651014,2651027,2651028,2651029,2651030,2651236,2651237,2651238,2651252,2651253]
def lv3:List Nat:=[2651254,2651268,2651269,2651270,2651284,2651285,2651286,2651300,2651301,2651302,2651493,2651494,2651509,2651510,2651525,2651526,2651541,2651542,2651557,2651558,2651749,2651750,2651765,2651766,2651781,2651782,2651797,2651798,2651813,2651814,2654834,2654835,2654836,2654837,2654838,2654850,2654851,2654852,2654853,2654854,2654855,2654856,2654857,2654866,2654867,2654868,2654869,2654870,2655091,2655092,2655093,2655094,2655107,2655108,2655109,2655110,2655111,2655112,2655113,2655123,2655124,2655125,2655126,2655331,2655332,2655333,2655334,2655347,2655348,2655349,2655350,2655363,2655364,2655365,2655366,2655367,2655368,2655369,2655379,2655380,2655381,2655382,2655395,2655396,2655397,2655398,2655588,2655589,2655590,2655604,2655605,2655606,2655620,2655621,2655622,2655623,2655624,2655625,2655636,2655637]
def lv4:List Nat:=[2655638,2655652,2655653,2655654,2655845,2655846,2655861,2655862,2655877,2655878,2655879,2655880,2655881,2655893,2655894,2655909,2655910,2656134,2656135,2656136,2656137,2656390,2656391,2656392,2656393,2656647,2656648,2656649,2658930,2658931,2658932,2658933,2658934,2658946,2658947,2658948,2658949,2658950,2658962,2658963,2658964,2658965,2658966,2659187,2659188,2659189,2659190,2659203,2659204,2659205,2659206,2659219,2659220,2659221,2659222,2659428,2659429,2659430,2659444,2659445,2659446,2659460,2659461,2659462,2659476,2659477,2659478,2659492,2659493,2659494,2659685,2659686,2659701,2659702,2659717,2659718,2659733,2659734,2659749,2659750,2659941,2659942,2659957,2659958,2659973,2659974,2659989,2659990,2660005,2660006,2716274,2716275,2716276,2716277,2716278,2716290,2716291,2716292,2716293,2716294]
def lv5:List Nat:=[2716531,2716532,2716533,2716534,2716547,2716548,2716549,2716550,2716772,2716773,2716774,2716788,2716789,2716790,2716804,2716805,2716806,2716820,2716821,2716822,2717028,2717029,2717030,2717044,2717045,2717046,2717060,2717061,2717062,2717076,2717077,2717078,2717285,2717286,2717301,2717302,2717317,2717318,2717333,2717334,2717349,2717350,2720386,2720387,2720388,2720389,2720390,2720626,2720627,2720628,2720629,2720630,2720642,2720643,2720644,2720645,2720646,2720658,2720659,2720660,2720661,2720662,2720883,2720884,2720885,2720886,2720899,2720900,2720901,2720902,2720915,2720916,2720917,2720918,2721124,2721125,2721126,2721140,2721141,2721142,2721156,2721157,2721158,2721172,2721173,2721174,2721188,2721189,2721190,2721381,2721382,2721397,2721398,2721413,2721414,2721429,2721430,2721445,2721446,2724482]
def lv6:List Nat:=[2724483,2724484,2724485,2724486,2724498,2724499,2724500,2724501,2724502,2724739,2724740,2724741,2724742,2724755,2724756,2724757,2724758,2724980,2724981,2724982,2724996,2724997,2724998,2725012,2725013,2725014,2725028,2725029,2725030,2725236,2725237,2725238,2725252,2725253,2725254,2725268,2725269,2725270,2725284,2725285,2725286,2725477,2725478,2725493,2725494,2725509,2725510,2725525,2725526,2725541,2725542,3634035,3634036,3634037,3634038,3634051,3634052,3634053,3634054,3634067,3634068,3634069,3634070,3634292,3634293,3634294,3634308,3634309,3634310,3634324,3634325,3634326,3634340,3634341,3634342,3634532,3634533,3634534,3634548,3634549,3634550,3634564,3634565,3634566,3634580,3634581,3634582,3634596,3634597,3634598,3634789,3634790,3634805,3634806,3634821,3634822,3634837,3634838,3634853,3634854]
def lv7:List Nat:=[3634869,3638130,3638131,3638132,3638133,3638134,3638146,3638147,3638148,3638149,3638150,3638162,3638163,3638164,3638165,3638166,3638387,3638388,3638389,3638390,3638403,3638404,3638405,3638406,3638419,3638420,3638421,3638422,3638628,3638629,3638630,3638644,3638645,3638646,3638660,3638661,3638662,3638676,3638677,3638678,3638692,3638693,3638694,3638885,3638886,3638901,3638902,3638917,3638918,3638933,3638934,3638949,3638950,3642227,3642228,3642229,3642230,3642243,3642244,3642245,3642246,3642259,3642260,3642261,3642262,3642468,3642469,3642470,3642484,3642485,3642486,3642500,3642501,3642502,3642516,3642517,3642518,3642724,3642725,3642726,3642740,3642741,3642742,3642756,3642757,3642758,3642772,3642773,3642774,3642788,3642789,3642790,3642965,3642981,3642982,3642997,3642998,3643013,3643014,3643029]
def lv8:List Nat:=[3643030,3643045,3643046,3699571,3699572,3699573,3699574,3699587,3699588,3699589,3699590,3699603,3699604,3699605,3699606,3699812,3699813,3699814,3699828,3699829,3699830,3699844,3699845,3699846,3699860,3699861,3699862,3699876,3699877,3699878,3700069,3700070,3700085,3700086,3700101,3700102,3700117,3700118,3700133,3700134,3700325,3700326,3700341,3700342,3700357,3700358,3700373,3700374,3700389,3700390,3703667,3703668,3703669,3703670,3703683,3703684,3703685,3703686,3703687,3703688,3703689,3703699,3703700,3703701,3703702,3703907,3703908,3703909,3703910,3703923,3703924,3703925,3703926,3703939,3703940,3703941,3703942,3703943,3703944,3703945,3703955,3703956,3703957,3703958,3703971,3703972,3703973,3703974,3704164,3704165,3704166,3704180,3704181,3704182,3704196,3704197,3704198,3704199,3704200,3704201]
def lv9:List Nat:=[3704212,3704213,3704214,3704228,3704229,3704230,3704421,3704422,3704437,3704438,3704453,3704454,3704455,3704456,3704457,3704469,3704470,3704485,3704486,3704710,3704711,3704712,3704713,3704966,3704967,3704968,3704969,3705223,3705224,3705225,3707763,3707764,3707765,3707766,3707779,3707780,3707781,3707782,3707795,3707796,3707797,3707798,3708004,3708005,3708006,3708020,3708021,3708022,3708036,3708037,3708038,3708052,3708053,3708054,3708068,3708069,3708070,3708261,3708262,3708277,3708278,3708293,3708294,3708309,3708310,3708325,3708326,3708517,3708518,3708533,3708534,3708549,3708550,3708565,3708566,3708581,3708582,3765107,3765108,3765109,3765110,3765123,3765124,3765125,3765126,3765139,3765140,3765141,3765142,3765348,3765349,3765350,3765364,3765365,3765366,3765380,3765381,3765382,3765396,3765397]
def lv10:List Nat:=[3765398,3765604,3765605,3765606,3765620,3765621,3765622,3765636,3765637,3765638,3765652,3765653,3765654,3765668,3765669,3765670,3765845,3765861,3765862,3765877,3765878,3765893,3765894,3765909,3765910,3765925,3765926,3769202,3769203,3769204,3769205,3769206,3769218,3769219,3769220,3769221,3769222,3769234,3769235,3769236,3769237,3769238,3769459,3769460,3769461,3769462,3769475,3769476,3769477,3769478,3769491,3769492,3769493,3769494,3769700,3769701,3769702,3769716,3769717,3769718,3769732,3769733,3769734,3769748,3769749,3769750,3769764,3769765,3769766,3769957,3769958,3769973,3769974,3769989,3769990,3770005,3770006,3770021,3770022,3773299,3773300,3773301,3773302,3773315,3773316,3773317,3773318,3773331,3773332,3773333,3773334,3773556,3773557,3773558,3773572,3773573,3773574,3773588,3773589,3773590]
def lv11:List Nat:=[3773604,3773605,3773606,3773796,3773797,3773798,3773812,3773813,3773814,3773828,3773829,3773830,3773844,3773845,3773846,3773860,3773861,3773862,3774053,3774054,3774069,3774070,3774085,3774086,3774101,3774102,3774117,3774118,3774133,4612995,4612996,4612997,4612998,4613011,4613012,4613013,4613014,4613027,4613028,4613029,4613030,4613252,4613253,4613254,4613268,4613269,4613270,4613284,4613285,4613286,4613492,4613493,4613494,4613508,4613509,4613510,4613524,4613525,4613526,4613540,4613541,4613542,4613749,4613750,4613765,4613766,4613781,4613782,4613797,4613798,4617090,4617091,4617092,4617093,4617094,4617106,4617107,4617108,4617109,4617110,4617331,4617332,4617333,4617334,4617347,4617348,4617349,4617350,4617363,4617364,4617365,4617366,4617379,4617380,4617381,4617382,4617588,4617589,4617590,4617604]
def lv12:List Nat:=[4617605,4617606,4617620,4617621,4617622,4617636,4617637,4617638,4617828,4617829,4617830,4617844,4617845,4617846,4617860,4617861,4617862,4617876,4617877,4617878,4617892,4617893,4617894,4621170,4621171,4621172,4621173,4621174,4621186,4621187,4621188,4621189,4621190,4621202,4621203,4621204,4621205,4621206,4621427,4621428,4621429,4621430,4621443,4621444,4621445,4621446,4621459,4621460,4621461,4621462,4621667,4621668,4621669,4621670,4621683,4621684,4621685,4621686,4621699,4621700,4621701,4621702,4621715,4621716,4621717,4621718,4621731,4621732,4621733,4621734,4621924,4621925,4621926,4621940,4621941,4621942,4621956,4621957,4621958,4621972,4621973,4621974,4621988,4621989,4621990,4625266,4625267,4625268,4625269,4625270,4625282,4625283,4625284,4625285,4625286,4625507,4625508,4625509,4625510,4625523]
def lv13:List Nat:=[4625524,4625525,4625526,4625539,4625540,4625541,4625542,4625555,4625556,4625557,4625558,4625764,4625765,4625766,4625780,4625781,4625782,4625796,4625797,4625798,4625812,4625813,4625814,4626020,4626021,4626022,4626036,4626037,4626038,4626052,4626053,4626054,4626068,4626069,4626070,4626084,4626085,4626086,4629347,4629348,4629349,4629350,4629363,4629364,4629365,4629366,4629379,4629380,4629381,4629382,4629604,4629605,4629606,4629620,4629621,4629622,4629636,4629637,4629638,4629860,4629861,4629862,4629876,4629877,4629878,4629892,4629893,4629894,4629908,4629909,4629910,4630117,4630118,4630133,4630134,4630149,4630150,4630165,4630166,4678532,4678533,4678534,4678548,4678549,4678550,4678772,4678773,4678774,4678788,4678789,4678790,4678804,4678805,4678806,4678820,4678821,4678822,4679029,4679030,4679045]
def lv14:List Nat:=[4679046,4679061,4679062,4679077,4679078,4679270,4679286,4679302,4679318,4679334,4682611,4682612,4682613,4682614,4682627,4682628,4682629,4682630,4682643,4682644,4682645,4682646,4682868,4682869,4682870,4682884,4682885,4682886,4682900,4682901,4682902,4682916,4682917,4682918,4683108,4683109,4683110,4683124,4683125,4683126,4683140,4683141,4683142,4683156,4683157,4683158,4683172,4683173,4683174,4683365,4683366,4683381,4683382,4683397,4683398,4683413,4683414,4683429,4683430,4686707,4686708,4686709,4686710,4686723,4686724,4686725,4686726,4686739,4686740,4686741,4686742,4686963,4686964,4686965,4686966,4686979,4686980,4686981,4686982,4686995,4686996,4686997,4686998,4687204,4687205,4687206,4687220,4687221,4687222,4687236,4687237,4687238,4687252,4687253,4687254,4687268,4687269,4687270,4687461,4687462]
def lv15:List Nat:=[4687477,4687478,4687493,4687494,4687509,4687510,4687525,4687526,4690803,4690804,4690805,4690806,4690819,4690820,4690821,4690822,4690835,4690836,4690837,4690838,4691044,4691045,4691046,4691060,4691061,4691062,4691076,4691077,4691078,4691092,4691093,4691094,4691300,4691301,4691302,4691316,4691317,4691318,4691332,4691333,4691334,4691348,4691349,4691350,4691364,4691365,4691366,4691557,4691558,4691573,4691574,4691589,4691590,4691605,4691606,4691621,4691622,4694900,4694901,4694902,4694916,4694917,4694918,4695140,4695141,4695142,4695156,4695157,4695158,4695172,4695173,4695174,4695188,4695189,4695190,4695397,4695398,4695413,4695414,4695429,4695430,4695445,4695446,4695654,4695670,4695686,4695702,4695718,4744052,4744053,4744054,4744068,4744069,4744070,4744084,4744085,4744086,4744292,4744293,4744294]
def lv16:List Nat:=[4744308,4744309,4744310,4744324,4744325,4744326,4744340,4744341,4744342,4744356,4744357,4744358,4744549,4744550,4744565,4744566,4744581,4744582,4744597,4744598,4744613,4744614,4744806,4744822,4744838,4744854,4744870,4748147,4748148,4748149,4748150,4748163,4748164,4748165,4748166,4748179,4748180,4748181,4748182,4748388,4748389,4748390,4748404,4748405,4748406,4748420,4748421,4748422,4748436,4748437,4748438,4748452,4748453,4748454,4748644,4748645,4748646,4748660,4748661,4748662,4748676,4748677,4748678,4748692,4748693,4748694,4748708,4748709,4748710,4748901,4748902,4748917,4748918,4748933,4748934,4748949,4748950,4748965,4748966,4752243,4752244,4752245,4752246,4752259,4752260,4752261,4752262,4752263,4752264,4752265,4752275,4752276,4752277,4752278,4752483,4752484,4752485,4752486,4752499,4752500]
def lv17:List Nat:=[4752501,4752502,4752515,4752516,4752517,4752518,4752519,4752520,4752521,4752531,4752532,4752533,4752534,4752547,4752548,4752549,4752550,4752740,4752741,4752742,4752756,4752757,4752758,4752772,4752773,4752774,4752775,4752776,4752777,4752788,4752789,4752790,4752804,4752805,4752806,4752997,4752998,4753013,4753014,4753029,4753030,4753031,4753032,4753033,4753045,4753046,4753061,4753062,4753286,4753287,4753288,4753289,4753542,4753543,4753544,4753545,4753799,4753800,4753801,4756339,4756340,4756341,4756342,4756355,4756356,4756357,4756358,4756371,4756372,4756373,4756374,4756580,4756581,4756582,4756596,4756597,4756598,4756612,4756613,4756614,4756628,4756629,4756630,4756644,4756645,4756646,4756836,4756837,4756838,4756852,4756853,4756854,4756868,4756869,4756870,4756884,4756885,4756886,4756900,4756901]
def lv18:List Nat:=[4756902,4757093,4757094,4757109,4757110,4757125,4757126,4757141,4757142,4757157,4757158,4760436,4760437,4760438,4760452,4760453,4760454,4760468,4760469,4760470,4760676,4760677,4760678,4760692,4760693,4760694,4760708,4760709,4760710,4760724,4760725,4760726,4760740,4760741,4760742,4760933,4760934,4760949,4760950,4760965,4760966,4760981,4760982,4760997,4760998,4761190,4761206,4761222,4761238,4761254,4809588,4809589,4809590,4809604,4809605,4809606,4809828,4809829,4809830,4809844,4809845,4809846,4809860,4809861,4809862,4809876,4809877,4809878,4810085,4810086,4810101,4810102,4810117,4810118,4810133,4810134,4810342,4810358,4810374,4810390,4810406,4813683,4813684,4813685,4813686,4813699,4813700,4813701,4813702,4813715,4813716,4813717,4813718,4813924,4813925,4813926,4813940,4813941,4813942,4813956]
def lv19:List Nat:=[4813957,4813958,4813972,4813973,4813974,4814180,4814181,4814182,4814196,4814197,4814198,4814212,4814213,4814214,4814228,4814229,4814230,4814244,4814245,4814246,4814437,4814438,4814453,4814454,4814469,4814470,4814485,4814486,4814501,4814502,4817779,4817780,4817781,4817782,4817795,4817796,4817797,4817798,4817811,4817812,4817813,4817814,4818035,4818036,4818037,4818038,4818051,4818052,4818053,4818054,4818067,4818068,4818069,4818070,4818276,4818277,4818278,4818292,4818293,4818294,4818308,4818309,4818310,4818324,4818325,4818326,4818340,4818341,4818342,4818533,4818534,4818549,4818550,4818565,4818566,4818581,4818582,4818597,4818598,4821875,4821876,4821877,4821878,4821891,4821892,4821893,4821894,4821907,4821908,4821909,4821910,4822132,4822133,4822134,4822148,4822149,4822150,4822164,4822165,4822166]
def lv20:List Nat:=[4822180,4822181,4822182,4822372,4822373,4822374,4822388,4822389,4822390,4822404,4822405,4822406,4822420,4822421,4822422,4822436,4822437,4822438,4822629,4822630,4822645,4822646,4822661,4822662,4822677,4822678,4822693,4822694,4825988,4825989,4825990,4826004,4826005,4826006,4826228,4826229,4826230,4826244,4826245,4826246,4826260,4826261,4826262,4826276,4826277,4826278,4826485,4826486,4826501,4826502,4826517,4826518,4826533,4826534,4826726,4826742,4826758,4826774,4826790,4875107,4875108,4875109,4875110,4875123,4875124,4875125,4875126,4875139,4875140,4875141,4875142,4875364,4875365,4875366,4875380,4875381,4875382,4875396,4875397,4875398,4875620,4875621,4875622,4875636,4875637,4875638,4875652,4875653,4875654,4875668,4875669,4875670,4875877,4875878,4875893,4875894,4875909,4875910,4875925,4875926]
def lv21:List Nat:=[4879218,4879219,4879220,4879221,4879222,4879234,4879235,4879236,4879237,4879238,4879459,4879460,4879461,4879462,4879475,4879476,4879477,4879478,4879491,4879492,4879493,4879494,4879507,4879508,4879509,4879510,4879716,4879717,4879718,4879732,4879733,4879734,4879748,4879749,4879750,4879764,4879765,4879766,4879972,4879973,4879974,4879988,4879989,4879990,4880004,4880005,4880006,4880020,4880021,4880022,4880036,4880037,4880038,4883314,4883315,4883316,4883317,4883318,4883330,4883331,4883332,4883333,4883334,4883346,4883347,4883348,4883349,4883350,4883571,4883572,4883573,4883574,4883587,4883588,4883589,4883590,4883603,4883604,4883605,4883606,4883811,4883812,4883813,4883814,4883827,4883828,4883829,4883830,4883843,4883844,4883845,4883846,4883859,4883860,4883861,4883862,4883875,4883876,4883877,4883878]
def lv22:List Nat:=[4884068,4884069,4884070,4884084,4884085,4884086,4884100,4884101,4884102,4884116,4884117,4884118,4884132,4884133,4884134,4887426,4887427,4887428,4887429,4887430,4887442,4887443,4887444,4887445,4887446,4887667,4887668,4887669,4887670,4887683,4887684,4887685,4887686,4887699,4887700,4887701,4887702,4887715,4887716,4887717,4887718,4887924,4887925,4887926,4887940,4887941,4887942,4887956,4887957,4887958,4887972,4887973,4887974,4888164,4888165,4888166,4888180,4888181,4888182,4888196,4888197,4888198,4888212,4888213,4888214,4888228,4888229,4888230,4891523,4891524,4891525,4891526,4891539,4891540,4891541,4891542,4891555,4891556,4891557,4891558,4891780,4891781,4891782,4891796,4891797,4891798,4891812,4891813,4891814,4892020,4892021,4892022,4892036,4892037,4892038,4892052,4892053,4892054,4892068,4892069]
def lv23:List Nat:=[4892070,4892277,4892278,4892293,4892294,4892309,4892310,4892325,4892326,5661828,5661829,5661830,5661844,5661845,5661846,5661860,5661861,5661862,5662068,5662069,5662070,5662084,5662085,5662086,5662100,5662101,5662102,5662116,5662117,5662118,5662325,5662326,5662341,5662342,5662357,5662358,5662373,5662374,5665907,5665908,5665909,5665910,5665923,5665924,5665925,5665926,5665939,5665940,5665941,5665942,5665955,5665956,5665957,5665958,5666164,5666165,5666166,5666180,5666181,5666182,5666196,5666197,5666198,5666212,5666213,5666214,5666405,5666406,5666421,5666422,5666437,5666438,5666453,5666454,5666469,5666470,5670003,5670004,5670005,5670006,5670019,5670020,5670021,5670022,5670035,5670036,5670037,5670038,5670244,5670245,5670246,5670260,5670261,5670262,5670276,5670277,5670278,5670292,5670293,5670294]
def lv24:List Nat:=[5670308,5670309,5670310,5670500,5670501,5670502,5670516,5670517,5670518,5670532,5670533,5670534,5670548,5670549,5670550,5670564,5670565,5670566,5674083,5674084,5674085,5674086,5674099,5674100,5674101,5674102,5674115,5674116,5674117,5674118,5674131,5674132,5674133,5674134,5674340,5674341,5674342,5674356,5674357,5674358,5674372,5674373,5674374,5674388,5674389,5674390,5674597,5674598,5674613,5674614,5674629,5674630,5674645,5674646,5674661,5674662,5678180,5678181,5678182,5678196,5678197,5678198,5678212,5678213,5678214,5678436,5678437,5678438,5678452,5678453,5678454,5678468,5678469,5678470,5678484,5678485,5678486,5678693,5678694,5678709,5678710,5678725,5678726,5678741,5678742,5727348,5727349,5727350,5727364,5727365,5727366,5727380,5727381,5727382,5727396,5727397,5727398,5727589,5727590,5727605]
def lv25:List Nat:=[5727606,5727621,5727622,5727637,5727638,5727653,5727654,5727846,5727862,5727878,5727894,5727910,5731444,5731445,5731446,5731460,5731461,5731462,5731476,5731477,5731478,5731492,5731493,5731494,5731684,5731685,5731686,5731700,5731701,5731702,5731716,5731717,5731718,5731732,5731733,5731734,5731748,5731749,5731750,5731941,5731942,5731957,5731958,5731973,5731974,5731989,5731990,5732005,5732006,5735539,5735540,5735541,5735542,5735555,5735556,5735557,5735558,5735571,5735572,5735573,5735574,5735780,5735781,5735782,5735796,5735797,5735798,5735812,5735813,5735814,5735828,5735829,5735830,5735844,5735845,5735846,5736037,5736038,5736053,5736054,5736069,5736070,5736085,5736086,5736101,5736102,5739620,5739621,5739622,5739636,5739637,5739638,5739652,5739653,5739654,5739668,5739669,5739670,5739876,5739877]
def lv26:List Nat:=[5739878,5739892,5739893,5739894,5739908,5739909,5739910,5739924,5739925,5739926,5739940,5739941,5739942,5740133,5740134,5740149,5740150,5740165,5740166,5740181,5740182,5740197,5740198,5743716,5743717,5743718,5743732,5743733,5743734,5743748,5743749,5743750,5743764,5743765,5743766,5743973,5743974,5743989,5743990,5744005,5744006,5744021,5744022,5744037,5744038,5744230,5744246,5744262,5744278,5744294,5792868,5792869,5792870,5792884,5792885,5792886,5792900,5792901,5792902,5792916,5792917,5792918,5792932,5792933,5792934,5793125,5793126,5793141,5793142,5793157,5793158,5793173,5793174,5793189,5793190,5793382,5793398,5793414,5793430,5793446,5796964,5796965,5796966,5796980,5796981,5796982,5796996,5796997,5796998,5797012,5797013,5797014,5797028,5797029,5797030,5797220,5797221,5797222,5797236,5797237]
def lv27:List Nat:=[5797238,5797252,5797253,5797254,5797268,5797269,5797270,5797284,5797285,5797286,5797477,5797478,5797493,5797494,5797509,5797510,5797525,5797526,5797541,5797542,5801059,5801060,5801061,5801062,5801075,5801076,5801077,5801078,5801091,5801092,5801093,5801094,5801095,5801096,5801097,5801107,5801108,5801109,5801110,5801123,5801124,5801125,5801126,5801316,5801317,5801318,5801332,5801333,5801334,5801348,5801349,5801350,5801351,5801352,5801353,5801364,5801365,5801366,5801380,5801381,5801382,5801573,5801574,5801589,5801590,5801605,5801606,5801607,5801608,5801609,5801621,5801622,5801637,5801638,5801862,5801863,5801864,5801865,5802118,5802119,5802120,5802121,5802375,5802376,5802377,5805156,5805157,5805158,5805172,5805173,5805174,5805188,5805189,5805190,5805204,5805205,5805206,5805220,5805221,5805222]
def lv28:List Nat:=[5805412,5805413,5805414,5805428,5805429,5805430,5805444,5805445,5805446,5805460,5805461,5805462,5805476,5805477,5805478,5805669,5805670,5805685,5805686,5805701,5805702,5805717,5805718,5805733,5805734,5809252,5809253,5809254,5809268,5809269,5809270,5809284,5809285,5809286,5809300,5809301,5809302,5809316,5809317,5809318,5809509,5809510,5809525,5809526,5809541,5809542,5809557,5809558,5809573,5809574,5809766,5809782,5809798,5809814,5809830,5858404,5858405,5858406,5858420,5858421,5858422,5858436,5858437,5858438,5858452,5858453,5858454,5858661,5858662,5858677,5858678,5858693,5858694,5858709,5858710,5858725,5858726,5858918,5858934,5858950,5858966,5858982,5862500,5862501,5862502,5862516,5862517,5862518,5862532,5862533,5862534,5862548,5862549,5862550,5862756,5862757,5862758,5862772,5862773,5862774]
def lv29:List Nat:=[5862788,5862789,5862790,5862804,5862805,5862806,5862820,5862821,5862822,5863013,5863014,5863029,5863030,5863045,5863046,5863061,5863062,5863077,5863078,5866611,5866612,5866613,5866614,5866627,5866628,5866629,5866630,5866643,5866644,5866645,5866646,5866852,5866853,5866854,5866868,5866869,5866870,5866884,5866885,5866886,5866900,5866901,5866902,5866916,5866917,5866918,5867109,5867110,5867125,5867126,5867141,5867142,5867157,5867158,5867173,5867174,5870708,5870709,5870710,5870724,5870725,5870726,5870740,5870741,5870742,5870756,5870757,5870758,5870948,5870949,5870950,5870964,5870965,5870966,5870980,5870981,5870982,5870996,5870997,5870998,5871012,5871013,5871014,5871205,5871206,5871221,5871222,5871237,5871238,5871253,5871254,5871269,5871270,5874804,5874805,5874806,5874820,5874821,5874822,5874836]
def lv30:List Nat:=[5874837,5874838,5874852,5874853,5874854,5875045,5875046,5875061,5875062,5875077,5875078,5875093,5875094,5875109,5875110,5875302,5875318,5875334,5875350,5875366,5923940,5923941,5923942,5923956,5923957,5923958,5923972,5923973,5923974,5924196,5924197,5924198,5924212,5924213,5924214,5924228,5924229,5924230,5924244,5924245,5924246,5924453,5924454,5924469,5924470,5924485,5924486,5924501,5924502,5928035,5928036,5928037,5928038,5928051,5928052,5928053,5928054,5928067,5928068,5928069,5928070,5928083,5928084,5928085,5928086,5928292,5928293,5928294,5928308,5928309,5928310,5928324,5928325,5928326,5928340,5928341,5928342,5928549,5928550,5928565,5928566,5928581,5928582,5928597,5928598,5928613,5928614,5932147,5932148,5932149,5932150,5932163,5932164,5932165,5932166,5932179,5932180,5932181,5932182,5932388]
def lv31:List Nat:=[5932389,5932390,5932404,5932405,5932406,5932420,5932421,5932422,5932436,5932437,5932438,5932452,5932453,5932454,5932644,5932645,5932646,5932660,5932661,5932662,5932676,5932677,5932678,5932692,5932693,5932694,5932708,5932709,5932710,5936243,5936244,5936245,5936246,5936259,5936260,5936261,5936262,5936275,5936276,5936277,5936278,5936291,5936292,5936293,5936294,5936500,5936501,5936502,5936516,5936517,5936518,5936532,5936533,5936534,5936548,5936549,5936550,5936741,5936742,5936757,5936758,5936773,5936774,5936789,5936790,5936805,5936806,5940356,5940357,5940358,5940372,5940373,5940374,5940388,5940389,5940390,5940596,5940597,5940598,5940612,5940613,5940614,5940628,5940629,5940630,5940644,5940645,5940646,5940853,5940854,5940869,5940870,5940885,5940886,5940901,5940902,6706613,6706614,6706615,6710644]
def lv32:List Nat:=[6710645,6710646,6710660,6710661,6710662,6710676,6710677,6710678,6710692,6710693,6710694,6710885,6710886,6710901,6710902,6710917,6710918,6710933,6710934,6710949,6710950,6714740,6714741,6714742,6714756,6714757,6714758,6714772,6714773,6714774,6714788,6714789,6714790,6714981,6714982,6714997,6714998,6715013,6715014,6715029,6715030,6715045,6715046,6718820,6718821,6718822,6718836,6718837,6718838,6718852,6718853,6718854,6718868,6718869,6718870,6718884,6718885,6718886,6719076,6719077,6719078,6719092,6719093,6719094,6719108,6719109,6719110,6719124,6719125,6719126,6719140,6719141,6719142,6722916,6722917,6722918,6722932,6722933,6722934,6722948,6722949,6722950,6722964,6722965,6722966,6723173,6723174,6723189,6723190,6723205,6723206,6723221,6723222,6723237,6723238,6727012,6727013,6727014,6727028,6727029]
def lv33:List Nat:=[6727030,6727044,6727045,6727046,6727060,6727061,6727062,6727269,6727270,6727285,6727286,6727301,6727302,6727317,6727318,6727333,6727334,6731093,6731094,6731095,6776165,6776166,6776181,6776182,6776197,6776198,6776213,6776214,6776229,6776230,6776422,6776438,6776454,6776470,6776486,6780260,6780261,6780262,6780276,6780277,6780278,6780292,6780293,6780294,6780308,6780309,6780310,6780324,6780325,6780326,6780517,6780518,6780533,6780534,6780549,6780550,6780565,6780566,6780581,6780582,6784356,6784357,6784358,6784372,6784373,6784374,6784388,6784389,6784390,6784404,6784405,6784406,6784420,6784421,6784422,6784613,6784614,6784629,6784630,6784645,6784646,6784661,6784662,6784677,6784678,6788452,6788453,6788454,6788468,6788469,6788470,6788484,6788485,6788486,6788500,6788501,6788502,6788516,6788517,6788518]
def lv34:List Nat:=[6788709,6788710,6788725,6788726,6788741,6788742,6788757,6788758,6788773,6788774,6792549,6792550,6792565,6792566,6792581,6792582,6792597,6792598,6792613,6792614,6792806,6792822,6792838,6792854,6792870,6841701,6841702,6841717,6841718,6841733,6841734,6841749,6841750,6841765,6841766,6841958,6841974,6841990,6842006,6842022,6845796,6845797,6845798,6845812,6845813,6845814,6845828,6845829,6845830,6845844,6845845,6845846,6845860,6845861,6845862,6846053,6846054,6846069,6846070,6846085,6846086,6846101,6846102,6846117,6846118,6849892,6849893,6849894,6849908,6849909,6849910,6849924,6849925,6849926,6849927,6849928,6849929,6849940,6849941,6849942,6849956,6849957,6849958,6850149,6850150,6850165,6850166,6850181,6850182,6850183,6850184,6850185,6850197,6850198,6850213,6850214,6850438,6850439,6850440,6850441]
def lv35:List Nat:=[6850694,6850695,6850696,6850697,6850951,6850952,6850953,6853988,6853989,6853990,6854004,6854005,6854006,6854020,6854021,6854022,6854036,6854037,6854038,6854052,6854053,6854054,6854245,6854246,6854261,6854262,6854277,6854278,6854293,6854294,6854309,6854310,6858085,6858086,6858101,6858102,6858117,6858118,6858133,6858134,6858149,6858150,6858342,6858358,6858374,6858390,6858406,6907237,6907238,6907253,6907254,6907269,6907270,6907285,6907286,6907301,6907302,6907494,6907510,6907526,6907542,6907558,6911332,6911333,6911334,6911348,6911349,6911350,6911364,6911365,6911366,6911380,6911381,6911382,6911396,6911397,6911398,6911589,6911590,6911605,6911606,6911621,6911622,6911637,6911638,6911653,6911654,6915428,6915429,6915430,6915444,6915445,6915446,6915460,6915461,6915462,6915476,6915477,6915478,6915492]
def lv36:List Nat:=[6915493,6915494,6915685,6915686,6915701,6915702,6915717,6915718,6915733,6915734,6915749,6915750,6919524,6919525,6919526,6919540,6919541,6919542,6919556,6919557,6919558,6919572,6919573,6919574,6919588,6919589,6919590,6919781,6919782,6919797,6919798,6919813,6919814,6919829,6919830,6919845,6919846,6923621,6923622,6923637,6923638,6923653,6923654,6923669,6923670,6923685,6923686,6923878,6923894,6923910,6923926,6923942,6968661,6968662,6968663,6972772,6972773,6972774,6972788,6972789,6972790,6972804,6972805,6972806,6972820,6972821,6972822,6973029,6973030,6973045,6973046,6973061,6973062,6973077,6973078,6973093,6973094,6976868,6976869,6976870,6976884,6976885,6976886,6976900,6976901,6976902,6976916,6976917,6976918,6977125,6977126,6977141,6977142,6977157,6977158,6977173,6977174,6977189,6977190,6980964]
def lv37:List Nat:=[6980965,6980966,6980980,6980981,6980982,6980996,6980997,6980998,6981012,6981013,6981014,6981028,6981029,6981030,6981220,6981221,6981222,6981236,6981237,6981238,6981252,6981253,6981254,6981268,6981269,6981270,6981284,6981285,6981286,6985076,6985077,6985078,6985092,6985093,6985094,6985108,6985109,6985110,6985124,6985125,6985126,6985317,6985318,6985333,6985334,6985349,6985350,6985365,6985366,6985381,6985382,6989172,6989173,6989174,6989188,6989189,6989190,6989204,6989205,6989206,6989220,6989221,6989222,6989413,6989414,6989429,6989430,6989445,6989446,6989461,6989462,6989477,6989478,6993333,6993334,6993335,7898757,7898758,7898759,7898760,7898761,7899014,7899015,7899016,7899017,7899270,7899271,7899272,7899273,7899527,7899528,7899529,8947333,8947334,8947335,8947336,8947337,8947590,8947591,8947592]
def lv38:List Nat:=[8947593,8947846,8947847,8947848,8947849,8948103,8948104,8948105,9996166,9996167,9996168,9996169,9996422,9996423,9996424,9996425,9996679,9996680,9996681]
def tr2:Tr:=(.nd 2182 (.lf mv0) (.lf mv1))
def tr3:Tr:=(.nd 4813957 (.nd 3704212 (.nd 2655638 (.nd 2590100 (.nd 1607814 (.lf lv0) (.lf lv1)) (.nd 2651254 (.lf lv2) (.lf lv3))) (.nd 2724483 (.nd 2716531 (.lf lv4) (.lf lv5)) (.nd 3634869 (.lf lv6) (.nd 3643030 (.lf lv7) (.lf lv8))))) (.nd 4679046 (.nd 3773604 (.nd 3765398 (.lf lv9) (.lf lv10)) (.nd 4617605 (.lf lv11) (.nd 4625524 (.lf lv12) (.lf lv13)))) (.nd 4744308 (.nd 4687477 (.lf lv14) (.lf lv15)) (.nd 4752501 (.lf lv16) (.nd 4756902 (.lf lv17) (.lf lv18)))))) (.nd 5862788 (.nd 5670308 (.nd 4879218 (.nd 4822180 (.lf lv19) (.lf lv20)) (.nd 4884068 (.lf lv21) (.nd 4892070 (.lf lv22) (.lf lv23)))) (.nd 5739878 (.nd 5727606 (.lf lv24) (.lf lv25)) (.nd 5797238 (.lf lv26) (.nd 5805412 (.lf lv27) (.lf lv28))))) (.nd 6788709 (.nd 5932389 (.nd 5874837 (.lf lv29) (.lf lv30)) (.nd 6710645 (.lf lv31) (.nd 6727030 (.lf lv32) (.lf lv33)))) (.nd 6915493 (.nd 6850694 (.lf lv34) (.lf lv35)) (.nd 6980965 (.lf lv36) (.nd 8947593 (.lf lv37) (.lf lv38)))))))
