/- A part of the proof. -/
import Derived.Test.YtgfbaioffpcelaaGreatDoorPF
set_option linter.all false
set_option maxRecDepth 100000
open List renaming getD_eq_getElem?_getD -> qQ
namespace Go.Proofs.YtgfbaioffpcelaaGreatDoor
open Go Go.AL Go.Proofs Go.Count
abbrev O:=Option (AV×Heap)
noncomputable def natK(n:Nat)(k:Nat->O):O:=Nat.rec (motive:=λ_=>(Nat->O)->O) (λk=>k 0) (λp _ k=>k (Nat.succ p)) n k
theorem zwd(n:Nat)(k:Nat->O):natK n k=k n:=by cases n<;>rfl
noncomputable def ifK(b:Bool)(x:O):O:=Bool.rec (motive:=λ_=>O->O) (λ_=>none) (λx=>x) b x
theorem jgp(b:Bool)(x:O):ifK b x=if b=true then x else none:=by cases b<;>rfl
section
variable{α:Type}
noncomputable def nthK(l:List α)(i:Nat)(k:α->O):O:=
 List.rec (motive:=λ_=>Nat->(α->O)->O) (λ_ _=>none)
  (λa _ ih i k=>Nat.rec (motive:=λ_=>α->(Nat->(α->O)->O)->(α->O)->O) (λa _ k=>k a) (λp _ _ ih k=>ih p k) i a ih k) l i k
theorem jcr:∀(l:List α) (i:Nat) (k:α->O),nthK l i k=match l[i]? with | some a=>k a | none=>none:=by
 intro l
 induction l with
 |nil=>intro i k;rfl
 |cons a l ih=>
  intro i k;cases i with
  |zero=>rfl
  |succ i=>exact(ih i k).trans (by simp)
noncomputable def putK(l:List α)(i:Nat)(x:α)(k:List α->O):O:=
 List.rec (motive:=λ_=>Nat->α->(List α->O)->O) (λ_ _ k=>k [])
  (λa r ih i x k=>Nat.rec (motive:=λ_=>α->List α->(Nat->α->(List α->O)->O)->α->(List α->O)->O) (λ_ r _ x k=>k (x::r))
   (λp _ a _ ih x k=>ih p x λr=>k (a::r)) i a r ih x k) l i x k
theorem qbr(x:α):∀(l:List α) (i:Nat) (k:List α->O),putK l i x k=k (l.set i x):=by
 intro l
 induction l with
 |nil=>intro i k;rfl
 |cons a l ih=>
  intro i k;cases i with
  |zero=>rfl
  |succ i=>exact ih i _
end
theorem qoh{b:Bool}{t:O}{R:AV×Heap}(h:ifK b t=some R):b=true/\t=some R:=by
 rw[jgp]at h;split at h
 ·rename_i e;exact⟨e,h⟩
 ·simp at h
theorem qeo{α:Type}{l:List α}{i:Nat}{k:α->O}{R:AV×Heap}(h:nthK l i k=some R):∃a,l[i]?=some a/\k a=some R:=by
 rw[jcr]at h;cases hg:l[i]? with
 |none=>rw[hg]at h;simp at h
 |some a=>rw[hg]at h;exact⟨a,rfl,h⟩
noncomputable def bsel(b:Bool)(x y:O):O:=Bool.rec (motive:=λ_=>O->O->O) (λ_ y=>y) (λx _=>x) b x y
theorem quu{b:Bool}{x y:O}{R:AV×Heap}(h:bsel b x y=some R):(b=true/\x=some R)\/y=some R:=by
 cases b
 ·exact .inr h
 ·exact .inl ⟨rfl,h⟩
noncomputable def eqL(l m:List Nat):Bool:=
 List.rec (motive:=λ_=>List Nat->Bool) (λm=>List.rec (motive:=λ_=>Bool) true (λ_ _ _=>false) m) (λa _ ih m=>List.rec (motive:=λ_=>Nat->(List Nat->Bool)->Bool) (λ_ _=>false) (λb r _ a ih=>Bool.rec (motive:=λ_=>Bool->Bool) (λ_=>false) (λx=>x) (Nat.beq a b) (ih r)) m a ih) l m
theorem jgq:∀{l m:List Nat},eqL l m=true->l=m:=by
 intro l
 induction l with
 |nil=>intro m h;cases m with
  |nil=>rfl
  |cons b r=>exact absurd (show false=true from h) (by simp)
 |cons a l ih=>
  intro m h;cases m with
  |nil=>exact absurd (show false=true from h) (by simp)
  |cons b r=>
   have h:Bool.rec (motive:=λ_=>Bool->Bool) (λ_=>false) (λx=>x) (Nat.beq a b) (eqL l r)=true:=h;cases hb:Nat.beq a b with
   |false=>rw[hb]at h;exact absurd (show false=true from h) (by simp)
   |true=>rw[hb]at h;rw[Nat.eq_of_beq_eq_true hb,ih h]
def isJ:O->Bool
 |some _=>true
 |none=>false
theorem nthN{l:List Nat}{i:Nat}{k:Nat->O}{R:AV×Heap}(h:nthK l i k=some R):i<l.length/\k (l.getD i 0)=some R:=by
 obtain⟨a,ha,h⟩:=qeo h
 have hl:i<l.length:=by
  rcases Nat.lt_or_ge i l.length with h' | h'
  ·exact h'
  ·rw[List.getElem?_eq_none h']at ha;simp at ha
 exact⟨hl,by rw[qQ,ha];exact h⟩
noncomputable def addK(M:Nat)(row:List Nat)(k:Nat):Nat->List Nat->(List Nat->O)->O:=
 Nat.rec (motive:=λ_=>Nat->List Nat->(List Nat->O)->O) (λ_ l c=>c l) (λ_ ih j l c=>nthK l j λa=>nthK row j λr=>natK (Nat.mod (Nat.add a r) M) λs=>putK l j s λl=>ih (Nat.succ j) l c) k
theorem quv{M:Nat}{row:List Nat}{c:List Nat->O}{R:AV×Heap}:∀{k j:Nat} {l:List Nat},addK M row k j l c=some R->c (addR M row k j l)=some R:=by
 intro k
 induction k with
 |zero=>intro j l h;exact h
 |succ k ih=>
  intro j l h;obtain⟨_,h⟩:=nthN (show nthK l j (λa=>nthK row j λr=>natK (Nat.mod (Nat.add a r) M) λs=>putK l j s λl=>addK M row k (Nat.succ j) l c)=some R from h);obtain⟨_,h⟩:=nthN h;rw[zwd,qbr]at h;exact ih h
section
variable(g:List (List Nat))(n M:Nat)
noncomputable def quw(k:Nat):Nat->Nat->List Nat->List Nat->O->(Nat->List Nat->List Nat->O)->O:=
 Nat.rec (motive:=λ_=>Nat->Nat->List Nat->List Nat->O->(Nat->List Nat->List Nat->O)->O) (λ_ _ _ _ z _=>z)
  (λ_ ih i norm inner x z c=>nthK g i λrow=>nthK inner i λa=>nthK row i λr=>natK (Nat.mod (Nat.add (Nat.add norm (Nat.mul 2 a)) r) M) λnorm=>addK M row n 0 inner λinner=>nthK x i λb=>
   bsel (Nat.ble (Nat.succ (Nat.succ b)) M) (natK (Nat.succ b) λb=>putK x i b λx=>c norm inner x) (ifK (Nat.ble M (Nat.succ b)) (putK x i 0 λx=>ih (Nat.succ i) norm inner x z c))) k
theorem qoi{z:O}{c:Nat->List Nat->List Nat->O}{R:AV×Heap}:∀{k i norm:Nat} {inner x:List Nat},quw g n M k i norm inner x z c=some R->
  (bump g n M k i norm inner x=none/\z=some R)\/∃norm' inner' x',bump g n M k i norm inner x=some (norm',inner',x')/\c norm' inner' x'=some R:=by
 intro k
 induction k with
 |zero=>intro i norm inner x h;exact .inl ⟨rfl,h⟩
 |succ k ih=>
  intro i norm inner x h
  obtain⟨row,hrow,h⟩:=qeo (show nthK g i (λrow=>nthK inner i λa=>nthK row i λr=>natK (Nat.mod (Nat.add (Nat.add norm (Nat.mul 2 a)) r) M) λnorm=>addK M row n 0 inner λinner=>nthK x i λb=>
   bsel (Nat.ble (Nat.succ (Nat.succ b)) M) (natK (Nat.succ b) λb=>putK x i b λx=>c norm inner x) (ifK (Nat.ble M (Nat.succ b)) (putK x i 0 λx=>quw g n M k (Nat.succ i) norm inner x z c)))=some R from h)
  have hg:g.getD i []=row:=by rw[qQ,hrow];rfl
  obtain⟨_,h⟩:=nthN h;obtain⟨_,h⟩:=nthN h;rw[zwd]at h;have h:=quv h;obtain⟨_,h⟩:=nthN h;rw[<-hg]at h;simp only[bump];rcases quu h with⟨hb,h⟩ | h
  ·rw[Nat.ble_eq]at hb;rw[zwd,qbr]at h;rw[if_pos (by omega)];exact .inr ⟨_,_,_,rfl,h⟩
  ·obtain⟨hb,h⟩:=qoh h;rw[Nat.ble_eq]at hb;rw[qbr]at h;rw[if_neg (by omega),List.set_set];exact ih h
noncomputable def incK(l:List Nat)(i:Nat)(k:List Nat->O):O:=
 List.rec (motive:=λ_=>Nat->(List Nat->O)->O) (λ_ _=>none)
  (λa r ih i k=>Nat.rec (motive:=λ_=>Nat->List Nat->(Nat->(List Nat->O)->O)->(List Nat->O)->O) (λa r _ k=>natK (Nat.succ a) λa=>k (a::r)) (λp _ a _ ih k=>ih p λr=>k (a::r)) i a r ih k) l i k
theorem qux{R:AV×Heap}:∀{l:List Nat} {i:Nat} {k:List Nat->O},incK l i k=some R->k (l.set i (l.getD i 0+1))=some R:=by
 intro l
 induction l with
 |nil=>intro i k h;exact absurd (show(none:O)=some R from h) (by simp)
 |cons a l ih=>
  intro i k h;cases i with
  |zero=>
   have h:natK (Nat.succ a) (λa=>k (a::l))=some R:=h;rw[zwd]at h;exact h
  |succ i=>exact ih (show incK l i (λr=>k (a::r))=some R from h)
noncomputable def runK(f:Nat):List Nat->Nat->List Nat->List Nat->(List Nat->O)->O:=
 Nat.rec (motive:=λ_=>List Nat->Nat->List Nat->List Nat->(List Nat->O)->O) (λ_ _ _ _ _=>none)
  (λ_ ih cts norm inner x k=>incK cts norm λcts=>quw g n M n 0 norm inner x (k cts) λnorm inner x=>ih cts norm inner x k) f
theorem quy{k:List Nat->O}{R:AV×Heap}:∀{f:Nat} {cts:List Nat} {norm:Nat} {inner x:List Nat},runK g n M f cts norm inner x k=some R->∃fin,runC g n M f cts norm inner x=some fin/\k fin=some R:=by
 intro f
 induction f with
 |zero=>intro cts norm inner x h;exact absurd (show(none:O)=some R from h) (by simp)
 |succ f ih=>
  intro cts norm inner x h;have h:=qux (show incK cts norm (λcts=>quw g n M n 0 norm inner x (k cts) λnorm inner x=>runK g n M f cts norm inner x k)=some R from h);rcases qoi g n M h with⟨hb,h⟩ | ⟨norm',inner',x',hb,h⟩
  ·exact⟨_,by simp only[runC,hb],h⟩
  ·obtain⟨fin,h1,h2⟩:=ih h;exact⟨fin,by simp only[runC,hb];exact h1,h2⟩
end
section
variable(g:List (List Nat))(n M:Nat)
noncomputable def endB(f:Nat)(cts:List Nat)(norm:Nat)(inner x:List Nat)(fin:List Nat):Bool:=
 isJ (runK g n M f cts norm inner x λc=>ifK (eqL c fin) (some (.junk,[])))
theorem qoj{f:Nat}{cts:List Nat}{norm:Nat}{inner x:List Nat}{fin:List Nat}(h:endB g n M f cts norm inner x fin=true):runC g n M f cts norm inner x=some fin:=by
 unfold endB at h;cases hr:runK g n M f cts norm inner x (λc=>ifK (eqL c fin) (some (.junk,[])))with
 |none=>rw[hr]at h;simp[isJ]at h
 |some R=>
  obtain⟨c',h1,h2⟩:=quy g n M hr;obtain⟨e1,h2⟩:=qoh h2;rw[jgq e1]at h1;exact h1
