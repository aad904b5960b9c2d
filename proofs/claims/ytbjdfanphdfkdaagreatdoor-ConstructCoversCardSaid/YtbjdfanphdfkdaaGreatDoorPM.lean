/- A part of the proof. -/
import Derived.Test.YtbjdfanphdfkdaaGreatDoorCVL
import Derived.Test.YtbjdfanphdfkdaaGreatDoorPL
set_option linter.all false
open Go.AL.AV.closed renaming closedL -> qX
open Nat renaming eq_of_beq_eq_true -> qZ
namespace Go.Proofs.YtbjdfanphdfkdaaGreatDoor
open Go Go.AL Go.Proofs
noncomputable section
def cntF(r:Nat->List AV->O)(h:AV)(cs:List Nat)(n:Nat):Bool:=List.rec (motive:=λ_=>Nat->Bool) (λn=>Nat.beq n (nat_lit 1))
 (λc _ ih n=>match r (nat_lit 9) [mV c,h,J (nat_lit 200000)]with
  |some (.tup [t,.bool b,e],[])=>match eqA2 (nat_lit 8) e (J (nat_lit 0))with
   |true=>match clV t with
    |true=>match b with
     |true=>ih (Nat.succ n)
     |false=>ih n
    |false=>false
   |false=>false
  |_=>false) cs n
def hOK(fv:Nat->AV)(d:Nat)(reps:List Nat)(c:Nat):Bool:=match okV (rn2 (nat_lit 6) [fv c]) (J d)with
 |true=>cntF rn2 (fv c) reps (nat_lit 0)
 |false=>false
def grp(fv:Nat->AV)(d:Nat)(reps hs:List Nat):Bool:=List.rec (motive:=λ_=>Bool) true (λc _ ih=>match hOK fv d reps c with
 |true=>ih
 |false=>false) hs
end
def Fnd(h:AV):List Nat->List Bool->Prop
 | [],[]=>True
 |c::cs,b::bs=>(∃t,t.closed=true/\Rt 9 [mV c,h,.int .i64 200000] [] (.tup [t,.bool b,.int .i64 0]) [])/\Fnd h cs bs
 |_,_=>False
theorem Fnd.len{h:AV}:∀{cs:List Nat} {bs:List Bool},Fnd h cs bs->bs.length=cs.length
 | [],[],_=>rfl
 |_::_,_::_,x=>congrArg Nat.succ (Fnd.len x.2)
theorem Fnd.get{h:AV}:∀{cs:List Nat} {bs:List Bool},Fnd h cs bs->∀i,i<cs.length->∃c t,cs[i]?=some c/\t.closed=true/\Rt 9 [mV c,h,.int .i64 200000] [] (.tup [t,.bool (bs.getD i false),.int .i64 0]) []
 |c::_,b::_,x,0,_=>by
  obtain⟨t,h1,h2⟩:=x.1;exact⟨c,t,rfl,h1,h2⟩
 |_::cs,_::bs,x,i+1,hi=>by
  obtain⟨c,t,h1,h2,h3⟩:=Fnd.get x.2 i (by simpa using hi);exact⟨c,t,h1,h2,h3⟩
theorem xge{r:Nat->List AV->O}{h:AV}(hr:∀{f a v},r f a=some (v,[])->Rt f a [] v []):∀{cs:List Nat} {n:Nat},cntF r h cs n=true->∃bs,Fnd h cs bs/\n+bs.count true=1:=by
 intro cs
 induction cs with
 |nil=>intro n e;exact⟨[],trivial,by have:=qZ (show Nat.beq n 1=true from e);simpa using this⟩
 |cons c cs ih=>
  intro n e
  have e:(match r (nat_lit 9) [mV c,h,J (nat_lit 200000)]with
   |some (.tup [t,.bool b,e],[])=>match eqA2 (nat_lit 8) e (J (nat_lit 0))with
    |true=>match clV t with
     |true=>match b with
      |true=>cntF r h cs (Nat.succ n)
      |false=>cntF r h cs n
     |false=>false
    |false=>false
   |_=>false)=true:=e
  split at e
  ·rename_i t b e0 h1;split at e
   ·rename_i he;have he:=zpz 8 _ _ he;subst he;split at e
    ·rename_i hc;have hc:=(zpp _).symm.trans hc;split at e
     ·obtain⟨bs,h2,h3⟩:=ih e;exact⟨true::bs,⟨⟨t,hc,hr h1⟩,h2⟩,by rw[List.count_cons_self];omega⟩
     ·obtain⟨bs,h2,h3⟩:=ih e;exact⟨false::bs,⟨⟨t,hc,hr h1⟩,h2⟩,by rw[List.count_cons_of_ne (by decide)];exact h3⟩
    ·simp at e
   ·simp at e
  ·simp at e
def GrpP(fv:Nat->AV)(d:Nat)(reps:List Nat)(c:Nat):Prop:=Rt 6 [fv c] [] (J d) []/\∃bs,Fnd (fv c) reps bs/\bs.count true=1
theorem xkj{fv:Nat->AV}{d:Nat}{reps:List Nat}{c:Nat}(h:hOK fv d reps c=true):GrpP fv d reps c:=by
 unfold hOK at h;split at h
 ·rename_i h1;obtain⟨bs,h2,h3⟩:=xge (r:=rn2) zyc h;exact⟨jyb h1,bs,h2,by have h3:0+bs.count true=1:=h3;omega⟩
 ·simp at h
theorem xkk{fv:Nat->AV}{d:Nat}{reps:List Nat}:∀{hs:List Nat},grp fv d reps hs=true->∀c,c∈hs->GrpP fv d reps c:=by
 intro hs
 induction hs with
 |nil=>intro _ c hc;simp at hc
 |cons x hs ih=>
  intro h
  have h:(match hOK fv d reps x with
   |true=>grp fv d reps hs
   |false=>false)=true:=h
  split at h
  ·rename_i h1;intro c hc;rcases List.mem_cons.1 hc with rfl | hc
   ·exact xkj h1
   ·exact ih h c hc
  ·simp at h
theorem jaj(n:Nat):(mV n).closed=true:=by
 unfold mV;split
 ·simp[rwV,J,zo,AV.closed,qX]
 ·split<;>simp[rwV,J,zo,AV.closed,qX]
theorem jbh(l:List Nat):qX (l.map mV)=true:=by
 induction l with
 |nil=>rfl
 |cons x l ih=>simp only[List.map_cons,qX,jaj,ih,Bool.and_self]
theorem covG{n d:Nat}{reps:List Nat}{fv:Nat->AV}{c:Nat}(hA:AllP n d reps)(hl:reps.length<2^40)(h:GrpP fv d reps c):qif n (fv c):=by
 obtain⟨h1,bs,h2,h3⟩:=h;have el:(reps.map mV).length=reps.length:=List.length_map ..;refine⟨(d:Int),h1,.inr ⟨reps.map mV,none,bs,?_,?_,by rw[el];exact hl,by rw[el];exact h2.len,λi hi=>?_,?_⟩⟩
 ·rw[el];exact hA
 ·simp only[AV.closed,jbh]
 ·obtain⟨x,t,g1,g2,g3⟩:=h2.get i (by rw[<-el];exact hi);exact⟨mV x,t,by rw[List.getElem?_map,g1];rfl,jaj x,g2,g3⟩
 ·unfold cntB;rw[el,<-h2.len,List.take_length];exact h3
def AllG(P:Nat->Prop):List (List Nat)->Prop
 | []=>True
 |l::r=>(∀c,c∈l->P c)/\AllG P r
noncomputable def jak(c:Nat)(LL:List (List Nat)):Bool:=List.rec (motive:=λ_=>Bool) false (λl _ ih=>List.rec (motive:=λ_=>Bool) ih (λx _ ih2=>Bool.rec (motive:=λ_=>Bool) ih2 true (Nat.beq x c)) l) LL
theorem qia{P:Nat->Prop}{c:Nat}:∀{LL:List (List Nat)},AllG P LL->jak c LL=true->P c:=by
 intro LL
 induction LL with
 |nil=>intro _ h;simp[jak]at h
 |cons l r ih=>
  rintro⟨h1,h2⟩ h;have h:(List.rec (motive:=λ_=>Bool) (jak c r) (λx _ ih2=>Bool.rec (motive:=λ_=>Bool) ih2 true (Nat.beq x c)) l:Bool)=true:=h
  have key:∀l:List Nat,(List.rec (motive:=λ_=>Bool) (jak c r) (λx _ ih2=>Bool.rec (motive:=λ_=>Bool) ih2 true (Nat.beq x c)) l:Bool)=true->c∈l\/jak c r=true:=by
   intro l
   induction l with
   |nil=>intro h;exact .inr h
   |cons x l ih=>
    intro h;have h:(Bool.rec (motive:=λ_=>Bool) (List.rec (motive:=λ_=>Bool) (jak c r) (λx _ ih2=>Bool.rec (motive:=λ_=>Bool) ih2 true (Nat.beq x c)) l) true (Nat.beq x c):Bool)=true:=h;cases hx:Nat.beq x c with
    |true=>left;rw[qZ hx];exact List.mem_cons_self
    |false=>rw[hx]at h;exact(ih h).imp (List.mem_cons_of_mem _) id
  rcases key l h with hc | hc
  ·exact h1 c hc
  ·exact ih h2 hc
noncomputable def xgg(v:AV):Bool:=match rn2 (nat_lit 6) [v]with
 |some (.int k z,[])=>match qvi k .i64 with
  |true=>leB 41 z
  |false=>false
 |_=>false
noncomputable def okQ(fv:Nat->AV)(LL:List (List Nat))(c:Nat):Bool:=Bool.rec (motive:=λ_=>Bool) (xgg (fv c)) true (jak c LL)
theorem qQ{fv:Nat->AV}{LL:List (List Nat)}{n c:Nat}(hL:AllG (λc=>qif n (fv c)) LL)(h:okQ fv LL c=true):qif n (fv c):=by
 unfold okQ at h;cases hm:jak c LL with
 |true=>exact qia (P:=λc=>qif n (fv c)) hL hm
 |false=>
  rw[hm]at h;have h:xgg (fv c)=true:=h;unfold xgg at h;split at h
  ·rename_i k z h1;split at h
   ·rename_i hk;have e:=qcy hk;subst e;exact⟨z,zyc h1,.inl (by have:=zgm.1 h;omega)⟩
   ·simp at h
  ·simp at h
noncomputable section
def zz(n:Nat):Int:=Bool.rec (motive:=λ_=>Int) (.negSucc (Nat.sub (nat_lit 7) n)) (.ofNat (Nat.sub n (nat_lit 8))) (Nat.ble (nat_lit 8) n)
def zI(n:Nat):AV:= .int .i64 (zz n)
def f3V(c:Nat):AV:=rwV [rwV [J (c/1048576),zI (c/65536%16),zI (c/4096%16)],rwV [zI (c/65536%16),J (c/256%16),zI (c/16%16)],rwV [zI (c/4096%16),zI (c/16%16),J (c%16)]]
def f2V(c:Nat):AV:=rwV [rwV [J (c/256),zI (c/16%16)],rwV [zI (c/16%16),J (c%16)]]
def f1V(c:Nat):AV:=rwV [rwV [J c]]
end
theorem kpf(n:Nat):zz n=(n:Int)-8:=by
 unfold zz;cases h:Nat.ble (nat_lit 8) n with
 |true=>
  rw[Nat.ble_eq]at h
  show Int.ofNat (n-8)=n-8
  have:8<=n:=h;rw[Int.ofNat_eq_natCast];omega
 |false=>
  have:¬8<=n:=λh'=>by rw[<-Nat.ble_eq]at h';rw[show Nat.ble 8 n=false from h]at h';simp at h'
  show Int.negSucc (7-n)=n-8
  rw[Int.negSucc_eq];omega
theorem kerG{fv:Nat->AV}{n d:Nat}{reps:List Nat}(hA:AllP n d reps){hs:List Nat}(hl:Nat.ble reps.length (nat_lit 100000)=true)(h:grp fv d reps hs=true):∀c,c∈hs->qif n (fv c):=λc hc=>covG hA (by have h:reps.length<=100000:=Nat.le_of_ble_eq_true hl;omega) (xkk h c hc)
theorem qzs(d:Nat){n:Nat}(reps:List Nat)(hA:AllP n d reps)(hs:List Nat)(hl:Nat.ble reps.length (nat_lit 100000)=true:=by kernel_rfl)(h:grp f1V d reps hs=true:=by kernel_rfl):∀c,c∈hs->qif n (f1V c):=kerG hA hl h
theorem qbk(d:Nat){n:Nat}(reps:List Nat)(hA:AllP n d reps)(hs:List Nat)(hl:Nat.ble reps.length (nat_lit 100000)=true:=by kernel_rfl)(h:grp f2V d reps hs=true:=by kernel_rfl):∀c,c∈hs->qif n (f2V c):=kerG hA hl h
theorem zad(d:Nat){n:Nat}(reps:List Nat)(hA:AllP n d reps)(hs:List Nat)(hl:Nat.ble reps.length (nat_lit 100000)=true:=by kernel_rfl)(h:grp f3V d reps hs=true:=by kernel_rfl):∀c,c∈hs->qif n (f3V c):=kerG hA hl h
