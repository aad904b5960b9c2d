/- A part of the proof. -/
import Derived.Test.YtpflahgcdgdkjaaGreatDoorAL18
set_option linter.all false
namespace Go.AL
open Bool renaming and_eq_true -> qQ
open Go
abbrev Post:=Exit->Env->Heap->Prop
def W(P:Program)(Γ:Glob)(n0 nt:Nat)(c:CC)(E:Env)(H:Heap)(Q:Post):Prop:=
 ∀code,zdb P Γ nt code=some c->∀(C:Ctx) (ρ:Nat->RS) (a:Act) (w:World),C.n0=n0->C.nt=nt->(C.ro=none\/c.flat=true)->Sim Γ C ρ E H a w->
  code.wpIn (zek C.ro) 0 P (λx a' w'=>∃E' H' ρ',Q x E' H'/\Sim Γ C ρ' E' H' a' w') a w
theorem qwo{x:Option Nat}{a b:Bool}(h:x=none\/(a && b)=true):x=none\/a=true:=h.imp id (λh=>(qQ _ _ ▸ h).1)
theorem qwp{x:Option Nat}{a b:Bool}(h:x=none\/(a && b)=true):x=none\/b=true:=h.imp id (λh=>(qQ _ _ ▸ h).2)
section
variable{P:Program}{Γ:Glob}{n0 nt:Nat}{c d:CC}{E:Env}{H:Heap}{Q R:Post}
theorem W.mono(h:W P Γ n0 nt c E H Q)(hq:∀x E' H',Q x E' H'->R x E' H'):W P Γ n0 nt c E H R:=
 λcode hc C ρ a w h1 h2 hfl hs=>wpIn_mono (h code hc C ρ a w h1 h2 hfl hs) (λ_ _ _ ⟨E',H',ρ',q,s⟩=>⟨E',H',ρ',hq _ _ _ q,s⟩)
theorem qhx(h:Q .normal E H):W P Γ n0 nt .skip E H Q:=by
 intro code hc C ρ a w _ _ _ hs;cases code<;>simp only[zdb]at hc<;>try (simp at hc;done)
 case skip=>exact wpIn_skip ⟨E,H,ρ,h,hs⟩
 all_goals (split at hc<;>try (simp at hc;done))
 all_goals (split at hc<;>try (simp at hc;done))
 all_goals (split at hc<;>simp at hc)
theorem jbx(h:Q .ret E H):W P Γ n0 nt .ret E H Q:=by
 intro code hc C ρ a w _ _ _ hs;cases code<;>simp only[zdb]at hc<;>try (simp at hc;done)
 case ret=>exact wpIn_ret ⟨E,H,ρ,h,hs⟩
 all_goals (split at hc<;>try (simp at hc;done))
 all_goals (split at hc<;>try (simp at hc;done))
 all_goals (split at hc<;>simp at hc)
theorem qun{id:Nat}(h:Q (.exit id) E H):W P Γ n0 nt (.exit id) E H Q:=by
 intro code hc C ρ a w _ _ _ hs;cases code<;>simp only[zdb]at hc<;>try (simp at hc;done)
 case exit id'=>simp at hc;subst hc;exact wpIn_exit ⟨E,H,ρ,h,hs⟩
 all_goals (split at hc<;>try (simp at hc;done))
 all_goals (split at hc<;>try (simp at hc;done))
 all_goals (split at hc<;>simp at hc)
theorem qhy{l:Nat}(h:Q .normal E H):W P Γ n0 nt (.label l) E H Q:=by
 intro code hc C ρ a w _ _ _ hs;cases code<;>simp only[zdb]at hc<;>try (simp at hc;done)
 case label id'=>simp at hc;subst hc;exact wpIn_label ⟨E,H,ρ,h,hs⟩
 all_goals (split at hc<;>try (simp at hc;done))
 all_goals (split at hc<;>try (simp at hc;done))
 all_goals (split at hc<;>simp at hc)
theorem qup{l:Nat}(h:Q (.goto l) E H):W P Γ n0 nt (.goto l) E H Q:=by
 intro code hc C ρ a w _ _ _ hs;cases code<;>simp only[zdb]at hc<;>try (simp at hc;done)
 case goto id'=>simp at hc;subst hc;exact wpIn_goto ⟨E,H,ρ,h,hs⟩
 all_goals (split at hc<;>try (simp at hc;done))
 all_goals (split at hc<;>try (simp at hc;done))
 all_goals (split at hc<;>simp at hc)
def zed(k:Env->Heap->Prop)(Q:Post):Post:=λx E H=>match x with
 |.normal=>k E H
 |x=>Q x E H
theorem zkf(h:W P Γ n0 nt c E H (zed (λE' H'=>W P Γ n0 nt d E' H' Q) Q)):W P Γ n0 nt (.seq c d) E H Q:=by
 intro code hc C ρ a w h1 h2 hfl hs;cases code<;>simp only[zdb]at hc<;>try (simp at hc;done)
 case seq x y=>
  split at hc
  ·rename_i cx cy hx hy;simp at hc;obtain⟨rfl,rfl⟩:=hc;refine wpIn_seq (wpIn_mono (h x hx C ρ a w h1 h2 (qwo hfl) hs) ?_);rintro e a' w' ⟨E',H',ρ',q,s⟩;cases e with
   |normal=>exact q y hy C ρ' a' w' h1 h2 (qwp hfl) s
   |_=>exact⟨E',H',ρ',q,s⟩
  ·simp at hc
 all_goals (split at hc<;>try (simp at hc;done))
 all_goals (split at hc<;>try (simp at hc;done))
 all_goals (split at hc<;>simp at hc)
theorem qhz{x:Opd}{t:Bool}(hx:val E x= .bool t)(ht:t=true->W P Γ n0 nt c E H Q)(hf:t=false->W P Γ n0 nt d E H Q):W P Γ n0 nt (.cond x c d) E H Q:=by
 intro code hc C ρ a w h1 h2 hfl hs;cases code<;>simp only[zdb]at hc<;>try (simp at hc;done)
 case cond x' y z=>
  split at hc
  ·rename_i cx cy cz hxx hy hz;simp at hc;obtain⟨rfl,rfl,rfl⟩:=hc;have hr:=zaj hs.hok hs.env hxx;rw[hx]at hr;exact wpIn_cond_split (zej hr) (λe=>ht e y hy C ρ a w h1 h2 (qwo hfl) hs) (λe=>hf e z hz C ρ a w h1 h2 (qwp hfl) hs)
  ·simp at hc
 all_goals (split at hc<;>try (simp at hc;done))
 all_goals (split at hc<;>try (simp at hc;done))
 all_goals (split at hc<;>simp at hc)
theorem qep{x:Opd}(hx:val E x= .anyb)(ht:W P Γ n0 nt c E H Q)(hf:W P Γ n0 nt d E H Q):W P Γ n0 nt (.cond x c d) E H Q:=by
 intro code hc C ρ a w h1 h2 hfl hs;cases code<;>simp only[zdb]at hc<;>try (simp at hc;done)
 case cond x' y z=>
  split at hc
  ·rename_i cx cy cz hxx hy hz;simp at hc;obtain⟨rfl,rfl,rfl⟩:=hc;have hr:=zaj hs.hok hs.env hxx;rw[hx]at hr;obtain⟨b,hb⟩:=zsk hr;exact wpIn_cond_split hb (λ_=>ht y hy C ρ a w h1 h2 (qwo hfl) hs) (λ_=>hf z hz C ρ a w h1 h2 (qwp hfl) hs)
  ·simp at hc
 all_goals (split at hc<;>try (simp at hc;done))
 all_goals (split at hc<;>try (simp at hc;done))
 all_goals (split at hc<;>simp at hc)
def zmw(id:Nat)(Q:Post):Post:=λx E H=>match x with
 |.exit i=>if i=id then Q .normal E H else Q (.exit i) E H
 |x=>Q x E H
theorem zoi{id:Nat}(h:W P Γ n0 nt c E H (zmw id Q)):W P Γ n0 nt (.block id c) E H Q:=by
 intro code hc C ρ a w h1 h2 hfl hs;cases code<;>simp only[zdb]at hc<;>try (simp at hc;done)
 case block id' x=>
  split at hc
  ·rename_i cx hx;simp at hc;obtain⟨rfl,rfl⟩:=hc;refine wpIn_block (wpIn_mono (h x hx C ρ a w h1 h2 hfl hs) ?_);rintro e a' w' ⟨E',H',ρ',q,s⟩;cases e with
   |exit i=>
    simp only[zmw]at q;simp only[Exit.inBlock];split at q
    ·rename_i e1;rw[if_pos e1];exact⟨E',H',ρ',q,s⟩
    ·rename_i e1;rw[if_neg e1];exact⟨E',H',ρ',q,s⟩
   |_=>exact⟨E',H',ρ',q,s⟩
  ·simp at hc
 all_goals (split at hc<;>try (simp at hc;done))
 all_goals (split at hc<;>try (simp at hc;done))
 all_goals (split at hc<;>simp at hc)
def Weak(Γ:Glob)(n0:Nat)(E:Env)(H:Heap)(E':Env)(H':Heap):Prop:=
 ∀(C:Ctx) (ρ:Nat->RS) (a:Act) (w:World),C.n0=n0->Sim Γ C ρ E H a w->∃ρ',Sim Γ C ρ' E' H' a w
theorem Weak.refl:Weak Γ n0 E H E H:=λ_ ρ _ _ _ h=>⟨ρ,h⟩
theorem W.weak{E':Env}{H':Heap}(hw:Weak Γ n0 E H E' H')(h:W P Γ n0 nt c E' H' Q):W P Γ n0 nt c E H Q:=by
 intro code hc C ρ a w h1 h2 hfl hs;obtain⟨ρ',hs'⟩:=hw C ρ a w h1 hs;exact h code hc C ρ' a w h1 h2 hfl hs'
theorem zaf(I:Nat->Env->Heap->Prop){n:Nat}(h0:I n E H)
  (round:∀n E H,I n E H->W P Γ n0 nt c E H (zed (λE' H'=>∃m E2 H2,m<n/\I m E2 H2/\Weak Γ n0 E' H' E2 H2) Q)):W P Γ n0 nt (.loop c) E H Q:=by
 intro code hc C ρ a w h1 h2 hfl hs;cases code<;>simp only[zdb]at hc<;>try (simp at hc;done)
 case loop x=>
  split at hc
  ·rename_i cx hx;simp at hc;subst hc;intro b k cs hro hb hr
   have key:∀n E H ρ a w,I n E H->Sim Γ C ρ E H a w->
     ∃e a' w',(∃E' H' ρ',Q e E' H'/\Sim Γ C ρ' E' H' a' w')/\ArrivesIn (Machine.fenced P (zek C.ro)) P (lone (b.atR a (.code x:: .inLoop x::k)) cs w) b k cs e a' w':=by
    intro n
    induction n using Nat.strongRecOn with
    |_ n ih=>
     intro E H ρ a w hI hs;obtain⟨e,a₁,w₁,⟨E1,H1,ρ1,hq,hs1⟩,harr⟩:=round n E H hI x hx C ρ a w h1 h2 hfl hs b (.inLoop x::k) cs hro hb hr;cases e with
     |normal=>
      obtain⟨m,E2,H2,hlt,hI2,hw⟩:=hq;obtain⟨ρ2,hs2⟩:=hw C ρ1 a₁ w₁ h1 hs1;obtain⟨e₂,a₂,w₂,hq₂,harr₂⟩:=ih m hlt E2 H2 ρ2 a₁ w₁ hI2 hs2;exact⟨e₂,a₂,w₂,hq₂,.of_steps (StepsIn.trans harr (.one (fenced_calm hb hr rfl) stepR_inLoop)) harr₂⟩
     |exit id=>exact⟨_,a₁,w₁,⟨E1,H1,ρ1,hq,hs1⟩,.pass (x:= .inLoop x) rfl (λ_ _=> .inl (by simp)) harr⟩
     |goto l=>exact⟨_,a₁,w₁,⟨E1,H1,ρ1,hq,hs1⟩,.pass (x:= .inLoop x) rfl (λ_ _=> .inl (by simp)) harr⟩
     |ret=>exact⟨_,a₁,w₁,⟨E1,H1,ρ1,hq,hs1⟩,.pass (x:= .inLoop x) rfl (λ_ _=> .inl (by simp)) harr⟩
     |panic ch=>exact⟨_,a₁,w₁,⟨E1,H1,ρ1,hq,hs1⟩,.pass (x:= .inLoop x) rfl (λ_ _=> .inl (by simp)) harr⟩
     |outgrown=>exact⟨_,a₁,w₁,⟨E1,H1,ρ1,hq,hs1⟩,.pass (x:= .inLoop x) rfl (λ_ _=> .inl (by simp)) harr⟩
   obtain⟨e,a',w',hq,harr⟩:=key n E H ρ a w h0 hs;exact⟨e,a',w',hq,.of_steps (.one (fenced_calm hb hr rfl) stepR_loop) harr⟩
  ·simp at hc
 all_goals (split at hc<;>try (simp at hc;done))
 all_goals (split at hc<;>try (simp at hc;done))
 all_goals (split at hc<;>simp at hc)
theorem zyp{C:Ctx}{ops:Array Oper}{cs:List COp}{Q:Exit->Act->World->Prop}(hget:∀(j:Nat) (o:Oper),ops[j]?=some o->∃c,cs[j]?=some c/\qgu P Γ C.nt ops o=some c)(hlen:cs.length=ops.size):
  ∀(n i:Nat) (its:List It) (ρ:Nat->RS) (E:Env) (H:Heap) (E':Env) (H':Heap) (a:Act) (w:World),i+n=ops.size->RunS P Γ C.n0 (cs.drop i) its E H E' H'->Sim Γ C ρ E H a w->
   (∀ρ' a' w',Sim Γ C ρ' E' H' a' w'->Q .normal a' w')->wpOpsIn (zek C.ro) 0 P ops Q (List.range' i n) a w:=by
 intro n
 induction n with
 |zero=>
  intro i its ρ E H E' H' a w hn hr hs hQ;have:cs.drop i=[]:=List.drop_eq_nil_of_le (by omega);rw[this]at hr;cases its with
  |nil=>obtain⟨rfl,rfl⟩:=hr;exact hQ ρ a w hs
  |cons it its=>exact hr.elim
 |succ n ih=>
  intro i its ρ E H E' H' a w hn hr hs hQ;have hi:i<cs.length:=by omega
  rw[List.drop_eq_getElem_cons hi]at hr;cases its with
  |nil=>exact hr.elim
  |cons it its=>
   obtain⟨h1,h2,h3⟩:=hr;have hio:i<ops.size:=by omega
   obtain⟨c',hc',hco⟩:=hget i ops[i] (by simp[hio]);rw[List.getElem?_eq_getElem hi]at hc';simp at hc';subst hc';rw[List.range'_succ,wpOpsIn_cons];have hsp:=hs.pad it.c;refine qul (o:=ops[i]) (by simp[hio]) hsp hco h2 (by rw[h1];exact hs.len) (by simp;omega) (λj hj1 _=>hs.hok.unborn j (by omega)) ?_;intro ρ' v' w' hs' _;exact ih (i+1) its ρ' _ _ E' H' _ w' (by omega) h3 hs' hQ
theorem jby{cs:List COp}{dr:Option (List (Nat×Nat))}{its:List It}{E':Env}{H':Heap}(hm:P.follows .mixedOrders=true)(hrun:RunS P Γ n0 cs its E H E' H')
  (hd:∀l,dr=some l->∀p∈l,∀x y,its[p.1]?=some x->its[p.2]?=some y->qum x y) (hQ:Q .normal E' H'):W P Γ n0 nt (.reg cs dr) E H Q:=by
 intro code hc C ρ a w h1 h2 hfl hs;cases code<;>simp only[zdb]at hc<;>try (simp at hc;done)
 case region id ops draw=>
  split at hc
  ·rename_i cs' hcs;subst h1 h2;split at hc
   ·rename_i hdraw;subst hdraw;split at hc
    ·rename_i hst;simp at hc;obtain⟨rfl,rfl⟩:=hc;exact zyo hm hcs hst hrun (hd _ rfl) hs (λρ' a' w' hs'=>⟨E',H',ρ',hQ,hs'⟩)
    ·simp at hc
   ·rename_i hdraw;have:draw=false:=by simpa using hdraw
    subst this;simp at hc;obtain⟨rfl,rfl⟩:=hc;obtain⟨hlen,hget⟩:=zvm hcs;refine wpIn_region ?_;rw[List.range_eq_range'];exact zyp hget hlen ops.size 0 its ρ E H E' H' a w (by omega) (by simpa using hrun) hs (λρ' a' w' hs'=>⟨E',H',ρ',hQ,hs'⟩)
  ·simp at hc
 all_goals (split at hc<;>try (simp at hc;done))
