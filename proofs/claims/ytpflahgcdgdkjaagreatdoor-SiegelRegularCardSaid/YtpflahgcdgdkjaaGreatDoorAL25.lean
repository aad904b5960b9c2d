/- A part of the proof. -/
import Derived.Test.YtpflahgcdgdkjaaGreatDoorAL24
import Derived.ScopeJumps
set_option linter.all false
namespace Go.AL
open Go
def zee:CC->Nat->Option CC
 |.seq a b,l=>match zee a l with
  |some r=>some (.seq r b)
  |none=>zee b l
 |.label l',l=>if l' == l then some .skip else none
 |_,_=>none
theorem qfe{P:Program}{Γ:Glob}{nt l:Nat}:∀(code:Code) (c:CC),zdb P Γ nt code=some c->
  match zee c l with
  |some r=>∃code',findLabel code l=some code'/\zdb P Γ nt code'=some r
  |none=>findLabel code l=none:=by
 intro code
 induction code with
 |seq x y ihx ihy=>
  intro c hc;simp only[zdb]at hc;split at hc
  ·rename_i cx cy hx hy;simp at hc;subst hc;have h1:=ihx cx hx;have h2:=ihy cy hy;simp only[zee];cases hf:zee cx l with
   |some r=>
    rw[hf]at h1;obtain⟨code',g1,g2⟩:=h1;exact⟨.seq code' y,by simp[findLabel,g1],by simp[zdb,g2,hy]⟩
   |none=>
    rw[hf]at h1;simp only at h1 ⊢;cases hg:zee cy l with
    |some r=>
     rw[hg]at h2;obtain⟨code',g1,g2⟩:=h2;exact⟨code',by simp[findLabel,h1,g1],g2⟩
    |none=>rw[hg]at h2;simp only at h2 ⊢;simp[findLabel,h1,h2]
  ·simp at hc
 |label l'=>
  intro c hc;simp only[zdb]at hc;simp at hc;subst hc;simp only[zee];by_cases h:(l' == l)=true
  ·simp only[h,if_true];exact⟨.skip,by simp[findLabel,h],rfl⟩
  ·simp only[h];simp[findLabel,h]
 |_=>
  intro c hc;simp only[zdb]at hc
  repeat' (split at hc)
  all_goals first
   |(simp at hc;done)
   |(simp at hc;subst hc;simp[zee,findLabel])
theorem qff{l:Nat}:∀{c r:CC},zee c l=some r->c.flat=true->r.flat=true:=by
 intro c
 induction c with
 |seq a b iha ihb=>
  intro r h hf;simp only[CC.flat,Bool.and_eq_true]at hf;simp only[zee]at h;split at h
  ·rename_i r' hr;simp at h;subst h;simp[CC.flat,iha hr hf.1,hf.2]
  ·exact ihb h hf.2
 |label l'=>
  intro r h _;simp only[zee]at h;split at h<;>simp at h;subst h;rfl
 |_=>intro r h _;simp[zee]at h
theorem zcc{P:Program}{b:Frame}{a:Act}{k:List Item}{cs:List Frame}{w:World}{c:Code}:step P (lone (b.atR a (.code (.scope c)::k)) cs w)= .next (lone (b.atR a (.code c:: .inScope c::k)) cs w):=
 step_lone_go (by simp[stepG,stepG.exec,Frame.atR])
theorem zgw{P:Program}{b:Frame}{a:Act}{k:List Item}{cs:List Frame}{w:World}{c:Code}:step P (lone (b.atR a (.inScope c::k)) cs w)= .next (lone (b.atR a k) cs w):=
 step_lone_go (by simp[stepG,stepG.exec,Frame.atR])
theorem qbn{P:Program}{Γ:Glob}{n0 nt:Nat}{c:CC}{E:Env}{H:Heap}{Q:Post}(h:W P Γ n0 nt c E H (λx E' H'=>(∀l,x≠ .goto l)/\Q x E' H')):W P Γ n0 nt (.scope c) E H Q:=by
 intro code hc C ρ a w h1 h2 hfl hs;cases code<;>simp only[zdb]at hc<;>try (simp at hc;done)
 case scope x=>
  split at hc
  ·rename_i cx hx;simp at hc;subst hc;intro b k cs hro hb hr;obtain⟨e,a₁,w₁,⟨E1,H1,ρ1,⟨hg,hq⟩,hs1⟩,harr⟩:=h x hx C ρ a w h1 h2 hfl hs b (.inScope x::k) cs hro hb hr;have h0:(lone (b.atR a (.code (.scope x)::k)) cs w).fenced P (zek C.ro):=fenced_calm hb hr rfl;cases e with
   |normal=>exact⟨.normal,a₁,w₁,⟨E1,H1,ρ1,hq,hs1⟩,.head h0 zcc (StepsIn.trans harr (.one (fenced_calm hb hr rfl) zgw))⟩
   |exit id=>exact⟨.exit id,a₁,w₁,⟨E1,H1,ρ1,hq,hs1⟩,λk' hk=> .head h0 zcc (harr.1 k' (by simp[exitTo,hk])),λhr' hk=>let ⟨k₁,h1,h2⟩:=harr.2 hr' (by simp[exitTo,hk]);⟨k₁,h1,.head h0 zcc h2⟩⟩
   |goto l=>exact absurd rfl (hg l)
   |ret=>exact⟨_,a₁,w₁,⟨E1,H1,ρ1,hq,hs1⟩,.of_steps (.one h0 zcc) harr⟩
   |panic ch=>exact⟨_,a₁,w₁,⟨E1,H1,ρ1,hq,hs1⟩,.of_steps (.one h0 zcc) harr⟩
   |outgrown=>exact⟨_,a₁,w₁,⟨E1,H1,ρ1,hq,hs1⟩,.of_steps (.one h0 zcc) harr⟩
  ·simp at hc
 all_goals (split at hc<;>try (simp at hc;done))
 all_goals (split at hc<;>try (simp at hc;done))
 all_goals (split at hc<;>simp at hc)
def qxm(l:Nat)(J:Env->Heap->Prop)(Q:Post):Post:=λx E H=>match x with
 |.goto l'=>l'=l/\J E H
 |x=>Q x E H
theorem qjn{P:Program}{Γ:Glob}{n0 nt:Nat}{c rest:CC}{E:Env}{H:Heap}{Q:Post}(l:Nat)(J:Nat->Env->Heap->Prop)(hf:zee c l=some rest)
  (first:W P Γ n0 nt c E H (qxm l (λE' H'=>∃m E2 H2,J m E2 H2/\Weak Γ n0 E' H' E2 H2) Q))
  (pass:∀n E H,J n E H->W P Γ n0 nt rest E H (qxm l (λE' H'=>∃m E2 H2,m<n/\J m E2 H2/\Weak Γ n0 E' H' E2 H2) Q)):W P Γ n0 nt (.scope c) E H Q:=by
 intro code hc C ρ a w h1 h2 hfl hs;cases code<;>simp only[zdb]at hc<;>try (simp at hc;done)
 case scope x=>
  split at hc
  ·rename_i cx hx;simp at hc;subst hc;have hfl:=qfe (l:=l) x cx hx;rw[hf]at hfl;obtain⟨rx,hfx,hrx⟩:=hfl;intro b k cs hro hb hr;have hg:gotoIn l (.inScope x::k)=some (.code rx:: .inScope x::k):=by simp[gotoIn,hfx]
   have key:∀n E H ρ a w,J n E H->Sim Γ C ρ E H a w->
     ∃e a' w',(∃E' H' ρ',Q e E' H'/\Sim Γ C ρ' E' H' a' w')/\ArrivesIn (Machine.fenced P (zek C.ro)) P (lone (b.atR a (.code rx:: .inScope x::k)) cs w) b k cs e a' w':=by
    intro n
    induction n using Nat.strongRecOn with
    |_ n ih=>
     intro E H ρ a w hJ hs;obtain⟨e,a₁,w₁,⟨E1,H1,ρ1,hq,hs1⟩,harr⟩:=pass n E H hJ rx hrx C ρ a w h1 h2 (hfl.imp id (qff hf)) hs b (.inScope x::k) cs hro hb hr;cases e with
     |normal=>exact⟨.normal,a₁,w₁,⟨E1,H1,ρ1,hq,hs1⟩,StepsIn.trans harr (.one (fenced_calm hb hr rfl) zgw)⟩
     |exit id=>exact⟨.exit id,a₁,w₁,⟨E1,H1,ρ1,hq,hs1⟩,λk' hk=>harr.1 k' (by simp[exitTo,hk]),λhr' hk=>harr.2 hr' (by simp[exitTo,hk])⟩
     |goto l'=>
      obtain⟨rfl,m,E2,H2,hlt,hJ2,hw⟩:=hq;obtain⟨ρ2,hs2⟩:=hw C ρ1 a₁ w₁ h1 hs1;obtain⟨e₂,a₂,w₂,hq₂,harr₂⟩:=ih m hlt E2 H2 ρ2 a₁ w₁ hJ2 hs2;exact⟨e₂,a₂,w₂,hq₂,.of_steps (harr.1 _ hg) harr₂⟩
     |ret=>exact⟨_,a₁,w₁,⟨E1,H1,ρ1,hq,hs1⟩,harr⟩
     |panic ch=>exact⟨_,a₁,w₁,⟨E1,H1,ρ1,hq,hs1⟩,harr⟩
     |outgrown=>exact⟨_,a₁,w₁,⟨E1,H1,ρ1,hq,hs1⟩,harr⟩
   obtain⟨e,a₁,w₁,⟨E1,H1,ρ1,hq,hs1⟩,harr⟩:=first x hx C ρ a w h1 h2 hfl hs b (.inScope x::k) cs hro hb hr
   have h0:(lone (b.atR a (.code (.scope x)::k)) cs w).fenced P (zek C.ro):=fenced_calm hb hr rfl;cases e with
   |normal=>exact⟨.normal,a₁,w₁,⟨E1,H1,ρ1,hq,hs1⟩,.head h0 zcc (StepsIn.trans harr (.one (fenced_calm hb hr rfl) zgw))⟩
   |exit id=>exact⟨.exit id,a₁,w₁,⟨E1,H1,ρ1,hq,hs1⟩,λk' hk=> .head h0 zcc (harr.1 k' (by simp[exitTo,hk])),λhr' hk=>let ⟨k₁,h1,h2⟩:=harr.2 hr' (by simp[exitTo,hk]);⟨k₁,h1,.head h0 zcc h2⟩⟩
   |goto l'=>
    obtain⟨rfl,m,E2,H2,hJ2,hw⟩:=hq;obtain⟨ρ2,hs2⟩:=hw C ρ1 a₁ w₁ h1 hs1;obtain⟨e₂,a₂,w₂,hq₂,harr₂⟩:=key m E2 H2 ρ2 a₁ w₁ hJ2 hs2;exact⟨e₂,a₂,w₂,hq₂,.of_steps (.head h0 zcc (harr.1 _ hg)) harr₂⟩
   |ret=>exact⟨_,a₁,w₁,⟨E1,H1,ρ1,hq,hs1⟩,.of_steps (.one h0 zcc) harr⟩
   |panic ch=>exact⟨_,a₁,w₁,⟨E1,H1,ρ1,hq,hs1⟩,.of_steps (.one h0 zcc) harr⟩
   |outgrown=>exact⟨_,a₁,w₁,⟨E1,H1,ρ1,hq,hs1⟩,.of_steps (.one h0 zcc) harr⟩
  ·simp at hc
 all_goals (split at hc<;>try (simp at hc;done))
 all_goals (split at hc<;>try (simp at hc;done))
 all_goals (split at hc<;>simp at hc)
