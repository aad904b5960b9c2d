/- A part of the proof. -/
import Derived.Test.YtpflahgcdgdkjaaGreatDoorAL8
set_option linter.all false
namespace Go.AL
open Option renaming bind_eq_some_iff -> qQ, map_some -> qZ
open Nat renaming zero_le -> qX, sub_self -> qJ, le_refl -> qW
open Option.some renaming injEq -> qK
open Go
section
variable{P:Program}{Γ:Glob}{E:Env}{a:Act}{w:World}{F:Nat->Prop}{ρ:Nat->RS}{H:Heap}{n0 fresh:Nat}{o:Oper}{v:AV}{e:Eff}{rd:List Nat}
theorem qwk{w:World}{M:Nat->Prop}{ρ:Nat->RS}{cs:List AV}{c:Array Value}(h:zbi w M ρ cs c.toList):
  ∀(j:Nat) (a:AV),cs[j]?=some a->∃v,c[j]?=some v/\Rep w M ρ a v:=by
 intro j x hx;have hl:c.size=cs.length:=by simpa using h.1
 have hj:j<c.size:=by
  rcases Nat.lt_or_ge j cs.length with h' | h'
  ·omega
  ·rw[List.getElem?_eq_none h']at hx;simp at hx
 exact⟨c[j],by simp[hj],h.2 j x _ hx (by simp[hj])⟩
theorem qou(ho:HOK Γ w F ρ H)(he:∀t,Rep w (Mu F ρ) ρ (E t) (a.tmps.getD t undef)){t el:TypeId}{i:TypeInfo}{x y:Operand}{x' y':Opd}{z:List AV}{k k':IntKind}{n c:Int}
  (hfr:fresh<H.length) (hu:ρ fresh= .unborn) (ht:P.underlying t=some (.slice el)) (hi:P.info? el=some i) (hz:zjy P el=some z)
  (hx:cOpd Γ x=some x') (hy:cOpd Γ y=some y') (hop:o.op= .makeSlice t x y) (hn:val E x'= .int k n) (hc:val E y'= .int k' c)
  (h0:0<=n) (h1:n<=c) (h2:c*i.bytes<=2^48) (h3:c<2^63) (h4:z.length=i.size) (h5:0<i.size):
  Snd P Γ o a w F ρ n0 (.sl fresh 0 n.toNat i.size (some c.toNat)) (zad [(fresh,some (zeh c.toNat z))] H) [fresh]:=by
 have hx':=zaj ho he hx;have hy':=zaj ho he hy;rw[hn]at hx';rw[hc]at hy';obtain⟨zv,i',hi',hiz,hrow⟩:=ziq hz;rw[hi]at hi';simp at hi';subst hi';have hzl:0<z.length:=by omega
 have hrw:=zke c.toNat hzl (hrow w (Mu F ρ) ρ);rw[h4,<-znf]at hrw;have wn:IntKind.i64.wrap n=n:=IntWalk.i64_in _ (by omega);have wc:IntKind.i64.wrap c=c:=IntWalk.i64_in _ (by omega);have hb:(i.bytes:Int)*c=c*i.bytes:=Int.mul_comm _ _;have hbig:¬((i.bytes:Int)*c>2^48):=by rw[hb];omega
 have hrun:(execOp a.eval o).run P w= .ok (.value (.slice (some ⟨w.heap.size,0,none⟩) n.toNat c.toNat))
   (w.alloc (.cells ((Array.range (c.toNat*i.size)).map λj=>zv.cells[j%zv.cells.size]!) el)):=by
  simp only[execOp,hop,zbt hx',zbt hy',Instr.makeSlice,Sem.run_bind,zas ht,Result.andThen_ok,asInt,asIntOf,Sem.run_pure,znb hi,wn,wc];rw[if_neg (by simp[hbig];omega)];simp only[Sem.run_bind,Sem.run_pure,Result.andThen_ok,askRoom]
  have hask:∀(w:World) (b:Nat),((if b>roomBytes then mark .noRoom else pure ():Sem Unit)).run P w= .ok () w:=by
   intro w b;split<;>simp[mark,Sem.run]
  rw[hask];simp only[Result.andThen_ok,sizeOf,Sem.run_bind,znb hi,Sem.run_pure];by_cases hz0:c.toNat*i.size=0
  ·have hr0:Array.range 0= #[]:=rfl;simp[hz0,zfe,hr0]
  ·simp only[if_neg hz0,Sem.run_bind,zfr hi hiz,Sem.run_pure,Result.andThen_ok,zfe]
 have hsz:((Array.range (c.toNat*i.size)).map λj=>zv.cells[j%zv.cells.size]!).size=c.toNat*i.size:=by simp
 refine⟨_,_,_,_,hrun,.inl rfl,zfh n0 ho hfr hu (zeh c.toNat z) _ el (Nat.le_of_eq (by simpa using hrw.1.symm)) (qwk hrw),?_⟩;exact .slAt _ _ _ _ _ w.heap.size c.toNat el _ (by simp[updR]) (by simp[World.shape?,World.alloc,-World.alloc_eq];rfl) (by omega) (by intro k hk;simpa using hk) (by omega)
theorem qea{x:AV}{n:Nat}(h:zgc x=some n):∃k i,x= .int k i/\0<=i/\n=i.toNat:=by
 cases x<;>simp[zgc]at h;rename_i k i;obtain⟨h1,h2⟩:=zac h;simp at h2;exact⟨k,i,rfl,h1,h2.symm⟩
theorem znx{x:AV}{x':Value}{n y:Nat}(h:Rep w (Mu F ρ) ρ x x')(hn:zgc x=some n)(hy:n<=y)(code:BoundsCode):(Instr.sliceBound x' y code).run P w= .ok n w:=by
 obtain⟨k,i,rfl,h0,rfl⟩:=qea hn;have:=zbt h;subst this;simp[Instr.sliceBound,asIntOf,h0];omega
def cOpt(Γ:Glob):Option Operand->Option (Option Opd)
 |none=>some none
 |some x=>(cOpd Γ x).map some
theorem optM{x:Option Operand}{y:Option Opd}(h:x.mapM (cOpd Γ)=some y):cOpt Γ x=some y:=by
 cases x with
 |none=>simpa[cOpt]using h
 |some x=>simp[cOpt]at h ⊢;exact h
theorem zqu(ho:HOK Γ w F ρ H)(he:∀t,Rep w (Mu F ρ) ρ (E t) (a.tmps.getD t undef)){lo hi mx:Option Operand}{lo' hi' mx':Option Opd}(hlo:cOpt Γ lo=some lo')(hhi:cOpt Γ hi=some hi')(hmx:cOpt Γ mx=some mx')
  {isS:Bool} {n cap l h m:Nat} (hl:zbm (val E) 0 lo'=some l) (hh:zbm (val E) n hi'=some h)
  (hm:(mx'=none/\m=cap)\/(∃y,mx'=some y/\zgc (val E y)=some m/\hi'.isSome=true)) (h1:l<=h) (h2:h<=m) (h3:m<=cap):
  (Instr.sliceBounds isS n cap (lo.map a.eval) (hi.map a.eval) (mx.map a.eval)).run P w= .ok (l,h,m) w:=by
 have low:∀x y,lo=some x->lo'=some y->∀code,(Instr.sliceBound (a.eval x) h code).run P w= .ok l w:=by
  intro x y e1 e2 code;subst e1 e2;simp[cOpt]at hlo;exact znx (zaj ho he hlo) (by simpa[zbm]using hl) h1 code
 have high:∀x y,hi=some x->hi'=some y->∀code,(Instr.sliceBound (a.eval x) m code).run P w= .ok h w:=by
  intro x y e1 e2 code;subst e1 e2;simp[cOpt]at hhi;exact znx (zaj ho he hhi) (by simpa[zbm]using hh) h2 code
 have lowN:lo'=none->l=0:=by intro e1;subst e1;simpa[zbm]using hl.symm
 have highN:hi'=none->h=n:=by intro e1;subst e1;simpa[zbm]using hh.symm
 have cN:∀(x:Option Operand) (y:Option Opd),cOpt Γ x=some y->(x=none/\y=none)\/∃u z,x=some u/\y=some z:=by
  intro x y hxy;cases x with
  |none=>simp[cOpt]at hxy;exact .inl ⟨rfl,hxy.symm⟩
  |some u=>simp[cOpt]at hxy;obtain⟨z,_,rfl⟩:=hxy;exact .inr ⟨u,z,rfl,rfl⟩
 rcases cN mx mx' hmx with⟨rfl,rfl⟩ | ⟨xm,ym,rfl,rfl⟩
 ·rcases hm with⟨_,rfl⟩ | ⟨y,hy,_⟩
  ·rcases cN lo lo' hlo with⟨rfl,rfl⟩ | ⟨xl,yl,rfl,rfl⟩<;>rcases cN hi hi' hhi with⟨rfl,rfl⟩ | ⟨xh,yh,rfl,rfl⟩
   ·have:=lowN rfl;have:=highN rfl;subst_vars;simp[Instr.sliceBounds]
   ·have:=lowN rfl;subst this;simp[Instr.sliceBounds,high xh yh rfl rfl]
   ·have:=highN rfl;subst this;simp[Instr.sliceBounds,low xl yl rfl rfl]
   ·simp[Instr.sliceBounds,low xl yl rfl rfl,high xh yh rfl rfl]
  ·simp at hy
 ·rcases hm with⟨hm,_⟩ | ⟨y',hy',hn,hs⟩
  ·simp at hm
  ·simp at hy';subst hy';simp[cOpt]at hmx;have hM:=λcode=>znx (P:=P) (zaj ho he hmx) hn h3 code
   rcases cN hi hi' hhi with⟨rfl,rfl⟩ | ⟨xh,yh,rfl,rfl⟩
   ·simp at hs
   ·rcases cN lo lo' hlo with⟨rfl,rfl⟩ | ⟨xl,yl,rfl,rfl⟩
    ·have:=lowN rfl;subst this;simp[Instr.sliceBounds,high xh yh rfl rfl,hM]
    ·simp[Instr.sliceBounds,low xl yl rfl rfl,high xh yh rfl rfl,hM]
theorem qhk{w:World}{M:Nat->Prop}{cs:List AV}{b off l k:Nat}{vs:Nat->Value}(hM:cs≠[]->¬M b)(hcell:∀j,j<cs.length->w.cell? ⟨b,off+j,none⟩=some (vs j))
  (hrep:∀(j:Nat) (a:AV),cs[j]?=some a->IRep w M a (vs j)) {n cap:Nat} {c:Option Nat} (hn:n<=cap) (hc:∀k,c=some k->cap=k):
  IRep w M (.vec ((cs.drop l).take k) n c) (.slice (some ⟨b,off+l,none⟩) n cap):=by
 refine .vec _ n c b (off+l) cap (λj=>vs (l+j)) (λhne=>hM (λe=>hne (by simp[e]))) (λj hj=>?_) (λj a ha=>?_) hn hc
 ·simp at hj;rw[Nat.add_assoc];exact hcell (l+j) (by omega)
 ·rw[List.getElem?_take]at ha;split at ha
  ·rw[List.getElem?_drop]at ha;exact hrep (l+j) a ha
  ·simp at ha
theorem zny{l:Nat}{c:Option Nat}{cap k:Nat}(hc:∀k,c=some k->cap=k)(h:zdx l c=some k):cap-l=k:=by
 cases c with
 |none=>simp[zdx]at h
 |some c'=>simp[zdx]at h;have:=hc c' rfl;omega
theorem zvd{sz:Nat}{x:AV}{lo' hi' mx':Option Opd}(h:zdy (val E) sz x lo' hi' mx'=some v):
  (∀{u:Value},Rep w (Mu F ρ) ρ x u->∃(ad:Option Addr) (n cap l h m:Nat),u= .slice ad n cap/\zbm (val E) 0 lo'=some l/\zbm (val E) n hi'=some h/\
   ((mx'=none/\m=cap)\/(∃y,mx'=some y/\zgc (val E y)=some m/\hi'.isSome=true))/\l<=h/\h<=m/\m<=cap/\
   Rep w (Mu F ρ) ρ v (.slice (if m=l then ad else ad.map (·.add (l*sz))) (h-l) (m-l))):=by
 intro u hr;cases x<;>simp only[zdy]at h<;>try (simp at h;done)
 case vec cs n c=>
  simp only[qQ]at h;obtain⟨hh,hhe,l,hle,h⟩:=h
  have emp:∀(ad:Option Addr) (c':Option Nat) (k:Nat),(∀b o s,ad=some ⟨b,o,s⟩->s=none)->(ad=none->k=0)->(∀q,c'=some q->k=q)->IRep w (Mu F ρ) (.vec [] 0 c') (.slice ad 0 k):=by
   intro ad c' k h1 h2 h3;cases ad with
   |none=>have:=h2 rfl;subst this;exact .nil none _ (λq hq=>(h3 q hq).symm)
   |some ad=>
    obtain⟨b,o,s⟩:=ad;have:=h1 b o s rfl;subst this;exact .vec [] 0 c' b o k (λ_=>undef) (by simp) (by simp) (by simp) (qX _) h3
  have body:∀(mf:Nat->Nat) (c':Option Nat),l<=hh->hh<=n->n*sz<=cs.length->(∀cap,n<=cap->(∀k,c=some k->cap=k)->hh<=mf cap/\mf cap<=cap/\∀q,c'=some q->mf cap-l=q)->
    (∀cap,(mx'=none/\mf cap=cap)\/(∃y,mx'=some y/\zgc (val E y)=some (mf cap)/\hi'.isSome=true))->
    ∃(ad:Option Addr) (n' cap l2 k2 m:Nat),u= .slice ad n' cap/\zbm (val E) 0 lo'=some l2/\zbm (val E) n' hi'=some k2/\
     ((mx'=none/\m=cap)\/(∃y,mx'=some y/\zgc (val E y)=some m/\hi'.isSome=true))/\l2<=k2/\k2<=m/\m<=cap/\
     Rep w (Mu F ρ) ρ (.vec ((cs.drop (l*sz)).take ((hh-l)*sz)) (hh-l) c') (.slice (if m=l2 then ad else ad.map (·.add (l2*sz))) (k2-l2) (m-l2)):=by
   intro mf c' h1 h2 h3 h4 h5;rcases zfi hr with⟨p,rfl,rfl,rfl,hc⟩ | ⟨b,off,cap,vs,rfl,hM,hcell,hrep,hn,hc⟩
   ·obtain⟨g1,g2,g3⟩:=h4 0 (qW _) (λk hk=>(hc k hk).symm);refine⟨p,0,0,l,hh,mf 0,rfl,hle,hhe,h5 0,h1,g1,g2,.imm _ _ ?_⟩;have e1:l=0:=by omega
    have e2:hh=0:=by omega
    have e3:mf 0=0:=by omega
    subst e1 e2;simp only[e3,if_true,List.drop_nil,List.take_nil,qJ];exact .nil _ _ (λq hq=>by have:=g3 q hq;omega)
   ·obtain⟨g1,g2,g3⟩:=h4 cap hn hc;refine⟨some ⟨b,off,none⟩,n,cap,l,hh,mf cap,rfl,hle,hhe,h5 cap,h1,g1,g2,.imm _ _ ?_⟩;by_cases e:mf cap=l
    ·have e2:hh=l:=by omega
     subst e2;simp only[e,if_true,qJ,Nat.zero_mul,List.take_zero];exact emp _ _ _ (by intro b o s h;simp at h;exact h.2.2.symm) (by simp) (λq hq=>by have:=g3 q hq;omega)
    ·simp only[e,if_false,qZ,zei];exact qhk hM hcell hrep (by omega) g3
  cases mx' with
  |none=>
   simp only at h;obtain⟨⟨h1,h2,h3⟩,hv⟩:=zac h;simp at hv;subst hv;exact body (λcap=>cap) _ h1 h2 h3 (λcap hcap hcc=>⟨by omega,qW _,λq hq=>zny hcc hq⟩) (λcap=> .inl ⟨rfl,rfl⟩)
  |some y=>
   simp only[qQ]at h;obtain⟨m,hm,h⟩:=h;obtain⟨⟨h0,h1,h2,h3,h4⟩,hv⟩:=zac h;simp at hv;subst hv;exact body (λ_=>m) (some (m-l)) h1 (by omega) h4 (λcap hcap hcc=>⟨h2,by omega,λq hq=>by simpa using hq⟩) (λcap=> .inr ⟨y,rfl,hm,h0⟩)
 case sl id off n s c=>
  simp only[qQ]at h;obtain⟨hh,hhe,l,hle,h⟩:=h;obtain⟨b,cap,rfl,hn,hc,hb⟩:=zez hr
  have body:∀(m:Nat) (c':Option Nat) (z:AV),(l=hh->Rep w (Mu F ρ) ρ z (.slice (if m=l then some ⟨b,off,none⟩else(some ⟨b,off,none⟩:Option Addr).map (·.add (l*sz))) 0 (m-l)))->s=sz->l<=hh->hh<=n->hh<=m->m<=cap->(∀q,c'=some q->m-l=q)->
    ((mx'=none/\m=cap)\/(∃y,mx'=some y/\zgc (val E y)=some m/\hi'.isSome=true))->
    ∃(ad:Option Addr) (n' cap' l2 k2 m:Nat),(Value.slice (some ⟨b,off,none⟩) n cap)= .slice ad n' cap'/\zbm (val E) 0 lo'=some l2/\zbm (val E) n' hi'=some k2/\
     ((mx'=none/\m=cap')\/(∃y,mx'=some y/\zgc (val E y)=some m/\hi'.isSome=true))/\l2<=k2/\k2<=m/\m<=cap'/\
     Rep w (Mu F ρ) ρ (if l=hh then z else .sl id (off+l*sz) (hh-l) sz c') (.slice (if m=l2 then ad else ad.map (·.add (l2*sz))) (k2-l2) (m-l2)):=by
   intro m c' z hz h0 h1 h2 h3 h4 h5 h6;refine⟨some ⟨b,off,none⟩,n,cap,l,hh,m,rfl,hle,hhe,h6,h1,h3,h4,?_⟩;by_cases e:l=hh
   ·subst e;simp only[if_true,qJ];exact hz rfl
   ·have e2:¬m=l:=by omega
    simp only[e,e2,if_false,qZ,zei];subst h0;rcases hb with hb | ⟨hb,el,mm,hs,hm⟩
    ·exact .slDead _ _ _ _ _ _ _ hb (by omega) h5
    ·refine .slAt _ _ _ _ _ _ _ el mm hb hs (by omega) h5 ?_;have:l*s+(m-l)*s=m*s:=by rw[<-Nat.add_mul];congr 1;omega
     have h7:m*s<=cap*s:=Nat.mul_le_mul_right _ h4;omega
  have vec0:∀(m:Nat) (c':Option Nat),(∀q,c'=some q->m-l=q)->Rep w (Mu F ρ) ρ (.vec [] 0 c') (.slice (if m=l then some ⟨b,off,none⟩else(some ⟨b,off,none⟩:Option Addr).map (·.add (l*sz))) 0 (m-l)):=by
   intro m c' h5;refine .imm _ _ ?_;split
   ·exact .vec [] 0 c' b off _ (λ_=>undef) (by simp) (by simp) (by simp) (qX _) h5
   ·simp only[qZ,zei];exact .vec [] 0 c' b _ _ (λ_=>undef) (by simp) (by simp) (by simp) (qX _) h5
  cases mx' with
  |none=>
   simp only at h;obtain⟨⟨h0,h1,h2⟩,hv⟩:=zac h;simp only[qK]at hv;subst hv;refine body cap _ _ (λ_=>?_) h0 h1 h2 (by omega) (qW _) (λq hq=>zny hc hq) (.inl ⟨rfl,rfl⟩);cases c with
   |some q=>rw[zxz];exact vec0 cap _ (λq' hq=>by have:=hc q rfl;simp at hq;omega)
   |none=>
    cases l with
    |succ l=>exact vec0 cap _ (λq hq=>by simp[zdx]at hq)
    |zero=>
     have e1:(if cap=0 then some ⟨b,off,none⟩else(some ⟨b,off,none⟩:Option Addr).map (·.add (0*sz)))=some (⟨b,off,none⟩:Addr):=by
      split
      ·rfl
      ·simp[zei]
     rw[e1]
     show Rep w (Mu F ρ) ρ (.sl id off 0 sz none) _
     subst h0;rcases hb with hb | ⟨hb,el,mm,hs,hm⟩
     ·exact .slDead _ _ _ _ _ _ _ hb (qX _) (λq hq=>by simp at hq)
     ·exact .slAt _ _ _ _ _ _ _ el mm hb hs (qX _) (λq hq=>by simp at hq) (by simpa using hm)
  |some y=>
   simp only[qQ]at h;obtain⟨m,hm,h⟩:=h;obtain⟨⟨hs,h0,h1,h2,h3⟩,hv⟩:=zac h;simp only[qK]at hv;subst hv;exact body m (some (m-l)) _ (λ_=>vec0 m _ (λq hq=>by simpa using hq)) h0 h1 (by omega) h2 (by omega) (λq hq=>by simpa using hq) (.inr ⟨y,rfl,hm,hs⟩)
theorem qhl(ho:HOK Γ w F ρ H)(he:∀t,Rep w (Mu F ρ) ρ (E t) (a.tmps.getD t undef)){t el:TypeId}{sz:Nat}{x:Operand}{x':Opd}{lo hi mx:Option Operand}{lo' hi' mx':Option Opd}
  (ht:P.underlying t=some (.slice el)) (hz:szT P el=some sz) (hx:cOpd Γ x=some x') (hlo:cOpt Γ lo=some lo') (hhi:cOpt Γ hi=some hi') (hmx:cOpt Γ mx=some mx')
  (hop:o.op= .slice t x lo hi mx) (hv:zdy (val E) sz (val E x') lo' hi' mx'=some v):Snd P Γ o a w F ρ n0 v H []:=by
 obtain⟨ad,n,cap,l,h,m,e1,h1,h2,h3,h4,h5,h6,h7⟩:=zvd hv (zaj ho he hx);refine zat ho ?_ h7;have hb:=zqu (P:=P) (isS:=true) ho he hlo hhi hmx h1 h2 h3 h4 h5 h6;simp only[execOp,hop,e1,Instr.sliceAt,Instr.slice,Sem.run_bind,zas ht,Result.andThen_ok,hb,zcy hz,Sem.run_pure]
theorem zve(ho:HOK Γ w F ρ H)(he:∀t,Rep w (Mu F ρ) ρ (E t) (a.tmps.getD t undef)){t el:TypeId}{n sz:Nat}{x:Operand}{lo hi mx:Option Operand}{lo' hi' mx':Option Opd}{y:AV}{b p:Nat}
  (ht:P.underlying t=some (.array n el)) (hz:szT P el=some sz) (hlo:cOpt Γ lo=some lo') (hhi:cOpt Γ hi=some hi') (hmx:cOpt Γ mx=some mx')
  (hop:o.op= .slice t x lo hi mx) (hx:a.eval x= .pointer (some ⟨b,p,none⟩)) (hy:Rep w (Mu F ρ) ρ y (.slice (some ⟨b,p,none⟩) n n))
  (hv:zdy (val E) sz y lo' hi' mx'=some v):Snd P Γ o a w F ρ n0 v H []:=by
 obtain⟨ad,n',cap,l,h,m,e1,h1,h2,h3,h4,h5,h6,h7⟩:=zvd hv hy;simp at e1;obtain⟨rfl,rfl,rfl⟩:=e1;refine zat ho (v':= .slice (some (if m=l then⟨b,p,none⟩else(⟨b,p,none⟩:Addr).add (l*sz))) (h-l) (m-l)) ?_ ?_
 ·have hb:=zqu (P:=P) (isS:=false) ho he hlo hhi hmx h1 h2 h3 h4 h5 h6;simp only[execOp,hop,hx,Instr.sliceAt,Sem.run_bind,zas ht,Result.andThen_ok,Instr.sureAddr,hb,zcy hz,Sem.run_pure]
 ·by_cases e:m=l
  ·simpa[e]using h7
  ·simpa[e]using h7
