/- A part of the proof. -/
import Derived.Test.YtpflahgcdgdkjaaGreatDoorAL10
set_option linter.all false
namespace Go.AL
open List renaming getElem?_set_ne -> qQ, getElem?_set_self -> qX, getElem?_eq_none -> qZ, getElem?_append_left -> qK, getElem?_append_right -> qW
open Nat renaming lt_or_ge -> qJ, mul_le_mul_right -> qV, add_mul -> qY
open Go
theorem qov:∀(vs cs:List AV) (i:Nat),(setL cs i vs).length=cs.length:=by
 intro vs
 induction vs with
 |nil=>intro cs i;rfl
 |cons v vs ih=>intro cs i;simp[setL,ih]
theorem qbg:∀(vs cs:List AV) (i j:Nat),i+vs.length<=cs.length->(setL cs i vs)[j]?=if i<=j/\j<i+vs.length then vs[j-i]? else cs[j]?:=by
 intro vs
 induction vs with
 |nil=>intro cs i j h;simp[setL];omega
 |cons v vs ih=>
  intro cs i j h;simp only[List.length_cons]at h;rw[setL,ih _ _ _ (by simp;omega)];by_cases h1:i+1<=j/\j<i+1+vs.length
  ·rw[if_pos h1,if_pos (by simp;omega)];have:j-i=(j-(i+1))+1:=by omega
   rw[this,List.getElem?_cons_succ]
  ·rw[if_neg h1];by_cases h2:j=i
   ·subst h2;rw[if_pos (by simp),qX (by omega)];simp
   ·rw[if_neg (by simp;omega),qQ (λe=>h2 e.symm)]
section
variable{P:Program}{Γ:Glob}{E:Env}{a:Act}{w:World}{F:Nat->Prop}{ρ:Nat->RS}{H:Heap}{n0 fresh:Nat}{o:Oper}{v:AV}{e:Eff}{rd:List Nat}
theorem qec{b m:Nat}{el:TypeId}(h:w.shape? b=some (el,m)){j:Nat}(hj:j<m):∃v,w.cell? ⟨b,j,none⟩=some v:=by
 unfold World.shape? at h;unfold World.cell?;split at h
 ·rename_i c el' fr hh;simp at h;simp only[hh];exact⟨c[j]'(by omega),by simp⟩
 ·simp at h
theorem HOK.widen(ho:HOK Γ w F ρ H){id b m:Nat}{el:TypeId}{cs:List AV}(hb:ρ id= .here b)(hH:H[id]?=some (some cs))(hs:w.shape? b=some (el,m)):
  HOK Γ w F ρ (H.set id (some (cs++List.replicate (m-cs.length) .junk))):=by
 have hid:id<H.length:=by
  rcases qJ id H.length with h' | h'
  ·exact h'
  ·rw[qZ h']at hH;simp at hH
 refine⟨ho.inj,ho.notF,ho.fLt,λi hi=>ho.unborn i (by simpa using hi),λi cs' hi=>?_,λi b' hi=>?_,ho.glob⟩
 ·by_cases e:i=id
  ·subst e;exact⟨b,hb⟩
  ·rw[qQ (λx=>e x.symm)]at hi;exact ho.alive i cs' hi
 ·obtain⟨cs',h1,h2⟩:=ho.blk i b' hi;by_cases e:i=id
  ·subst e;have:b'=b:=by rw[hb]at hi;simp at hi;exact hi.symm
   subst this;rw[hH]at h1;simp at h1;subst h1;obtain⟨el',m',h2,h3,h4,h5⟩:=h2.cells ⟨_,hs⟩;rw[hs]at h2;simp at h2;obtain⟨rfl,rfl⟩:=h2;refine⟨_,by rw[qX hid],.inl ⟨el,m,hs,by simp;omega,h4,λj a hj=>?_⟩⟩;rcases qJ j cs.length with hl | hl
   ·rw[qK hl]at hj;exact h5 j a hj
   ·rw[qW hl,List.getElem?_replicate]at hj;split at hj
    ·simp at hj;subst hj;obtain⟨v,hv⟩:=qec hs (j:=j) (by omega);exact⟨v,hv,.imm _ _ (.junk _)⟩
    ·simp at hj
  ·exact⟨cs',by rw[qQ (λx=>e x.symm)];exact h1,h2⟩
theorem HOK.rename(ho:HOK Γ w F ρ H){id b:Nat}{cs cs':List AV}(hn:0<=id)(hb:ρ id= .here b)(hshp:∃x,w.shape? b=some x)(hH:H[id]?=some (some cs))(hu:ρ fresh= .unborn)(hfr:fresh<H.length)
  (hcs:∀(j:Nat) (a:AV),cs'[j]?=some a->cs[j]?=some a) (hl:cs'.length<=cs.length):
  After Γ F n0 ρ w (updR (updR ρ id .dead) fresh (.here b)) w ((H.set id none).set fresh (some cs')) [fresh]:=by
 have hne:fresh≠id:=by intro e;subst e;rw[hb]at hu;simp at hu
 have hold:∀i b',updR (updR ρ id .dead) fresh (.here b) i= .here b'->(i=fresh/\b'=b)\/(i≠fresh/\i≠id/\ρ i= .here b'):=by
  intro i b' hi;unfold updR at hi;split at hi
  ·simp at hi;exact .inl ⟨by assumption,hi.symm⟩
  ·split at hi
   ·simp at hi
   ·exact .inr ⟨by assumption,by assumption,hi⟩
 have hr:∀a v,Rep w (Mu F ρ) ρ a v->Rep w (Mu F (updR (updR ρ id .dead) fresh (.here b))) (updR (updR ρ id .dead) fresh (.here b)) a v:=by
  intro a v hr;refine hr.kept (Kept.refl (λ_=>False) w) (λ_ x=>x.elim) (λb' _ hb'=>?_) ho.lt (λi hi=>?_)
  ·rcases hb' with hb' | ⟨i,hi⟩
   ·exact .inl hb'
   ·rcases hold i b' hi with⟨_,rfl⟩ | ⟨_,_,hi⟩
    ·exact .inr ⟨id,hb⟩
    ·exact .inr ⟨i,hi⟩
  ·unfold updR;by_cases e1:i=fresh
   ·subst e1;exact absurd hu hi
   ·rw[if_neg e1];by_cases e2:i=id
    ·rw[if_pos e2];exact .inr rfl
    ·rw[if_neg e2];exact .inl rfl
 have hidl:id<H.length:=by
  rcases qJ id H.length with h' | h'
  ·exact h'
  ·rw[qZ h']at hH;simp at hH
 refine⟨⟨?_,?_,ho.fLt,?_,?_,?_,?_⟩,Kept.refl _ w,?_,?_,?_⟩
 ·intro i j b' hi hj;rcases hold i b' hi with⟨e1,e2⟩ | ⟨e1,e2,hi'⟩<;>rcases hold j b' hj with⟨e3,e4⟩ | ⟨e3,e4,hj'⟩
  ·omega
  ·subst e2;exact absurd (ho.inj j id _ hj' hb) e4
  ·subst e4;exact absurd (ho.inj i id _ hi' hb) e2
  ·exact ho.inj i j b' hi' hj'
 ·intro i b' hi;rcases hold i b' hi with⟨_,rfl⟩ | ⟨_,_,hi'⟩
  ·exact ho.notF id _ hb
  ·exact ho.notF i _ hi'
 ·intro i hi;simp at hi;unfold updR;rw[if_neg (by omega),if_neg (by omega)];exact ho.unborn i hi
 ·intro i cs2 hi;by_cases e1:i=fresh
  ·subst e1;exact⟨b,by simp[updR]⟩
  ·rw[qQ (λx=>e1 x.symm)]at hi;by_cases e2:i=id
   ·subst e2;rw[qX hidl]at hi;simp at hi
   ·rw[qQ (λx=>e2 x.symm)]at hi;obtain⟨b',hb'⟩:=ho.alive i cs2 hi;exact⟨b',by simp[updR,e1,e2,hb']⟩
 ·intro i b' hi;rcases hold i b' hi with⟨rfl,rfl⟩ | ⟨e1,e2,hi'⟩
  ·obtain⟨cs2,h1,h2⟩:=ho.blk id b' hb;rw[hH]at h1;simp at h1;subst h1;obtain⟨el,m,h2,h3,h4,h5⟩:=h2.cells hshp;refine⟨cs',by rw[qX (by simpa using hfr)],.inl ⟨el,m,h2,by omega,h4,λj a hj=>?_⟩⟩;obtain⟨v,hv,hv'⟩:=h5 j a (hcs j a hj);exact⟨v,hv,hr _ _ hv'⟩
  ·obtain⟨cs2,h1,h2⟩:=ho.blk i b' hi';exact⟨cs2,by rw[qQ (λx=>e1 x.symm),qQ (λx=>e2 x.symm)];exact h1,h2.mono rfl (λ_ _ _=>hr _ _)⟩
 ·intro g cs2 hg;refine(ho.glob g cs2 hg).weaken (λb' _ hb'=>?_);rcases hb' with hb' | ⟨i,hi⟩
  ·exact .inl hb'
  ·rcases hold i b' hi with⟨_,rfl⟩ | ⟨_,_,hi⟩
   ·exact .inr ⟨id,hb⟩
   ·exact .inr ⟨i,hi⟩
 ·intro i hi;unfold updR;by_cases e1:i=fresh
  ·subst e1;exact absurd hu hi
  ·rw[if_neg e1];by_cases e2:i=id
   ·rw[if_pos e2];exact .inr ⟨by omega,rfl⟩
   ·rw[if_neg e2];exact .inl rfl
 ·intro i b' hi;rcases hold i b' hi with⟨_,rfl⟩ | ⟨_,_,hi⟩
  ·exact .inl ⟨id,hb⟩
  ·exact .inl ⟨i,hi⟩
 ·intro i hi hnot;simp at hnot;unfold updR;rw[if_neg hnot,if_neg]
  ·exact hi
  ·intro e;subst e;rw[hb]at hi;simp at hi
theorem zmu{t t2 ty el el2:TypeId}{i:TypeInfo}{z s' x':Value}{tys:Array TypeId}{ad ad2:Option Addr}{n cap m c2:Nat}{olds news:List Value}
  (h0:tys[0]?=some t) (h1:tys[1]?=some t2) (ht:P.underlying t=some (.slice el)) (ht2:P.underlying t2=some (.slice el2)) (hi:P.info? el=some i) (hz:i.zero=some z)
  (es:s'= .slice ad n cap) (ex:x'= .slice ad2 m c2) (ho:∀w':World,w'.heap=w.heap->(Builtin.firstCells i.size n s').run P w'= .ok olds.toArray w')
  (hn:∀w':World,w'.heap=w.heap->(Builtin.firstCells i.size m x').run P w'= .ok news.toArray w') (hg:cap<n+m) (h62:n+m<2^62) (hfit:4*(n+m)*i.bytes<=2^48):
  (Builtin.append_ tys ty #[s',x']).run P w= .ok (.slice (some ⟨w.heap.size,0,none⟩) (n+m) (grownCap w (n+m) cap el))
   (w.drew.alloc (.cells (olds.toArray++news.toArray++Builtin.zeroCells z.cells (grownCap w (n+m) cap el-(n+m))) el)):=by
 subst es ex;have hn1:¬(n+m<=cap):=by omega
 have h63:¬(9223372036854775807<((n:Int)+(m:Int))):=by omega
 have hb:(n+m)*i.bytes<=140737488355328:=by
  have:4*((n+m)*i.bytes)<=2^48:=by rw[<-Nat.mul_assoc];exact hfit
  omega
 have h48:¬(281474976710656<Builtin.nextslicecap (n+m) cap*i.bytes):=by
  have:=growslice_fits hg hb;omega
 have ho':=ho w.drew rfl;have hn':=hn w.drew rfl
 have hask:∀(w:World) (b:Nat),(askRoom b).run P w= .ok () w:=by
  intro w b;unfold askRoom;split<;>simp[mark,Sem.run]
 simp[Builtin.append_,h0,h1,zas ht,zas ht2,sizeOf,typeInfo,zeroValue,hi,hz,Builtin.lenOf,hn1,h63,h48,Question.forced,ho',hn',hask,newRow,grownCap];congr 2;apply Array.ext';simp[List.append_assoc]
theorem zsq{t t2 ty el el2:TypeId}{i:TypeInfo}{s' x':Value}{tys:Array TypeId}{ad:Addr}{ad2:Option Addr}{n cap m c2:Nat}{news:List Value}{w':World}
  (h0:tys[0]?=some t) (h1:tys[1]?=some t2) (ht:P.underlying t=some (.slice el)) (ht2:P.underlying t2=some (.slice el2)) (hi:P.info? el=some i)
  (es:s'= .slice (some ad) n cap) (ex:x'= .slice ad2 m c2)
  (hn:(Builtin.firstCells i.size m x').run P w= .ok news.toArray w) (hg:n+m<=cap) (hst:(storeCells (ad.add (n*i.size)) news).run P w= .ok () w'):
  (Builtin.append_ tys ty #[s',x']).run P w= .ok (.slice (some ad) (n+m) cap) w':=by
 subst es ex;simp[Builtin.append_,h0,h1,zas ht,zas ht2,sizeOf,typeInfo,hi,Builtin.lenOf,hg,hn,hst]
theorem znz{t t2 ty el el2:TypeId}{i:TypeInfo}{s' x':Value}{tys:Array TypeId}{ad ad2:Option Addr}{n cap c2:Nat}
  (h0:tys[0]?=some t) (h1:tys[1]?=some t2) (ht:P.underlying t=some (.slice el)) (ht2:P.underlying t2=some (.slice el2)) (hi:P.info? el=some i)
  (es:s'= .slice ad n cap) (ex:x'= .slice ad2 0 c2) (hn:(Builtin.firstCells i.size 0 x').run P w= .ok #[] w) (hg:n<=cap):
  (Builtin.append_ tys ty #[s',x']).run P w= .ok s' w:=by
 subst es ex;cases ad<;>simp[Builtin.append_,h0,h1,zas ht,zas ht2,sizeOf,typeInfo,hi,Builtin.lenOf,hg,hn,storeCells]
theorem zng{need old:Nat}{el:TypeId}:need<=grownCap w need old el:=by
 unfold grownCap Question.cut;exact Nat.le_add_right _ _
theorem zhr{c:Array Value}{el:TypeId}:(w.alloc (.cells c el)).shape? w.heap.size=some (el,c.size):=by
 simp[World.shape?,World.alloc,-World.alloc_eq]
theorem After.more{ρ':Nat->RS}{w':World}{H':Heap}{l l':List Nat}(h:After Γ F n0 ρ w ρ' w' H' l)(hl:∀x,x∈l->x∈l'):After Γ F n0 ρ w ρ' w' H' l':=
 ⟨h.hok,h.kept,h.ext,h.old,λi hi hn=>h.still i hi (λhx=>hn (hl i hx))⟩
theorem zji(z:Array Value)(n:Nat):(Builtin.zeroCells z n).size=n*z.size:=by simp[Builtin.zeroCells]
theorem qbh{M:Nat->Prop}{cs:List AV}{us:List Value}(h:zbi w M ρ cs us):∀(c:Array Value),(∃rest:Array Value,c=us.toArray++rest)->
  cs.length<=c.size/\∀(j:Nat) (a:AV),cs[j]?=some a->∃v,c[j]?=some v/\Rep w M ρ a v:=by
 rintro c ⟨rest,rfl⟩;refine⟨by simp[h.1],λj x hx=>?_⟩
 have hj:j<us.length:=by
  rw[h.1];rcases qJ j cs.length with h' | h'
  ·exact h'
  ·rw[qZ h']at hx;simp at hx
 exact⟨us[j],by simp[Array.getElem?_append,hj],h.2 j x _ hx (by simp[hj])⟩
theorem qed(ho:HOK Γ w F ρ H)(he:∀t,Rep w (Mu F ρ) ρ (E t) (a.tmps.getD t undef)){cl:Call}{t t2 el el2:TypeId}{i:TypeInfo}{z:List AV}{s x:Operand}{s' x':Opd}
  (hfr:fresh<H.length) (hu:ρ fresh= .unborn) (hop:o.op= .call cl) (hc:cl.callee= .builtin .append) (hargs:cl.args.toList=[s,x])
  (h0:cl.argTypes[0]?=some t) (h1:cl.argTypes[1]?=some t2) (ht:P.underlying t=some (.slice el)) (ht2:P.underlying t2=some (.slice el2)) (hi:P.info? el=some i) (hz:zjy P el=some z) (hzl:z.length=i.size)
  (hs:cOpd Γ s=some s') (hx:cOpd Γ x=some x') (hv:zby n0 fresh H i.size i.bytes (val E s') (val E x')=some (v,e,rd)):Snd P Γ o a w F ρ n0 v (zad e H) [fresh]:=by
 have ha:cl.args= #[s,x]:=by rw[<-Array.toArray_toList (xs:=cl.args),hargs]
 have rs:=zaj ho he hs;have rx:=zaj ho he hx;obtain⟨zv,i',hi',hiz,hrow⟩:=ziq hz;rw[hi]at hi';simp at hi';subst hi';have hzs:zv.cells.size=i.size:=by have:=(hrow w (Mu F ρ) ρ).1;simp at this;omega
 unfold zby at hv;simp only[Option.bind_eq_some_iff]at hv;obtain⟨m,hm,⟨xs,xrd⟩,hxs,hv⟩:=hv;obtain⟨ad2,c2,ex,hmc⟩:=zso hm rx (zjl hxs);obtain⟨news,hnews,hnl,hnrow⟩:=zfj (P:=P) ho hxs rx
 have exec:∀r w',(Builtin.append_ cl.argTypes o.type #[a.eval s,a.eval x]).run P w= .ok r w'->(execOp a.eval o).run P w= .ok (.value r) w':=by
  intro r w' h;simp[execOp,hop,resolve,hc,ha,invoke,builtin,h]
 by_cases hm0:m=0
 ·subst hm0;simp only[if_true]at hv
  have hn0:(Builtin.firstCells i.size 0 (a.eval x)).run P w= .ok #[] w:=by
   have:=hnews w rfl;simp at hnl;subst hnl;exact this
  have fin:∀ad n cap,a.eval s= .slice ad n cap->n<=cap->Snd P Γ o a w F ρ n0 (val E s') H [fresh]:=by
   intro ad n cap es hn;exact⟨_,_,w,ρ,exec _ _ (znz h0 h1 ht ht2 hi es ex hn0 hn),.inl rfl,(zio n0 ho).more (by simp),rs⟩
  cases hsv:val E s'<;>rw[hsv]at hv rs fin<;>simp at hv
  case vec cs n c=>
   obtain⟨rfl,rfl,rfl⟩:=hv;rcases zfi rs with⟨_,es,_,_,_⟩ | ⟨b,off,cap,vs,es,_,_,_,hn,_⟩
   ·exact fin _ _ _ es (Nat.le_refl _)
   ·exact fin _ _ _ es hn
  case sl id off n sz c=>
   obtain⟨rfl,rfl,rfl⟩:=hv;obtain⟨b,cap,es,hn,_⟩:=zez rs;exact fin _ _ _ es hn
 ·simp only[if_neg hm0]at hv
  have fin:∀(ad:Option Addr) (n cap:Nat) (cs0:List AV) (olds:List Value),a.eval s= .slice ad n cap->cap<n+m->4*(n+m)*i.bytes<=2^48->n+m<2^62->
    (∀w':World,w'.heap=w.heap->(Builtin.firstCells i.size n (a.eval s)).run P w'= .ok olds.toArray w')->olds.length=n*i.size->zbi w (Mu F ρ) ρ cs0 olds->
    ∃v' w' ρ',(execOp a.eval o).run P w= .ok (.value v') w'/\After Γ F n0 ρ w ρ' w' (H.set fresh (some (cs0++xs))) [fresh]/\Rep w' (Mu F ρ') ρ' (.sl fresh 0 (n+m) i.size none) v':=by
   intro ad n cap cs0 olds es hcap hb h62 hold hol hor;have hrun:=exec _ _ (zmu h0 h1 ht ht2 hi hiz es ex hold hnews hcap h62 hb);have hA0:=zin (w':=w.drew) n0 ho rfl ⟨rfl,rfl⟩;have hrow2:=(hor.append hnrow).mono (λa v hr=>hr.after ho hA0);obtain⟨g1,g2⟩:=qbh hrow2 (olds.toArray++news.toArray++Builtin.zeroCells zv.cells (grownCap w (n+m) cap el-(n+m))) ⟨_,by rw[<-List.append_toArray]⟩;have hA1:=zfh n0 hA0.hok hfr hu (cs0++xs) _ el g1 g2;refine⟨_,_,_,hrun,(hA0.trans hA1).more (by simp),?_⟩;refine .slAt _ _ _ _ _ w.heap.size _ el _ (by simp[updR]) (zhr (w:=w.drew)) zng (by simp) ?_;simp only[Array.size_append,List.size_toArray,zji,hol,hnl,hzs];have:= @zng w (n+m) cap el;rw[Nat.zero_add,<-qY,<-qY];exact qV _ (by omega)
  cases hsv:val E s'<;>rw[hsv]at hv rs<;>try (simp at hv;done)
  case vec cs n c=>
   simp only at hv;obtain⟨⟨hcn,hcl,hb,h62⟩,hv⟩:=zac hv;simp at hv;obtain⟨rfl,rfl,rfl⟩:=hv;have hel:zdr H i.size n (.vec cs n c)=some (cs.take (n*i.size),[]):=by simp[zdr,need,hcl]
   obtain⟨olds,hold,hol,hor⟩:=zfj (P:=P) ho hel rs
   have:∃ad,a.eval s= .slice ad n n:=by
    rcases zfi rs with⟨_,es,_,rfl,_⟩ | ⟨b,off,cap,vs,es,_,_,_,_,hcc⟩
    ·exact⟨_,es⟩
    ·have:=hcc n hcn;subst this;exact⟨_,es⟩
   obtain⟨ad,es⟩:=this;obtain⟨v',w',ρ',h2,h3,h4⟩:=fin ad n n _ olds es (by omega) hb h62 hold hol hor;exact⟨_,v',w',ρ',h2,.inl rfl,h3,h4⟩
  case sl id off n sz c=>
   simp only at hv;split at hv
   ·rename_i cs hg;have hv2:=(zac hv).2;have hcond:=(zac hv).1;clear hv;obtain⟨rfl,rfl,hcl,hb,h62⟩:=hcond;have hel:zdr H i.size n (.sl id 0 n i.size c)=some (cs.take (n*i.size),[id]):=by simp[zdr,need,hg,hcl]
    obtain⟨olds,hold,hol,hor⟩:=zfj (P:=P) ho hel rs;obtain⟨b,cap,es,hn,hcc,hbb⟩:=zez rs;by_cases hcn:c=some n
    ·rw[if_pos hcn]at hv2;simp at hv2;obtain⟨rfl,rfl,rfl⟩:=hv2;have:=hcc n hcn;subst this;obtain⟨v',w',ρ',h2,h3,h4⟩:=fin _ cap cap _ olds es (by omega) hb h62 hold hol hor;exact⟨_,v',w',ρ',h2,.inl rfl,h3,h4⟩
    ·rw[if_neg hcn]at hv2;have hv3:=(zac hv2).2;have hcond:=(zac hv2).1;clear hv2;obtain⟨hn0,hne,hscal⟩:=hcond;simp at hv3;obtain⟨rfl,rfl,rfl⟩:=hv3;obtain⟨b2,el2',mm,hb2,hsh,hlen,hfz,hcells⟩:=ho.at hg (qdz rs)
     have hbe:b=b2/\∃el m,w.shape? b=some (el,m)/\0+cap*i.size<=m:=by
      rcases hbb with hd | ⟨hd,hsm⟩
      ·rw[hb2]at hd;simp at hd
      ·rw[hb2]at hd;simp at hd;subst hd;exact⟨rfl,hsm⟩
     obtain⟨rfl,el3,m3,hsh3,hm3⟩:=hbe;rw[hsh]at hsh3;simp at hsh3;obtain⟨rfl,rfl⟩:=hsh3;rcases qJ cap (n+m)with hgrow | hroom
     ·
      obtain⟨v',w',ρ',h2,h3,h4⟩:=fin _ n cap _ olds es hgrow hb h62 hold hol hor
      have hρid:ρ' id= .here b\/(0<=id/\ρ' id= .dead):=by
       rcases h3.ext id (by rw[hb2];simp)with h | h
       ·exact .inl (h.trans hb2)
       ·exact .inr h
      have hkill:After Γ F n0 ρ w (updR ρ' id .dead) w' ((H.set id none).set fresh (some (cs.take (n*i.size)++xs))) [fresh]:=by
       have hmono:∀j b',updR ρ' id .dead j= .here b'->j≠id/\ρ' j= .here b':=by
        intro j b' hj;unfold updR at hj;split at hj
        ·simp at hj
        ·exact⟨by assumption,hj⟩
       have hrr:∀a v,Rep w' (Mu F ρ') ρ' a v->Rep w' (Mu F (updR ρ' id .dead)) (updR ρ' id .dead) a v:=by
        intro a v hr;refine hr.kept (Kept.refl (λ_=>False) w') (λ_ x=>x.elim) (λb' _ hb'=>?_) h3.hok.lt (λj hj=>?_)
        ·rcases hb' with hb' | ⟨j,hj⟩
         ·exact .inl hb'
         ·exact .inr ⟨j,(hmono j b' hj).2⟩
        ·unfold updR;by_cases e2:j=id
         ·rw[if_pos e2];exact .inr rfl
         ·rw[if_neg e2];exact .inl rfl
       have hidl:id<H.length:=by
        have:=zce hg;rcases qJ id H.length with h' | h'
        ·exact h'
        ·rw[qZ h']at this;simp at this
       have hHH:∀j,j≠id->((H.set id none).set fresh (some (cs.take (n*i.size)++xs)))[j]?=(H.set fresh (some (cs.take (n*i.size)++xs)))[j]?:=by
        intro j hj;by_cases e3:j=fresh
        ·subst e3;rw[qX (by simpa using hfr),qX hfr]
        ·rw[qQ (λx=>e3 x.symm),qQ (λx=>hj x.symm),qQ (λx=>e3 x.symm)]
       refine⟨⟨λp q b' hp hq=>h3.hok.inj p q b' (hmono p b' hp).2 (hmono q b' hq).2,λp b' hp=>h3.hok.notF p b' (hmono p b' hp).2,h3.hok.fLt,λp hp=>?_,λp cs2 hp=>?_,λp b' hp=>?_,λg cs2 hg2=>?_⟩,h3.kept,λp hp=>?_,λp b' hp=>h3.old p b' (hmono p b' hp).2,λp hp hnot=>?_⟩
       ·simp at hp;unfold updR;rw[if_neg (by omega)];exact h3.hok.unborn p (by simpa using hp)
       ·by_cases e3:p=id
        ·subst e3;rw[qQ (λx=>hne x.symm),qX hidl]at hp;simp at hp
        ·rw[hHH p e3]at hp;obtain⟨b',hb'⟩:=h3.hok.alive p cs2 hp;exact⟨b',by simp[updR,e3,hb']⟩
       ·obtain⟨e3,hp'⟩:=hmono p b' hp;obtain⟨cs2,g1,g2⟩:=h3.hok.blk p b' hp';exact⟨cs2,by rw[hHH p e3];exact g1,g2.mono rfl (λ_ _ _=>hrr _ _)⟩
       ·exact(h3.hok.glob g cs2 hg2).weaken (λb' _ hb'=>by
         rcases hb' with hb' | ⟨j,hj⟩
         ·exact .inl hb'
         ·exact .inr ⟨j,(hmono j b' hj).2⟩)
       ·unfold updR;by_cases e3:p=id
        ·rw[if_pos e3];exact .inr ⟨by omega,rfl⟩
        ·rw[if_neg e3];exact h3.ext p hp
       ·unfold updR;rw[if_neg]
        ·exact h3.still p hp hnot
        ·intro e3;subst e3;rw[hb2]at hp;simp at hp
      refine⟨_,v',w',updR ρ' id .dead,h2,.inl rfl,hkill,?_⟩;obtain⟨b',cap',ev,hc1,hc2,hc3⟩:=zez h4;subst ev;rcases hc3 with hc3 | ⟨hc3,el',m',hc4,hc5⟩
      ·exact .slDead _ _ _ _ _ _ _ (by simp[updR,Ne.symm hne,hc3]) hc1 hc2
      ·exact .slAt _ _ _ _ _ _ _ el' m' (by simp[updR,Ne.symm hne,hc3]) hc4 hc1 hc2 hc5
     ·
      have hHid:=zce hg
      have hidl:id<H.length:=by
       rcases qJ id H.length with h' | h'
       ·exact h'
       ·rw[qZ h']at hHid;simp at hHid
      have hwide:=ho.widen hb2 hHid hsh
      have hmlen:n*i.size+m*i.size<=mm:=by
       have h5:(n+m)*i.size<=cap*i.size:=qV _ hroom;rw[qY]at h5;omega
      have hxsl:=zvf hxs
      have hmc:n*i.size+xs.length<=(cs++List.replicate (mm-cs.length) AV.junk).length:=by
       simp;omega
      obtain⟨w',hst,hA⟩:=zer (P:=P) (n0:=n0) (p:=n*i.size) news xs 0 w _ _ hwide hb2 ⟨_,hsh⟩ (qX hidl) (by rw[hnl,<-hxsl];simpa using hmc) (by rw[hxsl,hnl]) hscal
       (λj x y hx hy=>hnrow.2 j x y hx hy)
      rw[List.set_set]at hA;have hrun:=exec _ _ (zsq h0 h1 ht ht2 hi es ex (hnews w rfl) hroom (by rw[zei,Nat.zero_add];exact hst))
      have hren:=HOK.rename (n0:=n0) (fresh:=fresh) hA.hok hn0 hb2 ⟨_,(hA.kept.shape _ (zsf hsh)).trans hsh⟩ (qX hidl) (by exact hu) (by simpa using hfr) (cs':=cs.take (n*i.size)++xs)
       (λj x hx=>by
        rw[Nat.add_zero,qbg _ _ _ _ hmc];rcases qJ j (n*i.size)with hl | hl
        ·rw[qK (by simp;omega),List.getElem?_take,if_pos hl]at hx;rw[if_neg (by omega),qK (by omega)];exact hx
        ·rw[qW (by simp;omega)]at hx;have e4:(cs.take (n*i.size)).length=n*i.size:=by simp;omega
         rw[e4]at hx
         have hlt:j-n*i.size<xs.length:=by
          rcases qJ (j-n*i.size) xs.length with h' | h'
          ·exact h'
          ·rw[qZ h']at hx;simp at hx
         rw[if_pos (by omega)];exact hx)
       (by rw[qov];simp;omega)
      rw[List.set_set]at hren;refine⟨_,_,w',_,hrun,.inl rfl,(hA.trans hren).more (by simp),?_⟩;refine .slAt _ _ _ _ _ b cap _ mm (by simp[updR]) (by rw[hA.kept.shape b (zsf hsh)];exact hsh) hroom (by simp) hm3
   ·simp at hv
