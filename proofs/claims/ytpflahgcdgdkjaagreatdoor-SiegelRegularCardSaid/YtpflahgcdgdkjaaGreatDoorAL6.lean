/- A part of the proof. -/
import Derived.Test.YtpflahgcdgdkjaaGreatDoorAL5
set_option linter.all false
namespace Go.AL
open Go
def Snd(P:Program)(Γ:Glob)(o:Oper)(a:Act)(w:World)(F:Nat->Prop)(ρ:Nat->RS)(n0:Nat)(v:AV)(H':Heap)(new:List Nat):Prop:=
 ∃x v' w' ρ',(execOp a.eval o).run P w= .ok x w'/\(x= .value v'\/(x= .skip/\v'=undef))/\After Γ F n0 ρ w ρ' w' H' new/\Rep w' (Mu F ρ') ρ' v v'
theorem zac{c:Prop}[Decidable c]{α:Type}{x:Option α}{r:α}(h:need c x=some r):c/\x=some r:=by
 unfold need at h;split at h
 ·exact⟨‹_›,h⟩
 ·simp at h
def movP(off:Nat):AV->Option AV
 |.ptr id p=>some (.ptr id (p+off))
 |.iptr cs p=>some (.iptr cs (p+off))
 |_=>none
theorem zqt{P:Program}{w:World}{t:TypeId}(h:P.underlying t=some .bool)(x y:Bool):(Op.equal t (.bool x) (.bool y)).run P w= .ok (x == y) w:=by
 have key:∀d,(Op.equalIn (d+1) t (.bool x) (.bool y)).run P w= .ok (x == y) w:=by
  intro d;simp only[Op.equalIn,Sem.run_bind,zas h,Result.andThen_ok];rfl
 exact key 9999
section
variable{P:Program}{Γ:Glob}{E:Env}{a:Act}{w:World}{F:Nat->Prop}{ρ:Nat->RS}{H:Heap}{n0 fresh:Nat}{o:Oper}{v:AV}{e:Eff}{rd:List Nat}
theorem zat(ho:HOK Γ w F ρ H){v':Value}(hr:(execOp a.eval o).run P w= .ok (.value v') w)(h:Rep w (Mu F ρ) ρ v v'):Snd P Γ o a w F ρ n0 v H []:=
 ⟨_,v',w,ρ,hr,.inl rfl,zio n0 ho,h⟩
theorem qgz(ho:HOK Γ w F ρ H)(he:∀t,Rep w (Mu F ρ) ρ (E t) (a.tmps.getD t undef)){x:Operand}{y:Opd}(hx:cOpd Γ x=some y)
  (hop:o.op= .move x\/o.op= .assign x):Snd P Γ o a w F ρ n0 (val E y) H []:=by
 refine zat ho ?_ (zaj ho he hx);rcases hop with h | h<;>simp[execOp,h]
theorem qon(ho:HOK Γ w F ρ H)(he:∀t,Rep w (Mu F ρ) ρ (E t) (a.tmps.getD t undef)){c x y:Operand}{c' x' y':Opd}(hc:cOpd Γ c=some c')
  (hx:cOpd Γ x=some x') (hy:cOpd Γ y=some y') (hop:o.op= .pick c x y) {t:Bool} (ht:val E c'= .bool t):
  Snd P Γ o a w F ρ n0 (if t then val E x' else val E y') H []:=by
 have h1:=zaj ho he hc;rw[ht]at h1;have h2:=zej h1;refine zat ho (v':=if t then a.eval x else a.eval y) ?_ ?_
 ·cases t<;>simp[execOp,hop,h2,asBool]
 ·cases t
  ·exact zaj ho he hy
  ·exact zaj ho he hx
theorem qwf{op:BinOp}{ty:TypeId}{x y:AV}{x' y':Value}(h1:Rep w (Mu F ρ) ρ x x')(h2:Rep w (Mu F ρ) ρ y y')(h:binA op x y=some v):
  ∃v',(binOp op ty x' y').run P w= .ok v' w/\Rep w (Mu F ρ) ρ v v':=by
 cases x<;>try (simp[binA]at h;done)
 case int k n=>
  cases y<;>try (simp[binA]at h;done)
  case int k' m=>
   have e1:=zbt h1;have e2:=zbt h2;subst e1 e2;cases op<;>simp only[binA]at h<;>obtain⟨hn,hv⟩:=zac h<;>simp at hv<;>subst hv
   case shl=>exact⟨_,by simp[binOp,Op.shift,Int.not_lt.2 hn],.imm _ _ (.int _ _)⟩
   case shr=>exact⟨_,by simp[binOp,Op.shift,Int.not_lt.2 hn],.imm _ _ (.int _ _)⟩
   case quo=>obtain⟨rfl,hn⟩:=hn;exact⟨_,by simp[binOp,Op.intDiv,hn],.imm _ _ (.int _ _)⟩
   case rem=>obtain⟨rfl,hn⟩:=hn;exact⟨_,by simp[binOp,Op.intDiv,hn],.imm _ _ (.int _ _)⟩
   all_goals subst hn
   case add=>exact⟨_,by simp[binOp,Op.intArith],.imm _ _ (.int _ _)⟩
   case sub=>exact⟨_,by simp[binOp,Op.intArith],.imm _ _ (.int _ _)⟩
   case mul=>exact⟨_,by simp[binOp,Op.intArith],.imm _ _ (.int _ _)⟩
   case and=>exact⟨_,by simp[binOp,Op.intBits],.imm _ _ (.int _ _)⟩
   case or=>exact⟨_,by simp[binOp,Op.intBits],.imm _ _ (.int _ _)⟩
   case xor=>exact⟨_,by simp[binOp,Op.intBits],.imm _ _ (.int _ _)⟩
   case andNot=>exact⟨_,by simp[binOp,Op.intBits],.imm _ _ (.int _ _)⟩
   case eql=>exact⟨_,by simp[binOp,Op.intCmp],.imm _ _ (.bool _)⟩
   case neq=>exact⟨_,by simp[binOp,Op.intCmp],.imm _ _ (.bool _)⟩
   case lss=>exact⟨_,by simp[binOp,Op.intCmp],.imm _ _ (.bool _)⟩
   case leq=>exact⟨_,by simp[binOp,Op.intCmp],.imm _ _ (.bool _)⟩
   case gtr=>exact⟨_,by simp[binOp,Op.intCmp],.imm _ _ (.bool _)⟩
   case geq=>exact⟨_,by simp[binOp,Op.intCmp],.imm _ _ (.bool _)⟩
 case str s=>
  cases y<;>try (simp[binA]at h;done)
  case str s'=>
   have e1:=zjj h1;have e2:=zjj h2;subst e1 e2;cases op<;>simp only[binA]at h<;>try (simp at h;done)
   case add=>
    obtain⟨hn,hv⟩:=zac h;simp at hv;subst hv;exact⟨_,by simp[binOp,Op.stringOp];omega,.imm _ _ (.str _)⟩
   case eql=>simp at h;subst h;exact⟨_,by simp[binOp,Op.stringOp],.imm _ _ (.bool _)⟩
   case neq=>simp at h;subst h;exact⟨_,by simp[binOp,Op.stringOp],.imm _ _ (.bool _)⟩
theorem zvb{op:BinOp}{ty:TypeId}{x y:AV}{x' y':Value}{ox oy:Operand}(h1:Rep w (Mu F ρ) ρ x x')(h2:Rep w (Mu F ρ) ρ y y')
  (hx:(∃k n,x= .int k n)\/(∃s,x= .str s)\/(∃b,x= .bool b)):(eqGuard op ty ox oy x' y').run P w= .ok () w:=by
 have hx':(∃k n,x'= .int k n)\/(∃s,x'= .string s)\/(∃b,x'= .bool b):=by
  rcases hx with⟨k,n,rfl⟩ | ⟨s,rfl⟩ | ⟨b,rfl⟩
  ·exact .inl ⟨k,n,zbt h1⟩
  ·exact .inr (.inl ⟨s,zjj h1⟩)
  ·exact .inr (.inr ⟨b,zej h1⟩)
 rcases hx' with⟨k,n,rfl⟩ | ⟨s,rfl⟩ | ⟨b,rfl⟩<;>(unfold eqGuard;split<;>simp)
theorem qha(ho:HOK Γ w F ρ H)(he:∀t,Rep w (Mu F ρ) ρ (E t) (a.tmps.getD t undef)){op:BinOp}{ty ty':TypeId}{x y:Operand}{x' y':Opd}
  (hx:cOpd Γ x=some x') (hy:cOpd Γ y=some y') (hop:o.op= .binOp op ty x y ty') (h:binA op (val E x') (val E y')=some v):
  Snd P Γ o a w F ρ n0 v H []:=by
 have h1:=zaj ho he hx;have h2:=zaj ho he hy;obtain⟨v',hv,hr⟩:=qwf (P:=P) (ty:=ty) h1 h2 h
 have hg:=zvb (P:=P) (op:=op) (ty:=ty) (ox:=x) (oy:=y) h1 h2 (by
  revert h;cases val E x'<;>simp[binA])
 exact zat ho (by simp[execOp,hop,hg,hv]) hr
theorem qhb(ho:HOK Γ w F ρ H)(he:∀t,Rep w (Mu F ρ) ρ (E t) (a.tmps.getD t undef)){neg:Bool}{ty ty':TypeId}{x y:Operand}{x' y':Opd}
  (hty:P.underlying ty=some .bool) (hx:cOpd Γ x=some x') (hy:cOpd Γ y=some y') (hop:o.op= .binOp (if neg then .neq else .eql) ty x y ty')
  {s t:Bool} (hs:val E x'= .bool s) (ht:val E y'= .bool t):Snd P Γ o a w F ρ n0 (.bool (if neg then !(s == t)else(s == t))) H []:=by
 have h1:=zaj ho he hx;have h2:=zaj ho he hy;rw[hs]at h1;rw[ht]at h2;have hg:=zvb (P:=P) (op:=if neg then .neq else .eql) (ty:=ty) (ox:=x) (oy:=y) h1 h2 (.inr (.inr ⟨s,rfl⟩));have e1:=zej h1;have e2:=zej h2;rw[e1,e2]at hg;refine zat ho (v':= .bool (if neg then !(s == t)else(s == t))) ?_ (.imm _ _ (.bool _));cases neg
 ·simp only[Bool.false_eq_true,if_false]at hop hg ⊢;simp[execOp,hop,e1,e2,hg,binOp,zqt hty]
 ·simp only[if_true]at hop hg ⊢;simp[execOp,hop,e1,e2,hg,binOp,zqt hty]
theorem jbw(ho:HOK Γ w F ρ H)(he:∀t,Rep w (Mu F ρ) ρ (E t) (a.tmps.getD t undef)){op:UnOp}{ty:TypeId}{x:Operand}{x':Opd}
  (hx:cOpd Γ x=some x') (hop:o.op= .unOp op ty x) (h:unA op (val E x')=some v):Snd P Γ o a w F ρ n0 v H []:=by
 have h1:=zaj ho he hx;cases hv:val E x'<;>rw[hv]at h h1<;>try (simp[unA]at h;done)
 case int k n=>
  cases op<;>simp[unA]at h;subst h;exact zat ho (by simp[execOp,hop,zbt h1,Op.unary,Op.intArith]) (.imm _ _ (.int _ _))
 case bool b=>
  cases op<;>simp[unA]at h;subst h;exact zat ho (by simp[execOp,hop,zej h1,Op.unary]) (.imm _ _ (.bool _))
theorem qoo(ho:HOK Γ w F ρ H)(he:∀t,Rep w (Mu F ρ) ρ (E t) (a.tmps.getD t undef)){src dst:TypeId}{d:TypeDesc}{k k':IntKind}{n:Int}{x:Operand}{x':Opd}
  (hs:P.underlying src=some d) (hd:P.underlying dst=some (.int k)) (hx:cOpd Γ x=some x') (hop:o.op= .convert src dst x) (hv:val E x'= .int k' n):
  Snd P Γ o a w F ρ n0 (.int k (k.wrap n)) H []:=by
 have h1:=zaj ho he hx;rw[hv]at h1;refine zat ho (v':= .int k (k.wrap n)) ?_ (.imm _ _ (.int _ _));cases d<;>simp[execOp,hop,zbt h1,convert,zas hs,zas hd,Conv.intToInt]
theorem zvc(ho:HOK Γ w F ρ H)(he:∀t,Rep w (Mu F ρ) ρ (E t) (a.tmps.getD t undef)){x:Operand}{x':Opd}
  (hx:cOpd Γ x=some x') (hop:o.op= .nilCheck x) (hv:(∃id off,val E x'= .ptr id off)\/∃cs p,val E x'= .iptr cs p):
  Snd P Γ o a w F ρ n0 (val E x') H []:=by
 have h1:=zaj ho he hx;rcases hv with⟨id,off,hv⟩ | ⟨cs,p,hv⟩
 ·rw[hv]at h1 ⊢;obtain⟨b,e,_⟩:=zns h1;exact zat ho (v':=a.eval x) (by simp[execOp,hop,e]) h1
 ·rw[hv]at h1 ⊢;obtain⟨b,off,vs,e,_⟩:=zgu h1;exact zat ho (v':=a.eval x) (by simp[execOp,hop,e]) h1
theorem qwg{vs:List AV}{i:Nat}{x:AV}{u:Value}(h:Rep w (Mu F ρ) ρ (.tup vs) u)(hi:vs[i]?=some x):
  ∃us y,u= .tuple us/\us[i]?=some y/\Rep w (Mu F ρ) ρ x y:=by
 obtain⟨us,rfl,hl,hr⟩:=zsm h
 have hlt:i<us.size:=by
  rw[hl];rcases Nat.lt_or_ge i vs.length with h' | h'
  ·exact h'
  ·rw[List.getElem?_eq_none h']at hi;simp at hi
 exact⟨us,us[i],rfl,by simp[hlt],hr i x _ hi (by simp[hlt])⟩
theorem qwh(ho:HOK Γ w F ρ H)(he:∀t,Rep w (Mu F ρ) ρ (E t) (a.tmps.getD t undef)){x:Operand}{x':Opd}{i:Nat}{vs:List AV}
  (hx:cOpd Γ x=some x') (hop:o.op= .extract x i) (hv:val E x'= .tup vs) (hi:vs[i]?=some v):Snd P Γ o a w F ρ n0 v H []:=by
 have h1:=zaj ho he hx;rw[hv]at h1;obtain⟨us,y,e,hy,hr⟩:=qwg h1 hi;exact zat ho (v':=y) (by simp[execOp,hop,e,Instr.extract,hy]) hr
theorem qwi(ho:HOK Γ w F ρ H)(he:∀t,Rep w (Mu F ρ) ρ (E t) (a.tmps.getD t undef)){cl:Call}{x y:Operand}{x' y':Opd}
  (hx:cOpd Γ x=some x') (hy:cOpd Γ y=some y') (hop:o.op= .call cl) (hc:cl.callee= .builtin .max) (hargs:cl.args.toList=[x,y]) {k k':IntKind} {m n:Int}
  (h1:val E x'= .int k m) (h2:val E y'= .int k' n):Snd P Γ o a w F ρ n0 (.int k (if n>m then n else m)) H []:=by
 have r1:=zaj ho he hx;have r2:=zaj ho he hy;rw[h1]at r1;rw[h2]at r2;have ha:cl.args= #[x,y]:=by rw[<-Array.toArray_toList (xs:=cl.args),hargs]
 refine zat ho (v':= .int k (if n>m then n else m)) ?_ (.imm _ _ (.int _ _));simp[execOp,hop,resolve,hc,ha,invoke,builtin,Builtin.max_,zbt r1,zbt r2,Builtin.max2]
theorem znc(ho:HOK Γ w F ρ H)(he:∀t,Rep w (Mu F ρ) ρ (E t) (a.tmps.getD t undef)){l:List Operand}{l':List Opd}(h:l.mapM (cOpd Γ)=some l'):
  (l.map a.eval).length=(l'.map (val E)).length/\∀(j:Nat) (x:AV) (y:Value),(l'.map (val E))[j]?=some x->(l.map a.eval)[j]?=some y->Rep w (Mu F ρ) ρ x y:=by
 obtain⟨h1,h2⟩:=zgv h;refine⟨by simp[h1],λj x y hx hy=>?_⟩;simp only[List.getElem?_map,Option.map_eq_some_iff]at hx hy;obtain⟨p,hp,rfl⟩:=hx;obtain⟨q,hq,rfl⟩:=hy;obtain⟨z,hz,hz'⟩:=h2 j q hq;rw[hp]at hz;simp at hz;subst hz;exact zaj ho he hz'
theorem qop(ho:HOK Γ w F ρ H)(he:∀t,Rep w (Mu F ρ) ρ (E t) (a.tmps.getD t undef)){f:FuncId}{first caps:Array Operand}{caps':List Opd}
  (hf:first= #[]) (hf':f<65536) (hx:caps.toList.mapM (cOpd Γ)=some caps') (hop:o.op= .makeFunc (.func f) first caps):Snd P Γ o a w F ρ n0 (.clo f (caps'.map (val E))) H []:=by
 obtain⟨h1,h2⟩:=znc ho he hx;refine zat ho (v':= .func (.func f) #[] (caps.map a.eval)) ?_ (.clo f _ _ hf' (by simpa using h1) (λj x y hx hy=>h2 j x y hx (by simpa using hy)));simp[execOp,hop,hf,Instr.makeFunc]
theorem qhc(ho:HOK Γ w F ρ H)(he:∀t,Rep w (Mu F ρ) ρ (E t) (a.tmps.getD t undef)){f:FuncId}{first caps:Array Operand}{first':List Opd}
  (hf:caps= #[]) (hf':f<65536/\f≠4095) (hx:first.toList.mapM (cOpd Γ)=some first') (hop:o.op= .makeFunc (.func f) first caps):Snd P Γ o a w F ρ n0 (.clo (65536+f) (first'.map (val E))) H []:=by
 obtain⟨h1,h2⟩:=znc ho he hx;refine zat ho (v':= .func (.func f) (first.map a.eval) #[]) ?_ (.bnd f _ _ hf' (by simpa using h1) (λj x y hx hy=>h2 j x y hx (by simpa using hy)));simp[execOp,hop,hf,Instr.makeFunc]
theorem qhd{off:Nat}{x:AV}{x':Value}(h:Rep w (Mu F ρ) ρ x x')(hv:movP off x=some v):
  ∃b p,x'= .pointer (some ⟨b,p,none⟩)/\Rep w (Mu F ρ) ρ v (.pointer (some ⟨b,p+off,none⟩)):=by
 cases x<;>simp[movP]at hv<;>subst hv
 case ptr id p=>
  obtain⟨b,rfl,hb⟩:=zsl h;refine⟨b,p,rfl,?_⟩;rcases hb with⟨hb,hs⟩ | hb
  ·exact .ptrAt _ _ _ hb hs
  ·exact .ptrDead _ _ _ hb
 case iptr cs p=>
  obtain⟨b,q,vs,rfl,h1,h2,h3⟩:=zgu h;exact⟨b,q+p,rfl,.imm _ _ (by rw[Nat.add_assoc];exact .iptr cs (p+off) b q vs h1 h2 h3)⟩
theorem qhe(ho:HOK Γ w F ρ H)(he:∀t,Rep w (Mu F ρ) ρ (E t) (a.tmps.getD t undef)){s:TypeId}{fields:Array Field}{fd:Field}{f z:Nat}{x:Operand}{x':Opd}
  (hs:P.underlying s=some (.struct fields)) (hf:fields[f]?=some fd) (hz:szT P fd.type=some z) (hz0:z≠0) (hx:cOpd Γ x=some x') (hop:o.op= .fieldAddr s x f)
  (hv:movP fd.offset (val E x')=some v):Snd P Γ o a w F ρ n0 v H []:=by
 obtain⟨b,p,e,hr⟩:=qhd (zaj ho he hx) hv;refine zat ho ?_ hr;simp[execOp,hop,e,Instr.fieldAt,zas hs,hf,Instr.sureAddr,fieldPlace,zcy hz,hz0,zei]
theorem zsn(ho:HOK Γ w F ρ H){v':Value}{t:TypeId}{x i:Operand}(hop:o.op= .indexAddr t x i)
  (hr:(Instr.indexAt t (a.eval x) (a.eval i)).run P w= .ok v' w) (h:Rep w (Mu F ρ) ρ v v'):Snd P Γ o a w F ρ n0 v H []:=
 zat ho (by simp[execOp,hop,hr]) h
theorem qhf(ho:HOK Γ w F ρ H)(he:∀t,Rep w (Mu F ρ) ρ (E t) (a.tmps.getD t undef)){t el:TypeId}{sz:Nat}{x i:Operand}{x' i':Opd}{k:IntKind}{j:Int}
  (ht:P.underlying t=some (.slice el)) (hz:szT P el=some sz) (hx:cOpd Γ x=some x') (hi:cOpd Γ i=some i') (hop:o.op= .indexAddr t x i) (hj:val E i'= .int k j)
  (hv:(∃id off n c,val E x'= .sl id off n sz c/\0<=j/\j<n/\v= .ptr id (off+j.toNat*sz))\/(∃cs n c,val E x'= .vec cs n c/\0<=j/\j<n/\v= .iptr cs (j.toNat*sz))):
  Snd P Γ o a w F ρ n0 v H []:=by
 have h1:=zaj ho he hx;have h2:=zaj ho he hi;rw[hj]at h2;have e2:=zbt h2;rcases hv with⟨id,off,n,c,hv,hj0,hjn,rfl⟩ | ⟨cs,n,c,hv,hj0,hjn,rfl⟩
 ·rw[hv]at h1;obtain⟨b,cap,e1,hn,hc,hb⟩:=zez h1;refine zsn ho hop (v':= .pointer (some ⟨b,off+j.toNat*sz,none⟩)) ?_ ?_
  ·simp[e1,e2,Instr.indexAt,asIntOf,zas ht,hj0,hjn,zcy hz,zei]
  ·rcases hb with hb | ⟨hb,el',m',hs,_⟩
   ·exact .ptrDead _ _ _ hb
   ·exact .ptrAt _ _ _ hb ⟨_,hs⟩
 ·rw[hv]at h1;rcases zfi h1 with⟨_,_,_,hn0,_⟩ | ⟨b,off,cap,vs,e1,hM,hcell,hrep,hn,hc⟩
  ·omega
  ·refine zsn ho hop (v':= .pointer (some ⟨b,off+j.toNat*sz,none⟩)) ?_ (.imm _ _ (.iptr cs _ b off vs hM hcell hrep));simp[e1,e2,Instr.indexAt,asIntOf,zas ht,hj0,hjn,zcy hz,zei]
theorem qbb(ho:HOK Γ w F ρ H)(he:∀t,Rep w (Mu F ρ) ρ (E t) (a.tmps.getD t undef)){t el:TypeId}{n sz:Nat}{x i:Operand}{x' i':Opd}{k:IntKind}{j:Int}
  (ht:P.underlying t=some (.array n el)) (hz:szT P el=some sz) (hx:cOpd Γ x=some x') (hi:cOpd Γ i=some i') (hop:o.op= .indexAddr t x i) (hj:val E i'= .int k j)
  (hj0:0<=j) (hjn:j<n)
  (hv:movP (j.toNat*sz) (val E x')=some v):Snd P Γ o a w F ρ n0 v H []:=by
 have h2:=zaj ho he hi;rw[hj]at h2;have e2:=zbt h2;obtain⟨b,p,e,hr⟩:=qhd (zaj ho he hx) hv;refine zsn ho hop ?_ hr;simp[e,e2,Instr.indexAt,asIntOf,zas ht,Instr.sureAddr,hj0,hjn,zcy hz,zei]
