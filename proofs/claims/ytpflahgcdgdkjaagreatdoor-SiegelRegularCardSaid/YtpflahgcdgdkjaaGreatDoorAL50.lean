/- A part of the proof. -/
import Derived.Test.YtpflahgcdgdkjaaGreatDoorAL11
import Derived.Laws.StructEq
import Derived.ChangeKeysEq
import Derived.MapKept
set_option linter.all false
namespace Go.AL
open Option renaming bind_eq_some_iff -> qQ, map_eq_some_iff -> qV
open List renaming drop_eq_nil_of_le -> qX, drop_eq_getElem_cons -> qK, zipIdx_cons -> qY
open Option.some renaming injEq -> qZ
open Bool renaming false_eq_true -> qJ, not_true -> qW
open Go
section
variable{P:Program}{Γ:Glob}{E:Env}{a:Act}{w:World}{F:Nat->Prop}{ρ:Nat->RS}{H:Heap}{n0 fresh:Nat}{o:Oper}{v:AV}{e:Eff}{rd:List Nat}
theorem zlp{M:Nat->Prop}:∀(ks:List IntKind) (xs ys:List AV) (us vs:List Value) (r:Bool),zcz ks xs ys=some r->zbi w M ρ xs us->zbi w M ρ ys vs->
  ∃ms ns:List Int,ms.length=ks.length/\ns.length=ks.length/\us=(ks.zip ms).map (λx=>Value.int x.1 x.2)/\vs=(ks.zip ns).map (λx=>Value.int x.1 x.2)/\(r=(ms == ns)):=by
 intro ks
 induction ks with
 |nil=>
  intro xs ys us vs r h hx hy;cases xs with
  |cons _ _=>simp[zcz]at h
  |nil=>
   cases ys with
   |cons _ _=>simp[zcz]at h
   |nil=>
    simp[zcz]at h;have h1:us=[]:=List.length_eq_zero_iff.1 hx.1;have h2:vs=[]:=List.length_eq_zero_iff.1 hy.1;exact⟨[],[],rfl,rfl,by simp[h1],by simp[h2],by simp[<-h]⟩
 |cons k ks ih=>
  intro xs ys us vs r h hx hy;cases xs with
  |nil=>simp[zcz]at h
  |cons x xs=>
   cases ys with
   |nil=>cases x<;>simp[zcz]at h
   |cons y ys=>
    cases x<;>try (simp[zcz]at h;done)
    case int k1 m=>
     cases y<;>try (simp[zcz]at h;done)
     case int k2 n=>
      rw[zcz]at h;have hk:=(zac h).1;replace h:=(zac h).2;obtain⟨e1,e2⟩:=hk;subst e1;subst e2;rw[qQ]at h;obtain⟨r',hr',h⟩:=h;simp only[qZ]at h;cases us with
      |nil=>simp[zbi]at hx
      |cons u us=>
       cases vs with
       |nil=>simp[zbi]at hy
       |cons u' vs=>
        have hu:=hx.2 0 (.int _ m) u rfl rfl;have hu':=hy.2 0 (.int _ n) u' rfl rfl;obtain⟨ms,ns,l1,l2,e1,e2,e3⟩:=ih xs ys us vs r' hr' ⟨by simpa using hx.1,λj p q hp hq=>hx.2 (j+1) p q (by simpa using hp) (by simpa using hq)⟩ ⟨by simpa using hy.1,λj p q hp hq=>hy.2 (j+1) p q (by simpa using hp) (by simpa using hq)⟩;refine⟨m::ms,n::ns,by simp[l1],by simp[l2],by simp[zbt hu,e1],by simp[zbt hu',e2],?_⟩;rw[<-h,e3];rfl
theorem zqw{ks:List IntKind}{kk kc:List AV}{b:Bool}(h:zcz ks kk kc=some b):∃b',zcz ks kk kk=some b':=by
 induction ks generalizing kk kc b with
 |nil=>
  cases kk with
  |nil=>exact⟨true,rfl⟩
  |cons _ _=>simp[zcz]at h
 |cons k ks ih=>
  cases kk with
  |nil=>simp[zcz]at h
  |cons x xs=>
   cases kc with
   |nil=>cases x<;>simp[zcz]at h
   |cons y ys=>
    cases x<;>try (simp[zcz]at h;done)
    cases y<;>try (simp[zcz]at h;done)
    rw[zcz]at h;have hk:=(zac h).1;replace h:=(zac h).2;obtain⟨e1,e2⟩:=hk;subst e1;rw[qQ]at h;obtain⟨r',hr',h⟩:=h;obtain⟨b',hb'⟩:=ih hr';exact⟨b',by simp[zcz,need,hb']⟩
theorem zdo{ks:List IntKind}{ms:List Int}{i:Nat}{k:IntKind}{m:Int}(hk:ks[i]?=some k)(hm:ms[i]?=some m):
  ((ks.zip ms).map λx=>Value.int x.1 x.2)[i]?=some (.int k m):=by
 have:(ks.zip ms)[i]?=some (k,m):=List.getElem?_zip_eq_some.2 ⟨hk,hm⟩;simp[this]
theorem zdp{t:TypeId}{k:IntKind}(ht:P.underlying t=some (.int k)){xs:Array Value}{i:Nat}{u:Value}(hx:xs[i]?=some u)(w:World):(part t xs i).run P w= .ok u w:=by
 have:(isAgg t).run P w= .ok false w:=znr (by simp[zqr,ht]);simp[part,this,hx]
theorem qbi{ms ns:List Int}{i:Nat}(h1:i<ms.length)(h2:i<ns.length):(ms.drop i == ns.drop i)=(ms[i] == ns[i] && (ms.drop (i+1) == ns.drop (i+1))):=by
 rw[qK h1,qK h2];rfl
theorem zmv{w:World}(d:Nat)(ks:List IntKind)(ms ns:List Int)(hm:ms.length=ks.length)(hn:ns.length=ks.length)(xs ys:Array Value)
  (hx:xs.toList=(ks.zip ms).map (λx=>Value.int x.1 x.2)) (hy:ys.toList=(ks.zip ns).map (λx=>Value.int x.1 x.2)):
  ∀(fs:List Field) (i:Nat) (ks':List IntKind),(fs.zipIdx i).mapM (λx=>if x.1.offset=x.2/\x.1.name≠ "_" then(match P.underlying x.1.type with | some (.int k)=>some k | _=>none)else none)=some ks'->
   ks.drop i=ks'->(Op.eqFields (d+1) xs ys fs).run P w= .ok (ms.drop i == ns.drop i) w:=by
 intro fs
 induction fs with
 |nil=>
  intro i ks' h hd;simp at h;subst h
  have hl:ks.length<=i:=by
   rcases Nat.lt_or_ge i ks.length with h' | h'
   ·have:=congrArg List.length hd;simp at this;omega
   ·exact h'
  rw[qX (by omega),qX (by omega)];simp[Op.eqFields]
 |cons f fs ih=>
  intro i ks' h hd;rw[qY,List.mapM_cons]at h;simp only[bind,qQ,pure,qZ]at h;obtain⟨k,hk,r,hr,rfl⟩:=h;split at hk
  ·rename_i hc;obtain⟨hoff,hname⟩:=hc;split at hk
   ·rename_i k0 hu;simp at hk;subst hk
    have hi:i<ks.length:=by
     rcases Nat.lt_or_ge i ks.length with h' | h'
     ·exact h'
     ·rw[qX h']at hd;simp at hd
    have hki:ks[i]?=some k0:=by
     have:=congrArg (λl=>l[0]?) hd;simpa using this
    have hdr:ks.drop (i+1)=r:=by
     have:=congrArg List.tail hd;simpa using this
    have hmi:ms[i]?=some (ms[i]'(by omega)):=by simp
    have hni:ns[i]?=some (ns[i]'(by omega)):=by simp
    have hxi:xs[i]?=some (.int k0 (ms[i]'(by omega))):=by rw[<-Array.getElem?_toList,hx];exact zdo hki hmi
    have hyi:ys[i]?=some (.int k0 (ns[i]'(by omega))):=by rw[<-Array.getElem?_toList,hy];exact zdo hki hni
    simp only[Op.eqFields,hname,ne_eq,not_false_eq_true,if_true,Sem.run_bind,hoff,zdp hu hxi,zdp hu hyi,Result.andThen_ok];rw[run_equalIn_int w d f.type k0 k0 _ _ hu];simp only[Result.andThen_ok];rw[qbi (show i<ms.length by omega) (show i<ns.length by omega)];cases hb:(ms[i]'(by omega) == ns[i]'(by omega))with
    |true=>
     simp only[qW,qJ,if_false];rw[ih (i+1) r hr hdr];simp
    |false=>simp
   ·simp at hk
  ·simp at hk
theorem zoa{w:World}(d:Nat){el:TypeId}{k:IntKind}(hel:P.underlying el=some (.int k))(n:Nat)(ms ns:List Int)(hm:ms.length=n)(hn:ns.length=n)(xs ys:Array Value)
  (hx:xs.toList=((List.replicate n k).zip ms).map (λx=>Value.int x.1 x.2)) (hy:ys.toList=((List.replicate n k).zip ns).map (λx=>Value.int x.1 x.2)):
  ∀(c i:Nat),i+c=n->(Op.eqItems (d+1) el 1 xs ys (List.range' i c)).run P w= .ok (ms.drop i == ns.drop i) w:=by
 intro c
 induction c with
 |zero=>
  intro i hi;rw[qX (by omega),qX (by omega)];simp[Op.eqItems]
 |succ c ih=>
  intro i hi;have hki:(List.replicate n k)[i]?=some k:=by simp[List.getElem?_replicate];omega
  have hxi:xs[i]?=some (.int k (ms[i]'(by omega))):=by rw[<-Array.getElem?_toList,hx];exact zdo hki (by simp)
  have hyi:ys[i]?=some (.int k (ns[i]'(by omega))):=by rw[<-Array.getElem?_toList,hy];exact zdo hki (by simp)
  rw[List.range'_succ];simp only[Op.eqItems,Sem.run_bind,Nat.mul_one,zdp hel hxi,zdp hel hyi,Result.andThen_ok];rw[run_equalIn_int w d el k k _ _ hel];simp only[Result.andThen_ok];rw[qbi (show i<ms.length by omega) (show i<ns.length by omega)];cases hb:(ms[i]'(by omega) == ns[i]'(by omega))with
  |true=>
   simp only[qW,qJ,if_false];rw[ih (i+1) (by omega)];simp
  |false=>simp
theorem zqx{t:TypeId}{s:Nat}(h:szT P t=some s):∃i,P.info? t=some i/\i.size=s:=by
 unfold szT at h;cases hi:P.info? t with
 |none=>simp[hi]at h
 |some i=>simp[hi]at h;exact⟨i,rfl,h⟩
theorem zgb{t:TypeId}{ks:List IntKind}(ht:zlm P t=some ks){xs ys:List AV}{us vs:Array Value}{r:Bool}(h:zcz ks xs ys=some r){M:Nat->Prop}
  (hx:zbi w M ρ xs us.toList) (hy:zbi w M ρ ys vs.toList) (w':World):(Op.equal t (.agg us) (.agg vs)).run P w'= .ok r w'/\(r=true->us=vs):=by
 obtain⟨ms,ns,l1,l2,e1,e2,e3⟩:=zlp ks xs ys us.toList vs.toList r h hx hy
 have hsame:r=true->us=vs:=by
  intro hr;rw[hr]at e3;have e4:ms=ns:=by simpa using e3.symm
  have:us.toList=vs.toList:=by rw[e1,e2,e4]
  exact Array.toList_inj.1 this
 refine⟨?_,hsame⟩;unfold zlm at ht;split at ht
 ·rename_i fields hu;split at ht
  ·simp at ht
  ·rename_i hno;rw[not_or]at hno;have hf:P.fieldsOf t=fields:=by simp[Program.fieldsOf,hu]
   have:=run_equalIn_struct (P:=P) w' 9999 t us vs (by rw[hf];exact hu) (by simpa using hno.1);refine this.trans ?_;rw[hf,zmv 9998 ks ms ns l1 l2 us vs e1 e2 fields.toList 0 ks ht rfl,e3];rfl
 ·rename_i n el hu;split at ht
  ·simp at ht
  ·split at ht
   ·rename_i k hel hsz;simp at ht;subst ht;obtain⟨i,hi,hs⟩:=zqx hsz;have:=run_equalIn_array (P:=P) w' 9999 us vs hu hi;refine this.trans ?_;have hc:P.cellsOf el=1:=by simp[Program.cellsOf,hi,hs]
    rw[hc,List.range_eq_range'];simp only[List.length_replicate]at l1 l2;rw[zoa 9998 hel n ms ns l1 l2 us vs e1 e2 n 0 (by omega),e3];rfl
   ·simp at ht
 ·simp at ht
theorem qee{t:TypeId}{ks:List IntKind}(ht:zlm P t=some ks):P.eqGuardType P.depth t=false:=by
 unfold zlm at ht;split at ht
 ·split at ht
  ·simp at ht
  ·rename_i hno;rw[not_or]at hno;simpa using hno.2
 ·split at ht
  ·simp at ht
  ·rename_i hno;simpa using hno
 ·simp at ht
theorem qef:∀(ks:List IntKind) (xs ys:List AV),zgs (ks.map some) xs ys=zcz ks xs ys:=by
 intro ks
 induction ks with
 |nil=>intro xs ys;cases xs<;>cases ys<;>rfl
 |cons k ks ih=>
  intro xs ys;cases xs with
  |nil=>rfl
  |cons x xs=>
   cases ys with
   |nil=>cases x<;>rfl
   |cons y ys=>
    cases x<;>try rfl
    cases y<;>try rfl
    simp only[List.map_cons,zgs,zcz,ih]
theorem zob{M:Nat->Prop}(d:Nat)(w':World)(XS YS:Array Value):∀(fs:List Field) (i:Nat) (ks:List (Option IntKind)) (xs ys:List AV) (us vs:List Value) (r:Bool),
  (fs.zipIdx i).mapM (λx=>if x.1.offset=x.2/\x.1.name≠ "_" then(match P.underlying x.1.type with | some (.int k)=>some (some k) | some .bool=>some none | _=>none)else none)=some ks->
  XS.toList.drop i=us->YS.toList.drop i=vs->zbi w M ρ xs us->zbi w M ρ ys vs->zgs ks xs ys=some r->(Op.eqFields (d+1) XS YS fs).run P w'= .ok r w':=by
 intro fs
 induction fs with
 |nil=>
  intro i ks xs ys us vs r h _ _ _ _ he;simp at h;subst h;cases xs with
  |cons _ _=>simp[zgs]at he
  |nil=>
   cases ys with
   |cons _ _=>simp[zgs]at he
   |nil=>
    simp[zgs]at he;subst he;simp[Op.eqFields]
 |cons f fs ih=>
  intro i ks xs ys us vs r h hX hY hx hy he;rw[qY,List.mapM_cons]at h;simp only[bind,qQ,pure,qZ]at h;obtain⟨k,hk,ks,hr,rfl⟩:=h;split at hk
  ·rename_i hc;obtain⟨hoff,hname⟩:=hc
   have take1:∀{Z:Array Value} {z:Value} {zs:List Value},Z.toList.drop i=z::zs->Z[i]?=some z/\Z.toList.drop (i+1)=zs:=by
    intro Z z zs hz;refine⟨?_,?_⟩
    ·rw[<-Array.getElem?_toList];have:=congrArg (λl=>l[0]?) hz;simpa using this
    ·have:=congrArg List.tail hz;simpa using this
   have tl:∀{x:AV} {xs:List AV} {u:Value} {us:List Value},zbi w M ρ (x::xs) (u::us)->Rep w M ρ x u/\zbi w M ρ xs us:=by
    intro x xs u us h;exact⟨h.2 0 x u rfl rfl,by simpa using h.1,λj p q hp hq=>h.2 (j+1) p q (by simpa using hp) (by simpa using hq)⟩
   cases us with
   |nil=>
    have hl:=hx.1;cases xs with
    |nil=>cases k<;>simp[zgs]at he
    |cons _ _=>simp at hl
   |cons u us=>
   cases vs with
   |nil=>
    have hl:=hy.1;cases ys with
    |nil=>cases xs<;>cases k<;>(try rename_i a _;cases a)<;>simp[zgs]at he
    |cons _ _=>simp at hl
   |cons v vs=>
   cases xs with
   |nil=>have hl:=hx.1;simp at hl
   |cons x xs=>
   cases ys with
   |nil=>have hl:=hy.1;simp at hl
   |cons y ys=>
   obtain⟨hX1,hX2⟩:=take1 hX;obtain⟨hY1,hY2⟩:=take1 hY;obtain⟨rx,hx2⟩:=tl hx;obtain⟨ry,hy2⟩:=tl hy;split at hk
   ·rename_i k0 hu;simp at hk;subst hk;cases x<;>try (simp[zgs]at he;done)
    cases y<;>try (simp[zgs]at he;done)
    rename_i k1 m k2 n;rw[zgs]at he;have hk2:=(zac he).1;replace he:=(zac he).2;obtain⟨e1,e2⟩:=hk2;subst e1;subst e2;rw[qQ]at he;obtain⟨r',hr',he⟩:=he;simp only[qZ]at he;rw[zbt rx]at hX1;rw[zbt ry]at hY1;have hrec:=ih (i+1) ks xs ys us vs r' hr hX2 hY2 hx2 hy2 hr';simp only[Op.eqFields,hname,ne_eq,not_false_eq_true,if_true,Sem.run_bind,hoff,zdp hu hX1,zdp hu hY1,Result.andThen_ok];rw[run_equalIn_int w' d f.type _ _ _ _ hu];simp only[Result.andThen_ok];rw[<-he];cases hb:(m == n)with
    |true=>
     simp only[qW,qJ,if_false];rw[hrec];simp
    |false=>simp
   ·rename_i hu;simp at hk;subst hk;cases x<;>try (simp[zgs]at he;done)
    cases y<;>try (simp[zgs]at he;done)
    rename_i m n;rw[zgs]at he;rw[qQ]at he;obtain⟨r',hr',he⟩:=he;simp only[qZ]at he;rw[zej rx]at hX1;rw[zej ry]at hY1;have hrec:=ih (i+1) ks xs ys us vs r' hr hX2 hY2 hx2 hy2 hr'
    have pb:∀{Z:Array Value} {z:Value},Z[i]?=some z->(part f.type Z i).run P w'= .ok z w':=by
     intro Z z hz;have:(isAgg f.type).run P w'= .ok false w':=znr (by simp[zqr,hu]);simp[part,this,hz]
    simp only[Op.eqFields,hname,ne_eq,not_false_eq_true,if_true,Sem.run_bind,hoff,pb hX1,pb hY1,Result.andThen_ok];rw[run_equalIn_bool' w' d f.type _ _ hu];simp only[Result.andThen_ok];rw[<-he];cases hb:(m == n)with
    |true=>
     simp only[qW,qJ,if_false];rw[hrec];simp
    |false=>simp
   ·simp at hk
  ·simp at hk
theorem zsr{t:TypeId}{ks:List (Option IntKind)}(ht:zsg P t=some ks){xs ys:List AV}{us vs:Array Value}{r:Bool}(h:zgs ks xs ys=some r){M:Nat->Prop}
  (hx:zbi w M ρ xs us.toList) (hy:zbi w M ρ ys vs.toList) (w':World):(Op.equal t (.agg us) (.agg vs)).run P w'= .ok r w':=by
 unfold zsg at ht;split at ht
 ·rename_i fields hu;split at ht
  ·simp at ht
  ·rename_i hno;rw[not_or]at hno;have hf:P.fieldsOf t=fields:=by simp[Program.fieldsOf,hu]
   have:=run_equalIn_struct (P:=P) w' 9999 t us vs (by rw[hf];exact hu) (by simpa using hno.1);refine this.trans ?_;rw[hf];exact zob 9998 w' us vs fields.toList 0 ks xs ys us.toList vs.toList r ht rfl rfl hx hy h
 ·simp only[qV]at ht;obtain⟨ks0,ht,rfl⟩:=ht;rw[qef]at h;exact(zgb ht h hx hy w').1
theorem zyd{t:TypeId}{ks:List (Option IntKind)}(ht:zsg P t=some ks):P.eqGuardType P.depth t=false:=by
 unfold zsg at ht;split at ht
 ·split at ht
  ·simp at ht
  ·rename_i hno;rw[not_or]at hno;simpa using hno.2
 ·simp only[qV]at ht;obtain⟨ks0,ht,rfl⟩:=ht;exact qee ht
theorem zoc{M:Nat->Prop}{cs:List AV}{u:Value}(h:Rep w M ρ (.agg cs) u):∃us:Array Value,u= .agg us/\zbi w M ρ cs us.toList:=by
 obtain⟨vs,rfl,hl,hr⟩:=zlo h;exact⟨vs,rfl,by simpa using hl,λj a v h1 h2=>hr j a v h1 (by simpa using h2)⟩
theorem zss(ho:HOK Γ w F ρ H)(he:∀t,Rep w (Mu F ρ) ρ (E t) (a.tmps.getD t undef)){neg:Bool}{ty ty':TypeId}{ks:List (Option IntKind)}{x y:Operand}{x' y':Opd}{xs ys:List AV}{r:Bool}
  (hty:zsg P ty=some ks) (hx:cOpd Γ x=some x') (hy:cOpd Γ y=some y') (hop:o.op= .binOp (if neg then .neq else .eql) ty x y ty')
  (hs:val E x'= .agg xs) (ht:val E y'= .agg ys) (h:zgs ks xs ys=some r):Snd P Γ o a w F ρ n0 (.bool (if neg then !r else r)) H []:=by
 have h1:=zaj ho he hx;have h2:=zaj ho he hy;rw[hs]at h1;rw[ht]at h2;obtain⟨us,e1,r1⟩:=zoc h1;obtain⟨vs,e2,r2⟩:=zoc h2;have hg:=run_eqGuard_agg (P:=P) w (if neg then .neq else .eql) ty x y us vs (zyd hty);have hq:=zsr hty h r1 r2 w;unfold Op.equal Op.maxDepth at hq;refine zat ho (v':= .bool (if neg then !r else r)) ?_ (.imm _ _ (.bool _));cases neg
 ·simp[execOp,hop,e1,e2]at hg ⊢;rw[hg];simp[run_eql_struct,hq]
 ·simp[execOp,hop,e1,e2]at hg ⊢;rw[hg];simp[run_neq_struct,hq]
theorem zir(ho:HOK Γ w F ρ H)(he:∀t,Rep w (Mu F ρ) ρ (E t) (a.tmps.getD t undef)){neg:Bool}{ty ty' el:TypeId}{x:Operand}{x':Opd}{r:Bool}
  (hty:P.underlying ty=some (.pointer el)) (hx:cOpd Γ x=some x') (hop:o.op= .binOp (if neg then .neq else .eql) ty x (.const (.pointer none)) ty')
  (hv:(∃id off,val E x'= .ptr id off/\r=neg)\/(∃cs p,val E x'= .iptr cs p/\r=neg)\/(∃cs,val E x'= .clo 131072 cs/\r=!neg)):Snd P Γ o a w F ρ n0 (.bool r) H []:=by
 have h1:=zaj ho he hx
 have hp:∃q,a.eval x= .pointer q/\r=if neg then q.isSome else q.isNone:=by
  rcases hv with⟨id,off,hv,hr⟩ | ⟨cs,p,hv,hr⟩ | ⟨cs,hv,hr⟩
  ·rw[hv]at h1;obtain⟨b,e1,_⟩:=zns h1;exact⟨_,e1,by rw[hr];cases neg<;>rfl⟩
  ·rw[hv]at h1;obtain⟨b,off,vs,e1,_⟩:=zgu h1;exact⟨_,e1,by rw[hr];cases neg<;>rfl⟩
  ·rw[hv]at h1;exact⟨none,qol h1,by rw[hr];cases neg<;>rfl⟩
 obtain⟨q,e1,hr⟩:=hp;refine zat ho (v':= .bool r) ?_ (.imm _ _ (.bool _))
 have key:∀d,(Op.equalIn (d+1) ty (.pointer q) (.pointer none)).run P w= .ok q.isNone w:=by
  intro d;simp only[Op.equalIn,Sem.run_bind,zas hty,Result.andThen_ok];cases q<;>rfl
 have key':=key 9999;cases neg
 ·simp at hr;have e0:a.eval (.const (.pointer none))= .pointer none:=rfl;simp[execOp,hop,e1,e0,eqGuard,binOp,Op.equal,Op.maxDepth];rw[key'];simp[hr]
 ·simp at hr;have e0:a.eval (.const (.pointer none))= .pointer none:=rfl;simp[execOp,hop,e1,e0,eqGuard,binOp,Op.equal,Op.maxDepth];rw[key'];simp[hr]
