/- A part of the proof. -/
import Derived.Test.YtpflahgcdgdkjaaGreatDoorAL6
set_option linter.all false
namespace Go.AL
open List renaming getElem?_eq_none -> qQ, getElem?_take -> qZ, getElem?_drop -> qJ
open Bool renaming false_eq_true -> qX
open Go
theorem zkd{P:Program}{t:TypeId}{ag:Bool}{sz:Nat}(h:ldSz P t=some (ag,sz)):
  zqr P t=some ag/\(ag=true->szT P t=some sz)/\(ag=false->sz=1):=by
 unfold ldSz at h;split at h
 ·rename_i h1 h2;simp at h;obtain⟨rfl,rfl⟩:=h;exact⟨h1,λ_=>h2,λx=>by simp at x⟩
 ·rename_i h1 h2;simp at h;obtain⟨rfl,rfl⟩:=h;exact⟨h1,λx=>by simp at x,λ_=>rfl⟩
 ·simp at h
theorem zjk{P:Program}{w:World}{t:TypeId}{ag:Bool}{sz:Nat}(h:ldSz P t=some (ag,sz)){b p:Nat}{vs:Nat->Value}
  (hc:∀j,j<sz->w.cell? ⟨b,p+j,none⟩=some (vs j)):
  (loadVar t ⟨b,p,none⟩).run P w= .ok (if ag then .agg ((List.range sz).map vs).toArray else vs 0) w:=by
 obtain⟨h1,h2,h3⟩:=zkd h;unfold loadVar;simp only[Sem.run_bind,znr h1,Result.andThen_ok];cases ag with
 |true=>
  simp only[if_true,Sem.run_bind,zcy (h2 rfl),Result.andThen_ok,zkc hc];rfl
 |false=>
  have e:=h3 rfl;subst e;have:=hc 0 (by omega);simp only[qX,if_false];exact qui this
theorem zyb{w:World}{M:Nat->Prop}{ρ:Nat->RS}{ag:Bool}{sz off:Nat}{cs:List AV}{vs:Nat->Value}(hl:off+sz<=cs.length)(hs:ag=false->sz=1)
  (hr:∀(j:Nat) (a:AV),j<sz->cs[off+j]?=some a->Rep w M ρ a (vs j)):Rep w M ρ (ldv ag sz off cs) (if ag then .agg ((List.range sz).map vs).toArray else vs 0):=by
 unfold ldv;cases ag with
 |true=>
  simp only[if_true];refine .agg _ _ (by simp;omega) (λj a v hj hv=>?_);rw[qZ]at hj;split at hj
  ·rename_i hlt;rw[qJ]at hj;have:=hr j a hlt hj;simp[hlt]at hv;subst hv;exact this
  ·simp at hj
 |false=>
  have e:=hs rfl;subst e;simp only[qX,if_false];have hlt:off<cs.length:=by omega
  have:=hr 0 cs[off] (by omega) (by simp[hlt]);simpa[hlt]using this
section
variable{P:Program}{Γ:Glob}{E:Env}{a:Act}{w:World}{F:Nat->Prop}{ρ:Nat->RS}{H:Heap}{n0 fresh:Nat}{o:Oper}{v:AV}{e:Eff}{rd:List Nat}
theorem znd(ho:HOK Γ w F ρ H){id off:Nat}{u:Value}{cs:List AV}(h:Rep w (Mu F ρ) ρ (.ptr id off) u)(hg:getB H id=some cs):
  ∃b,u= .pointer (some ⟨b,off,none⟩)/\ρ id= .here b/\(∀j,w.frozen? ⟨b,j,none⟩=false)/\
   ∀(j:Nat) (a:AV),cs[j]?=some a->∃v,w.cell? ⟨b,j,none⟩=some v/\Rep w (Mu F ρ) ρ a v:=by
 have hsh:=qgy h;obtain⟨b,rfl,hb⟩:=zns h;obtain⟨b',el,m,hb',_,_,hf,hc⟩:=ho.at hg hsh;rcases hb with hb | hb
 ·rw[hb]at hb';simp at hb';subst hb';exact⟨b,rfl,hb,hf,hc⟩
 ·rw[hb]at hb';simp at hb'
theorem zhq{b p sz:Nat}{cs:List AV}(hl:p+sz<=cs.length)
  (hc:∀(j:Nat) (a:AV),cs[j]?=some a->∃v,w.cell? ⟨b,j,none⟩=some v/\Rep w (Mu F ρ) ρ a v):
  ∃vs:Nat->Value,(∀j,j<sz->w.cell? ⟨b,p+j,none⟩=some (vs j))/\∀(j:Nat) (a:AV),j<sz->cs[p+j]?=some a->Rep w (Mu F ρ) ρ a (vs j):=by
 refine⟨λj=>(w.cell? ⟨b,p+j,none⟩).getD undef,λj hj=>?_,λj a hj ha=>?_⟩
 ·obtain⟨v,hv,_⟩:=hc (p+j) cs[p+j] (by simp);simp[hv]
 ·obtain⟨v,hv,hr⟩:=hc (p+j) a ha;simpa[hv]using hr
theorem qbc(ho:HOK Γ w F ρ H)(he:∀t,Rep w (Mu F ρ) ρ (E t) (a.tmps.getD t undef)){t:TypeId}{ag:Bool}{sz:Nat}{x:Operand}{x':Opd}
  (ht:ldSz P t=some (ag,sz)) (hx:cOpd Γ x=some x') (hop:o.op= .load t x)
  (hv:(∃id off cs,val E x'= .ptr id off/\getB H id=some cs/\off+sz<=cs.length/\v=ldv ag sz off cs)\/
   (∃cs p,val E x'= .iptr cs p/\p+sz<=cs.length/\v=ldv ag sz p cs)):Snd P Γ o a w F ρ n0 v H []:=by
 have h1:=zaj ho he hx;have hs:=(zkd ht).2.2;rcases hv with⟨id,off,cs,hv,hg,hl,rfl⟩ | ⟨cs,p,hv,hl,rfl⟩
 ·rw[hv]at h1;obtain⟨b,e1,hb,hf,hc⟩:=znd ho h1 hg;obtain⟨vs,hvs,hr⟩:=zhq hl hc;refine zat ho ?_ (zyb hl hs hr);simp[execOp,hop,e1,Instr.loadAt,Instr.sureAddr,zjk ht hvs]
 ·rw[hv]at h1;obtain⟨b,q,vs,e1,hM,hcell,hrep⟩:=zgu h1
  have hvs:∀j,j<sz->w.cell? ⟨b,(q+p)+j,none⟩=some (vs (p+j)):=λj hj=>by
   rw[Nat.add_assoc];exact hcell (p+j) (by omega)
  refine zat ho ?_ (zyb (vs:=λj=>vs (p+j)) hl hs (λj a hj ha=> .imm _ _ (hrep (p+j) a ha)));simp[execOp,hop,e1,Instr.loadAt,Instr.sureAddr,zjk ht hvs]
theorem qbd{t:TypeId}{ag:Bool}{sz off:Nat}{cs:List AV}{us:Array Value}(ht:ldSz P t=some (ag,sz))(hl:off+sz<=cs.length)(hsz:us.size=cs.length)
  (hr:∀(j:Nat) (a:AV) (v:Value),cs[j]?=some a->us[j]?=some v->Rep w (Mu F ρ) ρ a v):
  ∃v',(part t us off).run P w= .ok v' w/\Rep w (Mu F ρ) ρ (ldv ag sz off cs) v':=by
 obtain⟨h1,h2,h3⟩:=zkd ht;unfold part ldv;cases ag with
 |true=>
  refine⟨.agg (us.extract off (off+sz)),by simp[znr h1,zcy (h2 rfl)],?_⟩;simp only[if_true];refine .agg _ _ (by simp;omega) (λj a v hj hv=>?_);rw[qZ]at hj;split at hj
  ·rename_i hlt;rw[qJ]at hj;refine hr (off+j) a v hj ?_;rw[Array.getElem?_extract]at hv;split at hv
   ·exact hv
   ·simp at hv
  ·simp at hj
 |false=>
  have e:=h3 rfl;subst e;have hlt:off<cs.length:=by omega
  have hlu:off<us.size:=by omega
  refine⟨us[off],by simp[znr h1,hlu],?_⟩;have:=hr off cs[off] us[off] (by simp[hlt]) (by simp[hlu]);simpa[hlt]using this
theorem qoq(ho:HOK Γ w F ρ H)(he:∀t,Rep w (Mu F ρ) ρ (E t) (a.tmps.getD t undef)){s:TypeId}{fields:Array Field}{fd:Field}{f:Nat}{ag:Bool}{sz:Nat}{x:Operand}{x':Opd}{cs:List AV}
  (hs:P.underlying s=some (.struct fields)) (hf:fields[f]?=some fd) (ht:ldSz P fd.type=some (ag,sz)) (hx:cOpd Γ x=some x') (hop:o.op= .field s x f)
  (hv:val E x'= .agg cs) (hl:fd.offset+sz<=cs.length):Snd P Γ o a w F ρ n0 (ldv ag sz fd.offset cs) H []:=by
 have h1:=zaj ho he hx;rw[hv]at h1;obtain⟨us,e1,hsz,hr⟩:=zlo h1;obtain⟨v',hv',hr'⟩:=qbd (P:=P) ht hl hsz hr;exact zat ho (by simp[execOp,hop,e1,Instr.field,zas hs,hf,asAgg,hv']) hr'
theorem qor(ho:HOK Γ w F ρ H)(he:∀t,Rep w (Mu F ρ) ρ (E t) (a.tmps.getD t undef)){t el:TypeId}{n:Nat}{ag:Bool}{sz s:Nat}{x i:Operand}{x' i':Opd}{cs:List AV}{k:IntKind}{j:Int}
  (ht:P.underlying t=some (.array n el)) (hel:ldSz P el=some (ag,sz)) (hz:szT P el=some s) (hss:s=sz) (hx:cOpd Γ x=some x') (hi:cOpd Γ i=some i') (hop:o.op= .index t x i)
  (hv:val E x'= .agg cs) (hj:val E i'= .int k j) (hj0:0<=j) (hjn:j<n) (hl:j.toNat*sz+sz<=cs.length):Snd P Γ o a w F ρ n0 (ldv ag sz (j.toNat*sz) cs) H []:=by
 have h1:=zaj ho he hx;have h2:=zaj ho he hi;rw[hv]at h1;rw[hj]at h2;obtain⟨us,e1,hsz,hr⟩:=zlo h1;obtain⟨v',hv',hr'⟩:=qbd (P:=P) hel hl hsz hr;subst hss;exact zat ho (by simp[execOp,hop,e1,zbt h2,Instr.index,asIntOf,zas ht,hj0,hjn,zcy hz,hv']) hr'
theorem qos(ho:HOK Γ w F ρ H)(he:∀t,Rep w (Mu F ρ) ρ (E t) (a.tmps.getD t undef)){t:TypeId}{x i:Operand}{x' i':Opd}{s:ByteArray}{k:IntKind}{j:Int}
  (ht:P.underlying t=some .string) (hx:cOpd Γ x=some x') (hi:cOpd Γ i=some i') (hop:o.op= .index t x i)
  (hv:val E x'= .str s) (hj:val E i'= .int k j) (hj0:0<=j) (hjn:j<s.size):Snd P Γ o a w F ρ n0 (.int .u8 (s.data.getD j.toNat 0).toNat) H []:=by
 have h1:=zaj ho he hx;have h2:=zaj ho he hi;rw[hv]at h1;rw[hj]at h2;have hlt:j.toNat<s.size:=by omega
 have hlt':j.toNat<s.data.size:=hlt;refine zat ho (v':= .int .u8 (s.data.getD j.toNat 0).toNat) ?_ (.imm _ _ (.int _ _))
 have hg:s[j.toNat]?=some (s.data.getD j.toNat 0):=by
  simp[getElem?_pos s j.toNat hlt,Array.getElem?_eq_getElem hlt',ByteArray.getElem_eq_getElem_data]
 simp[execOp,hop,zjj h1,zbt h2,Instr.index,asIntOf,zas ht,hj0,hg]
theorem zyc(ho:HOK Γ w F ρ H)(he:∀t,Rep w (Mu F ρ) ρ (E t) (a.tmps.getD t undef)){cl:Call}{x:Operand}{x':Opd}{n:Nat}{t:TypeId}
  (hx:cOpd Γ x=some x') (hop:o.op= .call cl) (hc:cl.callee= .builtin .len) (hargs:cl.args.toList=[x]) (ht:cl.argTypes[0]?=some t)
  (hv:lenA (val E x')=some n) (hty:(∃el,P.underlying t=some (.slice el)/\∀s,val E x'≠ .str s)\/(P.underlying t=some .string/\∃s,val E x'= .str s)):
  Snd P Γ o a w F ρ n0 (.int .i64 n) H []:=by
 have h1:=zaj ho he hx;have ha:cl.args= #[x]:=by rw[<-Array.toArray_toList (xs:=cl.args),hargs]
 refine zat ho (v':= .int .i64 n) ?_ (.imm _ _ (.int _ _));rcases hty with⟨el,hty,hns⟩ | ⟨hty,s,hs⟩
 ·cases hx':val E x'<;>rw[hx']at hv h1 hns<;>simp[lenA]at hv
  case vec cs m c=>
   subst hv;rcases zfi h1 with⟨_,e1,_,hn,_⟩ | ⟨b,off,cap,vs,e1,_⟩
   ·subst hn;simp[execOp,hop,resolve,hc,ha,invoke,builtin,Builtin.len_,ht,e1,zas hty,goInt]
   ·simp[execOp,hop,resolve,hc,ha,invoke,builtin,Builtin.len_,ht,e1,zas hty,goInt]
  case sl id off m sz c=>
   subst hv;obtain⟨b,cap,e1,_⟩:=zez h1;simp[execOp,hop,resolve,hc,ha,invoke,builtin,Builtin.len_,ht,e1,zas hty,goInt]
  case str s=>exact absurd rfl (hns s)
 ·rw[hs]at hv h1;simp[lenA]at hv;subst hv;simp[execOp,hop,resolve,hc,ha,invoke,builtin,Builtin.len_,ht,zjj h1,zas hty,goInt]
theorem qbe(ho:HOK Γ w F ρ H){cl:Call}{x:Operand}{n:Nat}{t:TypeId}
  (hop:o.op= .call cl) (hc:cl.callee= .builtin .len) (hargs:cl.args.toList=[x]) (ht:cl.argTypes[0]?=some t)
  (hty:(∃el,P.underlying t=some (.array n el))\/(∃p el,P.underlying t=some (.pointer p)/\P.underlying p=some (.array n el))):
  Snd P Γ o a w F ρ n0 (.int .i64 n) H []:=by
 have ha:cl.args= #[x]:=by rw[<-Array.toArray_toList (xs:=cl.args),hargs]
 refine zat ho (v':= .int .i64 n) ?_ (.imm _ _ (.int _ _));rcases hty with⟨el,hty⟩ | ⟨p,el,hty,hp⟩
 ·simp[execOp,hop,resolve,hc,ha,invoke,builtin,Builtin.len_,ht,zas hty,goInt]
 ·simp[execOp,hop,resolve,hc,ha,invoke,builtin,Builtin.len_,ht,zas hty,zas hp,goInt]
theorem zfe{el:TypeId}{c:Array Value}:(newRow el c).run P w= .ok ⟨w.heap.size,0,none⟩ (w.alloc (.cells c el)):=by
 simp[newRow,newObj,Sem.run]
theorem qhg(ho:HOK Γ w F ρ H){u:AV}{u':Value}{el:TypeId}(hfr:fresh<H.length)(hu:ρ fresh= .unborn)(hr:Rep w (Mu F ρ) ρ u u')(hf:u.firm=true)
  (hrun:(execOp a.eval o).run P w= .ok (.value (.pointer (some ⟨w.heap.size,0,none⟩))) (w.alloc (.cells u'.cells el))):
  Snd P Γ o a w F ρ n0 (.ptr fresh 0) (zad [(fresh,some u.cells)] H) [fresh]:=by
 obtain⟨h1,h2⟩:=znt hr hf;exact⟨_,_,_,_,hrun,.inl rfl,zfh n0 ho hfr hu u.cells u'.cells el (by omega) h2,.ptrAt _ _ _ (by simp[updR]) ⟨(el,u'.cells.size),by simp[World.shape?,World.alloc,-World.alloc_eq]⟩⟩
theorem zer{id b p:Nat}:∀(us:List Value) (as:List AV) (i:Nat) (w:World) (H:Heap) (cs:List AV),HOK Γ w F ρ H->ρ id= .here b->(∃x,w.shape? b=some x)->H[id]?=some (some cs)->
  p+i+us.length<=cs.length->as.length=us.length->AV.scalL as=true->(∀(j:Nat) (x:AV) (y:Value),as[j]?=some x->us[j]?=some y->Rep w (Mu F ρ) ρ x y)->
  ∃w',(storeCells ⟨b,p,none⟩ us i).run P w= .ok () w'/\After Γ F n0 ρ w ρ w' (H.set id (some (setL cs (p+i) as))) []:=by
 intro us
 induction us with
 |nil=>
  intro as i w H cs ho hb hshp hH hl hlen hsc hr;have:as=[]:=List.length_eq_zero_iff.1 hlen;subst this;refine⟨w,by simp[storeCells],?_⟩
  have hid:id<H.length:=by
   rcases Nat.lt_or_ge id H.length with h' | h'
   ·exact h'
   ·rw[qQ h']at hH;simp at hH
  have e:H.set id (some (setL cs (p+i) []))=H:=by
   apply List.ext_getElem?;intro j;by_cases ej:id=j
   ·subst ej;rw[List.getElem?_set_self hid,hH];rfl
   ·simp[ej]
  rw[e];exact zio n0 ho
 |cons u us ih=>
  intro as i w H cs ho hb hshp hH hl hlen hsc hr;cases as with
  |nil=>simp at hlen
  |cons x as=>
   simp only[AV.scalL,Bool.and_eq_true]at hsc;simp only[List.length_cons]at hl hlen;have hx:=hr 0 x u rfl rfl;obtain⟨hn1,hn2⟩:=qom hx hsc.1;obtain⟨cs',h1,h2⟩:=ho.blk id b hb;rw[hH]at h1;simp at h1;subst h1;obtain⟨el,m,h2,h3,h4,h5⟩:=h2.cells hshp;have hlt:p+i<cs.length:=by omega
   obtain⟨y,hy,_⟩:=h5 (p+i) cs[p+i] (by simp[hlt]);have hA:=qgx n0 ho hb hshp hH hlt hx
   have hid:id<H.length:=by
    rcases Nat.lt_or_ge id H.length with h' | h'
    ·exact h'
    ·rw[qQ h']at hH;simp at hH
   obtain⟨w',hw',hA'⟩:=ih as (i+1) (w.setCell ⟨b,p+i,none⟩ u) (H.set id (some (cs.set (p+i) x))) (cs.set (p+i) x) hA.hok hb (by rw[zgt];exact hshp) (by simp[hid]) (by simp;omega) (by omega) hsc.2
    (λj x' y' hx' hy'=>(hr (j+1) x' y' (by simpa using hx') (by simpa using hy')).after ho hA)
   refine⟨w',?_,?_⟩
   ·simp only[storeCells,Sem.run_bind,zei];rw[jbu hy (h4 _) hn1 hn2];simpa using hw'
   ·have:=hA.trans hA';rw[List.set_set]at this;simpa[setL,Nat.add_assoc]using this
theorem qhh(ho:HOK Γ w F ρ H)(he:∀t,Rep w (Mu F ρ) ρ (E t) (a.tmps.getD t undef)){t:TypeId}{sz id off:Nat}{x y:Operand}{x' y':Opd}{cs:List AV}
  (ht:szT P t=some sz) (hx:cOpd Γ x=some x') (hy:cOpd Γ y=some y') (hop:o.op= .store t x y) (hv:val E x'= .ptr id off) (hg:getB H id=some cs)
  (hf:(val E y').firm=true) (hl:(val E y').cells.length=sz) (hsc:AV.scalL (val E y').cells=true) (hlen:off+sz<=cs.length):
  Snd P Γ o a w F ρ n0 .junk (zad [(id,some (setL cs off (val E y').cells))] H) []:=by
 have h1:=zaj ho he hx;have h2:=zaj ho he hy;rw[hv]at h1;have hsh:=qgy h1;obtain⟨b,e1,hb,_,_⟩:=znd ho h1 hg;obtain⟨h3,h4⟩:=znt h2 hf
 obtain⟨w',hw',hA⟩:=zer (P:=P) (n0:=n0) (p:=off) (a.eval y).cells.toList (val E y').cells 0 w H cs ho hb (hsh b hb) (zce hg) (by simp;omega) (by simp;omega) hsc
  (λj p q hp hq=>by
   obtain⟨r,hr,hr'⟩:=h4 j p hp
   have:q=r:=by
    have hq':(a.eval y).cells[j]?=some q:=by simpa using hq
    rw[hq']at hr;simpa using hr
   subst this;exact hr')
 refine⟨.skip,undef,w',ρ,?_,.inr ⟨rfl,rfl⟩,hA,.imm _ _ (.junk _)⟩;simp[execOp,hop,e1,Instr.storeAt,Instr.sureAddr,storeVar,zcy ht,h3,hl,hw']
