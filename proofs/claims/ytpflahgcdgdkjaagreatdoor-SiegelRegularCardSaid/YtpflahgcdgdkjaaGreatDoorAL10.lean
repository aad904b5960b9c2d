/- A part of the proof. -/
import Derived.Test.YtpflahgcdgdkjaaGreatDoorAL9
set_option linter.all false
namespace Go.AL
open List renaming getElem?_take -> qQ
open Go
section
variable{P:Program}{Γ:Glob}{E:Env}{a:Act}{w:World}{F:Nat->Prop}{ρ:Nat->RS}{H:Heap}{n0 fresh:Nat}{o:Oper}{v:AV}{e:Eff}{rd:List Nat}
theorem zqv{sz n b off len cap:Nat}{vs:Nat->Value}(h:∀j,j<n*sz->w.cell? ⟨b,off+j,none⟩=some (vs j))(w':World)(hw:w'.heap=w.heap):
  (Builtin.firstCells sz n (.slice (some ⟨b,off,none⟩) len cap)).run P w'= .ok ((List.range (n*sz)).map vs).toArray w':=by
 unfold Builtin.firstCells;exact zkc (λj hj=>by have:=h j hj;simpa[World.cell?,hw]using this)
theorem zfj(ho:HOK Γ w F ρ H){sz n:Nat}{x:AV}{x':Value}{cs:List AV}{rd:List Nat}(h:zdr H sz n x=some (cs,rd))(hr:Rep w (Mu F ρ) ρ x x'):
  ∃us:List Value,(∀w':World,w'.heap=w.heap->(Builtin.firstCells sz n x').run P w'= .ok us.toArray w')/\us.length=n*sz/\zbi w (Mu F ρ) ρ cs us:=by
 cases x<;>simp only[zdr]at h<;>try (simp at h;done)
 case vec cs' m c=>
  obtain⟨⟨h1,h2⟩,h3⟩:=zac h;simp at h3;obtain⟨rfl,rfl⟩:=h3;rcases zfi hr with⟨p,rfl,rfl,rfl,_⟩ | ⟨b,off,cap,vs,rfl,_,hcell,hrep,_⟩
  ·have e0:n=0:=by omega
   subst e0;exact⟨[],λw' _=>by cases p<;>simp[Builtin.firstCells,loadCells,loadCellsFrom]<;>rfl,by simp,by simp,λj a v ha=>by simp at ha⟩
  ·refine⟨(List.range (n*sz)).map vs,λw' hw=>zqv (λj hj=>hcell j (by omega)) w' hw,by simp,by simp;omega,λj a v ha hv=>?_⟩;rw[qQ]at ha;split at ha
   ·rename_i hlt;simp[hlt]at hv;subst hv;exact .imm _ _ (hrep j a ha)
   ·simp at ha
 case sl id off m s c=>
  split at h
  ·rename_i cs' hg;obtain⟨⟨rfl,h1,h2⟩,h3⟩:=zac h;simp at h3;obtain⟨rfl,rfl⟩:=h3;obtain⟨b,el,mm,hb,hs,hlen,hf,hc⟩:=ho.at hg (qdz hr);obtain⟨b',cap,rfl,_,_,hb'⟩:=zez hr
   have hbb:b'=b:=by
    rcases hb' with hb' | ⟨hb',_⟩
    ·rw[hb]at hb';simp at hb'
    ·rw[hb]at hb';simp at hb';exact hb'.symm
   subst hbb;obtain⟨vs,hvs,hr'⟩:=zhq h2 hc;refine⟨(List.range (n*s)).map vs,λw' hw=>zqv hvs w' hw,by simp,by simp;omega,λj a v ha hv=>?_⟩;rw[qQ]at ha;split at ha
   ·rename_i hlt;rw[List.getElem?_drop]at ha;simp[hlt]at hv;subst hv;exact hr' j a hlt ha
   ·simp at ha
  ·simp at h
theorem zvf{sz n:Nat}{x:AV}{cs:List AV}{rd:List Nat}(h:zdr H sz n x=some (cs,rd)):cs.length=n*sz:=by
 cases x<;>simp only[zdr]at h<;>try (simp at h;done)
 case vec cs' m c=>
  obtain⟨⟨h1,h2⟩,h3⟩:=zac h;simp at h3;obtain⟨rfl,rfl⟩:=h3;simp;omega
 case sl id off m s c=>
  split at h
  ·obtain⟨⟨rfl,h1,h2⟩,h3⟩:=zac h;simp at h3;obtain⟨rfl,rfl⟩:=h3;simp;omega
  ·simp at h
theorem zso{x:AV}{x':Value}{m:Nat}(h:lenA x=some m)(hr:Rep w (Mu F ρ) ρ x x')(hs:∀s,x≠ .str s):∃ad cap,x'= .slice ad m cap/\m<=cap:=by
 cases x<;>simp[lenA]at h
 case vec cs n c=>
  subst h;rcases zfi hr with⟨p,rfl,_,rfl,_⟩ | ⟨b,off,cap,vs,rfl,_,_,_,hn,_⟩
  ·exact⟨p,0,rfl,Nat.le_refl _⟩
  ·exact⟨_,cap,rfl,hn⟩
 case sl id off n sz c=>
  subst h;obtain⟨b,cap,rfl,hn,_⟩:=zez hr;exact⟨_,cap,rfl,hn⟩
 case str s=>exact absurd rfl (hs s)
theorem zjl{sz n:Nat}{x:AV}{r:List AV×List Nat}(h:zdr H sz n x=some r):∀s,x≠ .str s:=by
 intro s e;subst e;simp[zdr]at h
theorem zsp(ho:HOK Γ w F ρ H)(he:∀t,Rep w (Mu F ρ) ρ (E t) (a.tmps.getD t undef)){ty ty' el:TypeId}{x:Operand}{x':Opd}
  (hty:P.underlying ty=some (.slice el)) (hx:cOpd Γ x=some x') (hop:o.op= .binOp .eql ty x (.const (.slice none 0 0)) ty')
  (hv:(∃cs n c,val E x'= .vec cs n c/\v=if n=0 then .anyb else .bool false)\/(∃id off n sz c,val E x'= .sl id off n sz c/\v= .bool false)):Snd P Γ o a w F ρ n0 v H []:=by
 have h1:=zaj ho he hx
 have hsome:∀ad n c,a.eval x= .slice (some ad) n c->(execOp a.eval o).run P w= .ok (.value (.bool false)) w:=by
  intro ad n c h
  have key:∀d,(Op.equalIn (d+1) ty (.slice (some ad) n c) (.slice none 0 0)).run P w= .ok false w:=by
   intro d;simp only[Op.equalIn,Sem.run_bind,zas hty,Result.andThen_ok];rfl
  have key':(Op.equal ty (.slice (some ad) n c) (.slice none 0 0)).run P w= .ok false w:=key 9999;have hk:a.eval (.const (.slice none 0 0))= .slice none 0 0:=rfl;simp[execOp,hop,h,hk,eqGuard,binOp,key']
 have hnil:a.eval x= .slice none 0 0->(execOp a.eval o).run P w= .ok (.value (.bool true)) w:=by
  intro h
  have key:∀d,(Op.equalIn (d+1) ty (.slice none 0 0) (.slice none 0 0)).run P w= .ok true w:=by
   intro d;simp only[Op.equalIn,Sem.run_bind,zas hty,Result.andThen_ok];rfl
  have key':(Op.equal ty (.slice none 0 0) (.slice none 0 0)).run P w= .ok true w:=key 9999;have hk:a.eval (.const (.slice none 0 0))= .slice none 0 0:=rfl;simp[execOp,hop,h,hk,eqGuard,binOp,key']
 rcases hv with⟨cs,n,c,hv,rfl⟩ | ⟨id,off,n,sz,c,hv,rfl⟩
 ·rw[hv]at h1;rcases zfi h1 with⟨p,e1,_,rfl,_⟩ | ⟨b,off,cap,vs,e1,_⟩
  ·cases p with
   |none=>exact zat ho (hnil e1) (by simp;exact .imm _ _ (.anyb _))
   |some p=>exact zat ho (hsome _ _ _ e1) (by simp;exact .imm _ _ (.anyb _))
  ·refine zat ho (hsome _ _ _ e1) ?_;split
   ·exact .imm _ _ (.anyb _)
   ·exact .imm _ _ (.bool _)
 ·rw[hv]at h1;obtain⟨b,cap,e1,_⟩:=zez h1;exact zat ho (hsome _ _ _ e1) (.imm _ _ (.bool _))
theorem qeb:∀(cs:List AV) (us:List Value) (l:List UInt8),zmg cs=some l->zbi w (Mu F ρ) ρ cs us->∃ns:List Int,us=ns.map (Value.int .u8)/\l=ns.map λn=>UInt8.ofNat n.toNat:=by
 intro cs
 induction cs with
 |nil=>
  intro us l h hr;simp[zmg]at h;subst h;have:us=[]:=List.length_eq_zero_iff.1 hr.1;subst this;exact⟨[],rfl,rfl⟩
 |cons c cs ih=>
  intro us l h hr;cases c<;>try (simp[zmg]at h;done)
  rename_i k n;cases k<;>try (simp[zmg]at h;done)
  simp only[zmg,Option.bind_eq_some_iff]at h;obtain⟨l',hl',h⟩:=h;simp at h;subst h;cases us with
  |nil=>have:=hr.1;simp at this
  |cons u us=>
   have hu:=zbt (hr.2 0 _ u rfl rfl);subst hu;obtain⟨ns,rfl,rfl⟩:=ih us l' hl' ⟨by have:=hr.1;simpa using this,λj x y hx hy=>hr.2 (j+1) x y (by simpa using hx) (by simpa using hy)⟩;exact⟨n::ns,rfl,rfl⟩
theorem qwl(ho:HOK Γ w F ρ H)(he:∀t,Rep w (Mu F ρ) ρ (E t) (a.tmps.getD t undef)){src dst el:TypeId}{x:Operand}{x':Opd}{n:Nat}{cs:List AV}{l:List UInt8}
  (hs:P.underlying src=some (.slice el)) (hel:P.underlying el=some (.int .u8)) (hd:P.underlying dst=some .string) (hx:cOpd Γ x=some x') (hop:o.op= .convert src dst x)
  (hn:lenA (val E x')=some n) (hc:zdr H 1 n (val E x')=some (cs,rd)) (hb:zmg cs=some l):Snd P Γ o a w F ρ n0 (.str ⟨l.toArray⟩) H []:=by
 have h1:=zaj ho he hx;obtain⟨ad,cap,e1,_⟩:=zso hn h1 (zjl hc);obtain⟨us,h2,h3,h4⟩:=zfj (P:=P) ho hc h1;obtain⟨ns,rfl,rfl⟩:=qeb cs us l hb h4
 have hpush:∀(ns:List Int) (s:ByteArray),ns.foldl (λr n=>r.push (UInt8.ofNat n.toNat)) s=⟨s.data++(ns.map λn=>UInt8.ofNat n.toNat).toArray⟩:=by
  intro ns
  induction ns with
  |nil=>intro s;simp
  |cons n ns ih=>
   intro s;rw[List.foldl_cons,ih];simp[ByteArray.push]
 refine zat ho (v':= .string ⟨(ns.map λn=>UInt8.ofNat n.toNat).toArray⟩) ?_ (.imm _ _ (.str _))
 have hrun:(convert src dst (a.eval x)).run P w= .ok (.string ⟨(ns.map λn=>UInt8.ofNat n.toNat).toArray⟩) w:=by
  rw[e1,run_convert_bytes_string w src dst el ad n cap hs hel hd];cases ad with
  |none=>
   have h5:=h2 w rfl;rw[e1]at h5;simp[Builtin.firstCells]at h5;subst h5;simp[Conv.bytesToString];rfl
  |some ad=>
   have h5:=h2 w rfl;rw[e1]at h5;simp only[Builtin.firstCells,Nat.mul_one]at h5;rw[run_bytesToString w ad n cap ns h5,hpush];simp
 simp[execOp,hop,hrun]
