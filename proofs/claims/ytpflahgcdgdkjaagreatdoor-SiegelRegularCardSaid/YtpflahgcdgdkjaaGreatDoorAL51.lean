/- A part of the proof. -/
import Derived.Test.YtpflahgcdgdkjaaGreatDoorAL50
set_option linter.all false
namespace Go.AL
open Option.some renaming injEq -> qQ
open List renaming getElem?_set_ne -> qX, getElem?_append_right -> qZ, getElem?_append_left -> qJ
open Option renaming bind_eq_some_iff -> qK
open Nat renaming lt_or_ge -> qW
open Go
section
variable{P:Program}{Γ:Glob}{E:Env}{a:Act}{w:World}{F:Nat->Prop}{ρ:Nat->RS}{H:Heap}{n0 fresh:Nat}{o:Oper}{v:AV}{e:Eff}{rd:List Nat}
theorem zvg{ks:List IntKind}{kk:List AV}{i:Nat}{cs:List AV}{r:Option Nat}(h:zka ks kk i cs=some r):∃b,zcz ks kk kk=some b:=by
 unfold zka at h;split at h
 ·split at h
  ·rename_i h1;exact zqw h1
  ·rename_i h1;exact zqw h1
  ·simp at h
 ·rw[qK]at h;obtain⟨b,hb,_⟩:=h;exact⟨b,hb⟩
 ·simp at h
theorem zqm{kt:TypeId}{ks:List IntKind}(hk:zlm P kt=some ks){kk:List AV}{us:Array Value}{M:Nat->Prop}(hus:zbi w M ρ kk us.toList)(w':World):
  ∀(l:List MapEntry) (cs:List AV) (i:Nat) (r:Option Nat),cs.length=2*l.length->
   (∀(j:Nat) (e:MapEntry),l[j]?=some e->∃k v,cs[2*j]?=some k/\cs[2*j+1]?=some v/\Rep w M ρ k e.key/\Rep w M ρ v e.val)->zka ks kk i cs=some r->
   (r=none->(Instr.findAsking kt (.agg us) l i).run P w'= .ok none w')/\
   (∀j,r=some j->i<=j/\∃e,l[j-i]?=some e/\(Instr.findAsking kt (.agg us) l i).run P w'= .ok (some (j,e.val)) w'/\e.key= .agg us):=by
 intro l
 induction l with
 |nil=>
  intro cs i r hl _ h;have:cs=[]:=List.length_eq_zero_iff.1 (by simpa using hl);subst this;unfold zka at h;rw[qK]at h;obtain⟨b,_,h⟩:=h;simp only[qQ]at h;subst h;exact⟨λ_=>by simp[Instr.findAsking],λj hj=>by simp at hj⟩
 |cons e l ih=>
  intro cs i r hl hrep h;cases cs with
  |nil=>simp at hl
  |cons k0 cs=>
   cases cs with
   |nil=>simp at hl;omega
   |cons v0 cs=>
    obtain⟨k,v,g1,g2,g3,g4⟩:=hrep 0 e rfl;simp at g1 g2;subst g1 g2;cases k0<;>try (simp[zka]at h;done)
    case agg kc=>
     simp only[zka]at h;obtain⟨vs,ev,rv⟩:=zoc g3;split at h
     ·rename_i hq;simp only[qQ]at h;subst h;obtain⟨q1,q2⟩:=zgb hk hq hus rv w';refine⟨λhh=>by simp at hh,λj hj=>?_⟩;simp only[qQ]at hj;subst hj;refine⟨Nat.le_refl _,e,by simp,?_,by rw[ev,q2 rfl]⟩;simp[Instr.findAsking,ev,q1]
     ·rename_i hq;obtain⟨q1,_⟩:=zgb hk hq hus rv w'
      obtain⟨z1,z2⟩:=ih cs (i+1) r (by simp at hl;omega) (λj e' he'=>by
       obtain⟨k,v,f1,f2,f3,f4⟩:=hrep (j+1) e' (by simpa using he');exact⟨k,v,by simpa[Nat.mul_add]using f1,by simpa[Nat.mul_add]using f2,f3,f4⟩) h
      have hrun:(Instr.findAsking kt (.agg us) (e::l) i).run P w'=(Instr.findAsking kt (.agg us) l (i+1)).run P w':=by
       simp[Instr.findAsking,ev,q1]
      refine⟨λhh=>by rw[hrun];exact z1 hh,λj hj=>?_⟩;obtain⟨y1,e',y2,y3,y4⟩:=z2 j hj;refine⟨by omega,e',?_,by rw[hrun];exact y3,y4⟩;have:j-i=(j-(i+1))+1:=by omega
      rw[this];simpa using y2
     ·simp at h
theorem zhk{kt el:TypeId}{n:Nat}{ks:List IntKind}(hkt:P.underlying kt=some (.array n el))(hk:zlm P kt=some ks){kk:List AV}{us:Array Value}{M:Nat->Prop}(hus:zbi w M ρ kk us.toList)(w':World)
  (l:List MapEntry) (cs:List AV) (r:Option Nat) (hl:cs.length=2*l.length)
  (hrep:∀(j:Nat) (e:MapEntry),l[j]?=some e->∃k v,cs[2*j]?=some k/\cs[2*j+1]?=some v/\Rep w M ρ k e.key/\Rep w M ρ v e.val) (h:zka ks kk 0 cs=some r):
   (r=none->(Instr.findKey kt (.agg us) l).run P w'= .ok none w')/\
   (∀j,r=some j->∃e,l[j]?=some e/\(Instr.findKey kt (.agg us) l).run P w'= .ok (some (j,e.val)) w'/\e.key= .agg us):=by
 obtain⟨z1,z2⟩:=zqm hk hus w' l cs 0 r hl hrep h
 have hnow:(Instr.findKey kt (.agg us) l).run P w'=(Instr.findAsking kt (.agg us) l).run P w':=by
  cases l with
  |nil=>simp[Instr.findKey,zas hkt,Instr.findNow,Instr.findAsking]
  |cons e l=>simp[Instr.findKey,zas hkt,Instr.findNow,Instr.sameNow]
 refine⟨λhh=>by rw[hnow];exact z1 hh,λj hj=>?_⟩;obtain⟨_,e,y2,y3,y4⟩:=z2 j hj;exact⟨e,by simpa using y2,by rw[hnow];exact y3,y4⟩
theorem zgd{kt el:TypeId}{n:Nat}{ks:List IntKind}(hkt:P.underlying kt=some (.array n el))(hk:zlm P kt=some ks){kk:List AV}{us:Array Value}{M:Nat->Prop}(hus:zbi w M ρ kk us.toList)
  {b:Bool} (hq:zcz ks kk kk=some b) (em:Bool) (w':World):(Instr.checkKey em 10000 kt (.agg us)).run P w'= .ok () w':=by
 obtain⟨ms,_,l1,_,e1,_,_⟩:=zlp ks kk kk us.toList us.toList b hq hus hus;unfold zlm at hk;simp only[hkt]at hk;split at hk
 ·simp at hk
 ·split at hk
  ·rename_i k hel hsz;simp only[qQ]at hk;subst hk;simp only[List.length_replicate]at l1;obtain⟨inf,hi,hs⟩:=zqx hsz;show(Instr.checkKey em (9999+1) kt (.agg us)).run P w'=_
   unfold Instr.checkKey;simp only[Sem.run_bind,zas hkt,Result.andThen_ok];simp only[Std.Legacy.Range.forIn_eq_forIn_range',Std.Legacy.Range.size,Nat.sub_zero,Nat.add_one_sub_one,Nat.div_one]
   have key:∀(c i:Nat),i+c=n->(forIn (List.range' i c) PUnit.unit (λi (_:PUnit)=>do Instr.checkKey em 9999 el (<-part el us (i*(<-sizeOf el)));pure (ForInStep.yield PUnit.unit)):Sem PUnit).run P w'= .ok PUnit.unit w':=by
    intro c
    induction c with
    |zero=>intro i _;simp
    |succ c ih=>
     intro i hi';have hki:(List.replicate n k)[i]?=some k:=by simp[List.getElem?_replicate];omega
     have hxi:us[i]?=some (.int k (ms[i]'(by omega))):=by rw[<-Array.getElem?_toList,e1];exact zdo hki (by simp)
     rw[List.range'_succ]
     have hc:∀u,(Instr.checkKey em 9999 el (.int k u)).run P w'= .ok () w':=by
      intro u;show(Instr.checkKey em (9998+1) el (.int k u)).run P w'=_
      unfold Instr.checkKey;simp[zas hel]
     rw[List.forIn_cons];simp only[Sem.run_bind,zcy hsz,Result.andThen_ok,Nat.mul_one,zdp hel hxi,hc,Sem.run_pure];exact ih (i+1) (by omega)
   have:=key n 0 (by omega);rw[this];rfl
  ·simp at hk
theorem qhm(ho:HOK Γ w F ρ H){id:Nat}{u:Value}{cs:List AV}(h:Rep w (Mu F ρ) ρ (.clo 131074 [.ptr id 0]) u)(hg:getB H id=some cs)(hn:zhn cs=true):
  ∃b es,u= .map (some b)/\ρ id= .here b/\w.shape? b=none/\w.heap[b]?=some (.map es es.size)/\cs.length=2*es.size/\
   ∀(i:Nat) (e:MapEntry),es[i]?=some e->e.born=i/\∃k v,cs[2*i]?=some k/\cs[2*i+1]?=some v/\Rep w (Mu F ρ) ρ k e.key/\Rep w (Mu F ρ) ρ v e.val:=by
 obtain⟨b,rfl,hb⟩:=qwd h;obtain⟨b',hb',hblk⟩:=ho.at' hg;rcases hb with⟨hb,hs⟩ | hb
 ·rw[hb]at hb';simp at hb';subst hb';obtain⟨es,h1,h2,h3⟩:=hblk.map hs hn;exact⟨b,es,rfl,hb,hs,h1,h2,h3⟩
 ·rw[hb]at hb';simp at hb'
theorem qhn(ho:HOK Γ w F ρ H)(hfr:fresh<H.length)(hu:ρ fresh= .unborn){t:TypeId}(hop:o.op= .makeMap t none):
  Snd P Γ o a w F ρ n0 (.clo 131074 [.ptr fresh 0]) (zad [(fresh,some [])] H) [fresh]:=by
 refine⟨.value (.map (some w.heap.size)),_,w.alloc (.map #[] 0),updR ρ fresh (.here w.heap.size),?_,.inl rfl,zuy n0 ho hfr hu [] (.map #[] 0) (λ_=> .inr (.inl ⟨#[],by simp[World.alloc,-World.alloc_eq],rfl,by simp⟩)),?_⟩
 ·simp[execOp,hop,Instr.makeMap]
 ·exact .mapAt _ _ (by simp[updR]) (by simp[World.shape?,World.alloc,-World.alloc_eq])
theorem qho(ho:HOK Γ w F ρ H)(he:∀t,Rep w (Mu F ρ) ρ (E t) (a.tmps.getD t undef)){t kt el el':TypeId}{n:Nat}{ks:List IntKind}{x y:Operand}{x' y':Opd}{id:Nat}{kk cs:List AV}{z:AV}{r:Option Nat}
  (ht:P.underlying t=some (.map kt el)) (hkt:P.underlying kt=some (.array n el')) (hk:zlm P kt=some ks) {zi:TypeInfo} {zv:Value} (hzi:P.info? el=some zi) (hzv:zi.zero=some zv) (hz:ofV zv=some z)
  (hx:cOpd Γ x=some x') (hy:cOpd Γ y=some y') (hop:o.op= .lookup t x y false)
  (hv:val E x'= .clo 131074 [.ptr id 0]) (hkk:val E y'= .agg kk) (hg:getB H id=some cs) {u:AV} (hu:u=match r with | some i=>cs.getD (2*i+1) .junk | none=>z) (hr:zka ks kk 0 cs=some r):
  Snd P Γ o a w F ρ n0 u H []:=by
 subst hu;have h1:=zaj ho he hx;have h2:=zaj ho he hy;rw[hv]at h1;rw[hkk]at h2;obtain⟨us,e2,r2⟩:=zoc h2;obtain⟨b,es,e1,hb,hs,hh,hl,hes⟩:=qhm ho h1 hg (qaz hr);obtain⟨bq,hq⟩:=zvg hr
 obtain⟨z1,z2⟩:=zhk hkt hk r2 w es.toList cs r (by simpa using hl) (λj e' he'=>by
  obtain⟨_,rest⟩:=hes j e' (by simpa using he');exact rest) hr
 have hck:=zgd hkt hk r2 hq es.isEmpty w;cases r with
 |none=>
  refine zat ho (v':=zv) ?_ (.imm _ _ (znu w _ hz));simp[execOp,hop,e1,e2,Instr.lookup,zas ht,MapKept.run_getObj_map hh,hck,z1 rfl,zfr hzi hzv]
 |some i=>
  obtain⟨e',y1,y2,_⟩:=z2 i rfl;obtain⟨_,k0,v0,g1,g2,g3,g4⟩:=hes i e' (by simpa using y1);refine zat ho (v':=e'.val) ?_ ?_
  ·simp[execOp,hop,e1,e2,Instr.lookup,zas ht,MapKept.run_getObj_map hh,hck,y2]
  ·show Rep w (Mu F ρ) ρ (cs.getD (2*i+1) .junk) e'.val
   rw[List.getD_eq_getElem?_getD,g2];exact g4
theorem zye{b:Nat}{es es':Array MapEntry}{c c':Nat}(hh:w.heap[b]?=some (.map es c)):Kept (λx=>x=b) w { w with heap:=w.heap.setIfInBounds b (.map es' c') }:=by
 have hlt:b<w.heap.size:=by
  rcases qW b w.heap.size with h' | h'
  ·exact h'
  ·rw[Array.getElem?_eq_none h']at hh;simp at hh
 have hget:∀x,(w.heap.setIfInBounds b (.map es' c'))[x]?=if x=b then some (.map es' c')else w.heap[x]?:=by
  intro x;rw[Array.getElem?_setIfInBounds];by_cases hx:x=b
  ·subst hx;simp[hlt]
  ·rw[if_neg (λh=>hx h.symm),if_neg hx]
 refine⟨by simp,λx _ hx=>?_,λx _=>?_,λx j _=>?_,rfl,rfl⟩
 ·show(w.heap.setIfInBounds b (.map es' c'))[x]?=_
  rw[hget,if_neg hx]
 ·unfold World.shape?;show(match (w.heap.setIfInBounds b (.map es' c'))[x]? with | some (.cells c elem _)=>some (elem,c.size) | _=>none)=_
  rw[hget];by_cases hx:x=b
  ·subst hx;rw[if_pos rfl,hh]
  ·rw[if_neg hx];rfl
 ·unfold World.frozen?;show(match (w.heap.setIfInBounds b (.map es' c'))[x]? with | some (.cells _ _ (lo,hi))=>lo<=j && j<hi | _=>false)=_
  rw[hget];by_cases hx:x=b
  ·subst hx;rw[if_pos rfl,hh]
  ·rw[if_neg hx];rfl
theorem zod(ho:HOK Γ w F ρ H){id b:Nat}{cs cs':List AV}{es es':Array MapEntry}(hb:ρ id= .here b)(hg:getB H id=some cs)(hh:w.heap[b]?=some (.map es es.size))(hl:cs'.length=2*es'.size)
  (hes:∀(i:Nat) (e:MapEntry),es'[i]?=some e->e.born=i/\∃k v,cs'[2*i]?=some k/\cs'[2*i+1]?=some v/\Rep w (Mu F ρ) ρ k e.key/\Rep w (Mu F ρ) ρ v e.val):
  After Γ F n0 ρ w ρ { w with heap:=w.heap.setIfInBounds b (.map es' es'.size) } (zad [(id,some cs')] H) []:=by
 have hlt:b<w.heap.size:=by
  rcases qW b w.heap.size with h' | h'
  ·exact h'
  ·rw[Array.getElem?_eq_none h']at hh;simp at hh
 refine zva n0 ho hb (zce hg) (zye hh) (λhrr=> .inr (.inl ⟨es',by simp[hlt],hl,λi e he=>?_⟩));obtain⟨g0,k,v,g1,g2,g3,g4⟩:=hes i e he;exact⟨g0,k,v,g1,g2,hrr _ _ g3,hrr _ _ g4⟩
theorem zst:∀(n:Nat) (ks:List IntKind) (ms:List Int),(((ks.zip ms).map (λx=>Value.int x.1 x.2)).zip ((ks.zip ms).map (λx=>Value.int x.1 x.2))).all (λ(x,y)=>Instr.sameBits n x y)=true:=by
 intro n ks ms;generalize ks.zip ms=l
 induction l with
 |nil=>rfl
 |cons p l ih=>simp only[List.map_cons,List.zip_cons_cons,List.all_cons,ih];simp[Instr.sameBits]
theorem zvh{ks:List IntKind}{kk:List AV}{us:Array Value}{M:Nat->Prop}(hus:zbi w M ρ kk us.toList){b:Bool}(hq:zcz ks kk kk=some b)(w':World):(Instr.keyThatStays (.agg us) (.agg us)).run P w'= .ok (.agg us) w':=by
 obtain⟨ms,_,l1,_,e1,_,_⟩:=zlp ks kk kk us.toList us.toList b hq hus hus
 have:Instr.sameBits 10000 (.agg us) (.agg us)=true:=by
  show Instr.sameBits (9999+1) (.agg us) (.agg us)=true
  unfold Instr.sameBits;rw[e1];simp only[beq_self_eq_true,Bool.true_and];exact zst _ _ _
 simp[Instr.keyThatStays,this]
theorem qeg(ho:HOK Γ w F ρ H)(he:∀t,Rep w (Mu F ρ) ρ (E t) (a.tmps.getD t undef)){t kt el el':TypeId}{n:Nat}{ks:List IntKind}{x y:Operand}{x' y':Opd}{id:Nat}{kk cs:List AV}{z:AV}{r:Option Nat}
  (ht:P.underlying t=some (.map kt el)) (hkt:P.underlying kt=some (.array n el')) (hk:zlm P kt=some ks) {zi:TypeInfo} {zv:Value} (hzi:P.info? el=some zi) (hzv:zi.zero=some zv) (hz:ofV zv=some z)
  (hx:cOpd Γ x=some x') (hy:cOpd Γ y=some y') (hop:o.op= .mapEntry t x y)
  (hv:val E x'= .clo 131074 [.ptr id 0]) (hkk:val E y'= .agg kk) (hg:getB H id=some cs) (hr:zka ks kk 0 cs=some r):
  (∀i,r=some i->Snd P Γ o a w F ρ n0 (.tup [cs.getD (2*i+1) .junk,.int .i64 i]) (zad [(id,some cs)] H) [])/\
  (r=none->Snd P Γ o a w F ρ n0 (.tup [z,.int .i64 (cs.length/2:Nat)]) (zad [(id,some (cs++[.agg kk,z]))] H) []):=by
 have h1:=zaj ho he hx;have h2:=zaj ho he hy;rw[hv]at h1;rw[hkk]at h2;have h2':=h2;obtain⟨us,e2,r2⟩:=zoc h2;obtain⟨b,es,e1,hb,hs,hh,hl,hes⟩:=qhm ho h1 hg (qaz hr);obtain⟨bq,hq⟩:=zvg hr
 obtain⟨z1,z2⟩:=zhk hkt hk r2 w es.toList cs r (by simpa using hl) (λj e' he'=>by
  obtain⟨_,rest⟩:=hes j e' (by simpa using he');exact rest) hr
 have hck:=zgd hkt hk r2 hq false w;refine⟨λi hi=>?_,λhi=>?_⟩
 ·obtain⟨e',y1,y2,y3⟩:=z2 i hi;have y1':es[i]?=some e':=by simpa using y1
  obtain⟨hborn,k0,v0,g1,g2,g3,g4⟩:=hes i e' y1'
  have hmod:es.modify i (λe=>{ e with key:= .agg us })=es:=by
   apply Array.ext_getElem?;intro j;rw[Array.getElem?_modify];split
   ·rename_i hij;subst hij;rw[y1'];simp[<-y3]
   ·rfl
  have hA:=zod (n0:=n0) ho hb hg hh hl hes;refine⟨.value (.tuple #[e'.val,goInt i]),_,_,ρ,?_,.inl rfl,hA,?_⟩
  ·simp[execOp,hop,e1,e2,Instr.mapEntry,zas ht,MapKept.run_getObj_map hh,hck,y2,y1',y3,zvh r2 hq,hmod,MapKept.run_setObj_map _ hh,hborn]
  ·refine(Rep.tup _ _ rfl (λj p q hp hq=>?_):Rep w (Mu F ρ) ρ _ _).after ho hA
   match j with
   |0=>
    simp at hp hq;subst hp hq
    show Rep w (Mu F ρ) ρ (cs[2*i+1]?.getD .junk) e'.val
    rw[g2];exact g4
   |1=>simp at hp hq;subst hp hq;exact .imm _ _ (.int _ _)
   |j+2=>simp at hp
 ·have hrr:After Γ F n0 ρ w ρ { w with heap:=w.heap.setIfInBounds b (.map (es.push { key:= .agg us,val:=zv,born:=es.size }) (es.size+1)) } (zad [(id,some (cs++[.agg kk,z]))] H) []:=by
   have:=zod (n0:=n0) (es':=es.push { key:= .agg us,val:=zv,born:=es.size }) (cs':=cs++[.agg kk,z]) ho hb hg hh (by simp;omega) (λi e' he'=>by
    rw[Array.getElem?_push]at he';split at he'
    ·rename_i hi;simp at he';subst he';refine⟨hi.symm,.agg kk,z,by rw[hi,<-hl,qZ (Nat.le_refl _)];simp,by rw[hi,<-hl,qZ (by omega)];simp,by rw[<-e2];exact h2',.imm _ _ (znu w _ hz)⟩
    ·have hlt:i<es.size:=by
      rcases qW i es.size with h' | h'
      ·exact h'
      ·rw[Array.getElem?_eq_none h']at he';simp at he'
     obtain⟨g0,k,v,g1,g2,g3,g4⟩:=hes i e' he';exact⟨g0,k,v,by rw[qJ (by omega)];exact g1,by rw[qJ (by omega)];exact g2,g3,g4⟩)
   simpa using this
  have hc2:cs.length/2=es.size:=by omega
  refine⟨.value (.tuple #[zv,goInt es.size]),_,_,ρ,?_,.inl rfl,hrr,?_⟩
  ·simp[execOp,hop,e1,e2,Instr.mapEntry,zas ht,MapKept.run_getObj_map hh,hck,z1 hi,zfr hzi hzv,MapKept.run_setObj_map _ hh]
  ·rw[hc2];refine(Rep.tup _ _ rfl (λj p q hp hq=>?_):Rep w (Mu F ρ) ρ _ _).after ho hrr
   match j with
   |0=>simp at hp hq;subst hp hq;exact .imm _ _ (znu w _ hz)
   |1=>simp at hp hq;subst hp hq;exact .imm _ _ (.int _ _)
   |j+2=>simp at hp
theorem qeh(ho:HOK Γ w F ρ H)(he:∀t,Rep w (Mu F ρ) ρ (E t) (a.tmps.getD t undef)){t:TypeId}{x s y:Operand}{x' s' y':Opd}{id:Nat}{cs:List AV}{k:IntKind}{n:Int}
  (hx:cOpd Γ x=some x') (hsx:cOpd Γ s=some s') (hy:cOpd Γ y=some y') (hop:o.op= .entryStore t x s y)
  (hv:val E x'= .clo 131074 [.ptr id 0]) (hn:val E s'= .int k n) (hg:getB H id=some cs) (hn0:0<=n) (hlt:2*n.toNat+1<cs.length) (hnl:zhn cs=true):
  Snd P Γ o a w F ρ n0 .junk (zad [(id,some (cs.set (2*n.toNat+1) (val E y')))] H) []:=by
 have h1:=zaj ho he hx;have h2:=zaj ho he hsx;have h3:=zaj ho he hy;rw[hv]at h1;rw[hn]at h2;have e2:=zbt h2;obtain⟨b,es,e1,hb,hs,hh,hl,hes⟩:=qhm ho h1 hg hnl;have hns:n.toNat<es.size:=by omega
 have hfind:es.findIdx? (λe=>(e.born:Int) == n)=some n.toNat:=by
  rw[Array.findIdx?_eq_some_iff_getElem];refine⟨hns,?_,λj hj=>?_⟩
  ·have:=(hes n.toNat es[n.toNat] (by simp[hns])).1;rw[this];simp;omega
  ·have:=(hes j es[j] (by simp)).1;rw[this];simp;omega
 have hA:=zod (n0:=n0) (es':=es.modify n.toNat λe=>{ e with val:=a.eval y }) (cs':=cs.set (2*n.toNat+1) (val E y')) ho hb hg hh (by simpa using hl) (λi e' he'=>by
  rw[Array.getElem?_modify]at he';split at he'
  ·rename_i hi;subst hi;cases hq:es[n.toNat]? with
   |none=>rw[hq]at he';simp at he'
   |some e0=>
    rw[hq]at he';simp at he';subst he';obtain⟨g0,k,v,g1,g2,g3,g4⟩:=hes _ e0 hq;exact⟨g0,k,val E y',by rw[qX (by omega)];exact g1,by rw[List.getElem?_set_self hlt],g3,h3⟩
  ·rename_i hi;obtain⟨g0,k,v,g1,g2,g3,g4⟩:=hes i e' he';exact⟨g0,k,v,by rw[qX (by omega)];exact g1,by rw[qX (by omega)];exact g2,g3,g4⟩)
 refine⟨.skip,undef,_,ρ,?_,.inr ⟨rfl,rfl⟩,by simpa using hA,.imm _ _ (.junk _)⟩;simp[execOp,hop,e1,e2,Instr.entryStore,MapKept.run_getObj_map hh,hfind,MapKept.run_setObj_map _ hh,asInt,asIntOf]
