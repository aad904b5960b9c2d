/- A part of the proof. -/
import Derived.Test.YtpflahgcdgdkjaaGreatDoorPD
import Derived.Test.YtpflahgcdgdkjaaGreatDoorPC
import Derived.Test.YtpflahgcdgdkjaaGreatDoorPA
namespace Go.Proofs.YtpflahgcdgdkjaaGreatDoor
open Nat renaming reduceEqDiff → qQ, le_refl → qA, mod_lt → qB
open List renaming getD_eq_getElem?_getD → qX, getElem?_cons_zero → qW, getElem?_cons_succ → qV, getElem?_eq_getElem → qY, getElem?_set_self → qO, take_of_length_le → qP, getElem_mem → xZ, mem_replicate → xU, mem_or_eq_of_mem_set → xB
open Int renaming toNat_natCast → qK, natCast_add → xV
set_option linter.unusedSimpArgs false
set_option linter.unusedVariables false
open Go Go.AL Go.Proofs Go.Count
set_option maxRecDepth 100000
def ints (l:List Nat):List AV:=l.map fun (n:Nat)=>AV.int .i64 (n:Int)
theorem zdp (l:List Nat):(ints l).length=l.length:=by simp [ints]
theorem qmj (l:List Nat) (i:Nat) (h:i<l.length):(ints l)[i]?=some (.int .i64 ((l.getD i 0:Nat):Int)):=by
 simp [ints,h]
theorem zct (l:List Nat) (i:Nat) (h:i<l.length) (d:AV):(ints l).getD i d= .int .i64 ((l.getD i 0:Nat):Int):=by
 rw [qX,qmj l i h];rfl
theorem zif (l:List Nat) (i a:Nat):(ints l).set i (.int .i64 (a:Int))=ints (l.set i a):=by
 simp [ints,List.map_set]
theorem zet {a:Nat} (h:a<2^63):IntKind.i64.wrap ((a:Nat):Int)=(a:Int):=by
 simp [IntKind.wrap,IntKind.bits,IntKind.signed]
 omega
theorem qxp {nt n M:Nat} (hM:0<M) (hM2:M<2^40) (hn:n<2^20) {row:List Nat} {cr:Option Nat} (hrl:row.length=n) (hrow:∀a∈row,a<M) (cts xs:List AV) (fin:List Nat) (E0:Env):
  ∀{E:Env} {H:Heap} {Q:Post} (inner:List Nat),inner.length=n→(∀a∈inner,a<M)→addR M row n 0 inner=fin→
   (∀t,t∉[58,59,60,61,62,13,14,63,64,65,66,67,68,69,70,71,72,73,74]→E t=E0 t)→E 58= .int .i64 0→E0 57= .int .i64 n→E0 56= .vec (ints row) n cr→E0 9= .sl 2 0 n 1 (some n)→E0 1= .int .i64 M→
   H=[some cts,some xs,some (ints inner)]→
   (∀E',(∀t,t∉[58,59,60,61,62,13,14,63,64,65,66,67,68,69,70,71,72,73,74]→E' t=E0 t)→Q (.exit 2) E' [some cts,some xs,some (ints fin)])→
   W Tryz.prog G 0 nt (.loop l28_1) E H Q:=by
 intro E H Q inner hil hin hfin hE h58 h57 h56 h9 h1 hH hQ
 refine zal (fun k E H=>∃j inner,j+k=n∧inner.length=n∧(∀a∈inner,a<M)∧addR M row k j inner=fin∧
  (∀t,t∉[58,59,60,61,62,13,14,63,64,65,66,67,68,69,70,71,72,73,74]→E t=E0 t)∧E 58= .int .i64 (j:Int)∧H=[some cts,some xs,some (ints inner)]) ⟨0,inner,by omega,hil,hin,hfin,hE,h58,hH⟩ ?_
 rintro k E H ⟨j,inner,hjk,hil,hin,hfin,hE,h58,rfl⟩
 refine zaf zah ?_
 have e57:E 57= .int .i64 n:=(hE 57 (by decide)).trans h57
 have e56:E 56= .vec (ints row) n cr:=(hE 56 (by decide)).trans h56
 have e9:E 9= .sl 2 0 n 1 (some n):=(hE 9 (by decide)).trans h9
 have e1:E 1= .int .i64 M:=(hE 1 (by decide)).trans h1
 simp only [l28_1,r28_12,SS,reduceIte,h58,e57]
 have hup:∀(E':Env) (d:Nat) (v:AV),d∈[58,59,60,61,62,13,14,63,64,65,66,67,68,69,70,71,72,73,74]→(∀t,t∉[58,59,60,61,62,13,14,63,64,65,66,67,68,69,70,71,72,73,74]→E' t=E0 t)→
   ∀t,t∉[58,59,60,61,62,13,14,63,64,65,66,67,68,69,70,71,72,73,74]→upd E' d v t=E0 t:=by
  intro E' d v hd h t ht
  unfold upd
  rw [if_neg (fun e:t=d=>ht (by rw [e];exact hd))]
  exact h t ht
 refine ⟨fun hlt=>?_,fun hnl=>?_⟩
 ·have hj:j<n:=by omega
  have hij:inner.getD j 0<M:=by
   rw [qX,qY (by omega)]
   exact hin _ (xZ _)
  have hrj:row.getD j 0<M:=by
   rw [qX,qY (by omega)]
   exact hrow _ (xZ _)
  have gi:=zct inner j (by omega) AV.junk
  have gr:=zct row j (by omega) AV.junk
  have w1:IntKind.i64.wrap (((inner.getD j 0:Nat):Int)+((row.getD j 0:Nat):Int))=((inner.getD j 0+row.getD j 0:Nat):Int):=by
   rw [←xV];exact zet (by omega)
  have w2:IntKind.i64.wrap ((j:Int)+1)=((j+1:Nat):Int):=by
   have:((j:Int)+1)=((j+1:Nat):Int):=by omega
   rw [this];exact zet (by omega)
  have w3:Int.tmod ((inner.getD j 0+row.getD j 0:Nat):Int) (M:Int)=(((inner.getD j 0+row.getD j 0)%M:Nat):Int):=rfl
  simp only [r28_13,r28_14,r28_15,SS,forall_const,reduceIte,qQ,h58,e56,e9,e1,qK,gi,gr,zdp,w1,w2,w3,zif]
  refine ⟨⟨by omega,hlt⟩,by omega,⟨by omega,hlt⟩,by omega,by omega,⟨by omega,hlt⟩,by omega,?_⟩
  obtain ⟨k',rfl⟩:∃k',k=k'+1:=⟨k-1,by omega⟩
  refine ⟨k',_,_,by omega,⟨j+1,inner.set j ((inner.getD j 0+row.getD j 0)%M),by omega,by simp [hil],?_,hfin,?_,rfl,rfl⟩,.refl⟩
  ·intro a ha
   rcases xB ha with h | h
   ·exact hin a h
   ·subst h;exact qB _ hM
  ·repeat (refine hup _ _ _ (by decide) ?_)
   exact hE
 ·have hj:j=n:=by omega
  have hk:k=0:=by omega
  subst hk
  have:inner=fin:=hfin
  subst this
  exact hQ _ (hup _ _ _ (by decide) hE)
structure PE (n M:Nat) (rows:List AV) (cg:Option Nat) (v5 v7:AV) (E:Env):Prop where
 e1:E 1= .int .i64 M
 e5:E 5=v5
 e7:E 7=v7
 e8:E 8= .sl 1 0 n 1 (some n)
 e9:E 9= .sl 2 0 n 1 (some n)
 e35:E 35= .vec rows n cg
 e36:E 36= .int .i64 n
theorem zrk {l:List Nat} {M i:Nat} (h:∀a∈l,a<M) (hi:i<l.length):l.getD i 0<M:=by
 rw [qX,qY hi]
 exact h _ (xZ _)
theorem zyi {l:List Nat} {M i b:Nat} (h:∀a∈l,a<M) (hb:b<M):∀a∈l.set i b,a<M:=by
 intro a ha
 rcases xB ha with h' | h'
 ·exact h a h'
 ·subst h';exact hb
theorem qsu {M:Nat} (hM:0<M) (row:List Nat):∀(k j:Nat) (l:List Nat),(∀a∈l,a<M)→(addR M row k j l).length=l.length∧∀a∈addR M row k j l,a<M:=by
 intro k
 induction k with
 | zero=>intro j l h;exact ⟨rfl,h⟩
 | succ k ih=>
  intro j l h
  obtain ⟨h1,h2⟩:=ih (j+1) (l.set j ((l.getD j 0+row.getD j 0)%M)) (zyi h (qB _ hM))
  exact ⟨h1.trans (by simp),h2⟩
theorem qxq {nt n M:Nat} (hM:0<M) (hM2:M<2^40) (hn:n<2^20) {g:List (List Nat)} {rows:List AV} {cg:Option Nat} (hrl:rows.length=n) (hrows:∀i,i<n→∃c,rows[i]?=some (.vec (ints (g.getD i [])) n c))
  (hgl:∀i,i<n→(g.getD i []).length=n) (hgM:∀i,i<n→∀a∈g.getD i [],a<M) (v5 v7:AV) (cts:List AV) (res:Option (Nat×List Nat×List Nat))
  {E:Env} {H:Heap} {Q:Post} (norm:Nat) (inner x:List Nat) (hno:norm<M) (hil:inner.length=n) (hin:∀a∈inner,a<M) (hxl:x.length=n) (hx:∀a∈x,a<M) (hres:bump g n M n 0 norm inner x=res)
  (hE:PE n M rows cg v5 v7 E) (h37:E 37= .int .i64 0) (h10:E 10= .int .i64 norm) (hH:H=[some cts,some (ints x),some (ints inner)])
  (hQ1:res=none→∀E' a b,PE n M rows cg v5 v7 E'→Q (.exit 0) E' [some cts,some a,some b])
  (hQ2:∀norm' inner' x',res=some (norm',inner',x')→norm'<M→inner'.length=n→(∀a∈inner',a<M)→x'.length=n→(∀a∈x',a<M)→∀E',PE n M rows cg v5 v7 E'→E' 10= .int .i64 (norm':Int)→
   Q (.goto 0) E' [some cts,some (ints x'),some (ints inner')]):
  W Tryz.prog G 0 nt (.loop l28_0) E H Q:=by
 refine zal (fun k E H=>∃i norm inner x,i+k=n∧norm<M∧inner.length=n∧(∀a∈inner,a<M)∧x.length=n∧(∀a∈x,a<M)∧bump g n M k i norm inner x=res∧PE n M rows cg v5 v7 E∧
  E 37= .int .i64 (i:Int)∧E 10= .int .i64 (norm:Int)∧H=[some cts,some (ints x),some (ints inner)]) ⟨0,norm,inner,x,by omega,hno,hil,hin,hxl,hx,hres,hE,h37,h10,hH⟩ ?_
 rintro k E H ⟨i,norm,inner,x,hik,hno,hil,hin,hxl,hx,hres,hE,h37,h10,rfl⟩
 refine zaf zah ?_
 obtain ⟨e1,e5,e7,e8,e9,e35,e36⟩:=hE
 simp only [l28_0,r28_8,SS,reduceIte,h37,e36]
 refine ⟨fun hlt=>?_,fun hnl=>?_⟩
 ·have hi:i<n:=by omega
  obtain ⟨k',rfl⟩:∃k',k=k'+1:=⟨k-1,by omega⟩
  obtain ⟨cr,hr⟩:=hrows i hi
  have hrD:rows.getD i AV.junk= .vec (ints (g.getD i [])) n cr:=by rw [qX,hr];rfl
  have gi:=zct inner i (by omega) AV.junk
  have gr:=zct (g.getD i []) i (by rw [hgl i hi];exact hi) AV.junk
  have bi:=zrk hin (i:=i) (by omega)
  have br:=zrk (hgM i hi) (i:=i) (by rw [hgl i hi];exact hi)
  have w1:IntKind.i64.wrap (2*((inner.getD i 0:Nat):Int))=((2*inner.getD i 0:Nat):Int):=by
   have:(2*((inner.getD i 0:Nat):Int))=((2*inner.getD i 0:Nat):Int):=by omega
   rw [this];exact zet (by omega)
  have w2:IntKind.i64.wrap ((norm:Int)+((2*inner.getD i 0:Nat):Int))=((norm+2*inner.getD i 0:Nat):Int):=by
   rw [←xV];exact zet (by omega)
  have w3:IntKind.i64.wrap (((norm+2*inner.getD i 0:Nat):Int)+(((g.getD i []).getD i 0:Nat):Int))=((norm+2*inner.getD i 0+(g.getD i []).getD i 0:Nat):Int):=by
   rw [←xV];exact zet (by omega)
  have w4:Int.tmod ((norm+2*inner.getD i 0+(g.getD i []).getD i 0:Nat):Int) (M:Int)=(((norm+2*inner.getD i 0+(g.getD i []).getD i 0)%M:Nat):Int):=rfl
  simp only [r28_9,r28_10,r28_11,SS,forall_const,reduceIte,qQ,h37,h10,e1,e9,e35,qK,hrD,gi,gr,zdp,hrl,hil,hgl i hi,w1,w2,w3,w4]
  refine ⟨⟨by omega,hlt⟩,by omega,⟨by omega,hlt⟩,by omega,⟨by omega,hlt⟩,by omega,by omega,rfl,?_⟩
  refine qxp hM hM2 hn (hgl i hi) (hgM i hi) cts (ints x) (addR M (g.getD i []) n 0 inner) _ inner hil hin rfl (fun _ _=>rfl) rfl rfl rfl e9 e1 rfl ?_
  intro E' hE'
  have f1:E' 1= .int .i64 M:=(hE' 1 (by decide)).trans e1
  have f5:E' 5=v5:=(hE' 5 (by decide)).trans e5
  have f7:E' 7=v7:=(hE' 7 (by decide)).trans e7
  have f8:E' 8= .sl 1 0 n 1 (some n):=(hE' 8 (by decide)).trans e8
  have f9:E' 9= .sl 2 0 n 1 (some n):=(hE' 9 (by decide)).trans e9
  have f35:E' 35= .vec rows n cg:=(hE' 35 (by decide)).trans e35
  have f36:E' 36= .int .i64 n:=(hE' 36 (by decide)).trans e36
  have f37:E' 37= .int .i64 (i:Int):=(hE' 37 (by decide)).trans h37
  have f10:E' 10= .int .i64 (((norm+2*inner.getD i 0+(g.getD i []).getD i 0)%M:Nat):Int):=(hE' 10 (by decide)).trans rfl
  have f11:E' 11= .int .i64 (i:Int):=(hE' 11 (by decide)).trans rfl
  clear hE'
  have gx:=zct x i (by omega) AV.junk
  have bx:=zrk hx (i:=i) (by omega)
  have gx2:=zct (x.set i (x.getD i 0+1)) i (by simp;omega) AV.junk
  have hx2:(x.set i (x.getD i 0+1)).getD i 0=x.getD i 0+1:=by
   rw [qX,qO (by omega)];rfl
  rw [hx2] at gx2
  have w5:IntKind.i64.wrap (((x.getD i 0:Nat):Int)+1)=((x.getD i 0+1:Nat):Int):=by
   have:(((x.getD i 0:Nat):Int)+1)=((x.getD i 0+1:Nat):Int):=by omega
   rw [this];exact zet (by omega)
  have w6:IntKind.i64.wrap ((i:Int)+1)=((i+1:Nat):Int):=by
   have:((i:Int)+1)=((i+1:Nat):Int):=by omega
   rw [this];exact zet (by omega)
  have z0:AV.int .i64 0=AV.int .i64 ((0:Nat):Int):=rfl
  obtain ⟨ral,ram⟩:=qsu hM (g.getD i []) n 0 inner hin
  simp only [bump] at hres
  simp only [r28_16,r28_17,r28_18,r28_19,SS,forall_const,reduceIte,qQ,f1,f8,f11,f37,qK,gx,zdp,hxl,w5,w6,zif,gx2,List.length_set,z0]
  refine ⟨⟨by omega,hlt⟩,by omega,⟨by omega,hlt⟩,by omega,⟨by omega,hlt⟩,by omega,fun hl=>?_,fun hl=>?_⟩
  ·have hl':x.getD i 0+1<M:=by omega
   rw [if_pos hl'] at hres
   refine hQ2 _ _ _ hres.symm (qB _ hM) (ral.trans hil) ram (by simp [hxl]) (zyi hx (by omega)) _ ⟨?_,?_,?_,?_,?_,?_,?_⟩ ?_<;>simp only [zaa,qQ,if_false, *]
  ·have hl':¬x.getD i 0+1<M:=by omega
   rw [if_neg hl'] at hres
   refine ⟨⟨by omega,hlt⟩,by omega,?_⟩
   refine ⟨k',_,_,by omega,⟨i+1,_,_,_,by omega,qB _ hM,ral.trans hil,ram,by simp [hxl],(by rw [List.set_set];exact zyi hx hM),hres,⟨?_,?_,?_,?_,?_,?_,?_⟩,?_,?_,rfl⟩,.refl⟩<;>simp only [zaa,qQ,reduceIte,if_false, *]
 ·have hi:i=n:=by omega
  have hk:k=0:=by omega
  subst hk
  refine hQ1 hres.symm _ _ _ ⟨?_,?_,?_,?_,?_,?_,?_⟩<;>simp only [zaa,qQ,if_false, *]
def J79 (g:List (List Nat)) (n M F:Nat) (rows:List AV) (cg:Option Nat) (fin:List Nat) (f:Nat) (E:Env) (H:Heap):Prop:=
 ∃cts norm inner x,cts.length=M∧(∀a∈cts,a<F-f+1)∧f≤F∧norm<M∧inner.length=n∧(∀a∈inner,a<M)∧x.length=n∧(∀a∈x,a<M)∧runC g n M f cts norm inner x=some fin∧
  E 1= .int .i64 (M:Int)∧E 5= .vec rows n cg∧E 7= .sl 0 0 M 1 (some M)∧E 8= .sl 1 0 n 1 (some n)∧E 9= .sl 2 0 n 1 (some n)∧E 10= .int .i64 (norm:Int)∧H=[some (ints cts),some (ints x),some (ints inner)]
theorem qox {g:List (List Nat)} {n M F:Nat} {rows:List AV} {cg:Option Nat} {fin:List Nat} (hM:0<M) (hM2:M<2^40) (hn:n<2^20) (hF:F<2^60)
  (hrl:rows.length=n) (hrows:∀i,i<n→∃c,rows[i]?=some (.vec (ints (g.getD i [])) n c)) (hgl:∀i,i<n→(g.getD i []).length=n) (hgM:∀i,i<n→∀a∈g.getD i [],a<M)
  {f:Nat} {E:Env} {H:Heap} (hJ:J79 g n M F rows cg fin f E H) {Jp:Env→Heap→Prop} {Q:Post} (h1:∀f' E' H',f'<f→J79 g n M F rows cg fin f' E' H'→Jp E' H')
  (h2:∀E' a b,E' 4= .sl 0 0 M 1 (some M)→Q .ret E' [some (ints fin),some a,some b]):
  wpC Tryz.prog G 0 92 (.seq (.reg r28_6 none) (.seq (.seq (.reg r28_7 none) (.block 0 (.loop l28_0))) (.seq (.reg r28_20 none) .ret))) E H (qqx 0 Jp Q):=by
 obtain ⟨cts,norm,inner,x,hcl,hcb,hfF,hno,hil,hin,hxl,hx,hrun,e1,e5,e7,e8,e9,e10,rfl⟩:=hJ
 cases f with
 | zero=>simp [runC] at hrun
 | succ f=>
  have gc:=zct cts norm (by omega) AV.junk
  have bc:=zrk hcb (i:=norm) (by omega)
  have w1:IntKind.i64.wrap (((cts.getD norm 0:Nat):Int)+1)=((cts.getD norm 0+1:Nat):Int):=by
   have:(((cts.getD norm 0:Nat):Int)+1)=((cts.getD norm 0+1:Nat):Int):=by omega
   rw [this];exact zet (by omega)
  simp only [r28_6,r28_7,r28_20,SS,forall_const,reduceIte,qQ,e7,e10,e5,qK,gc,w1,zdp,hcl,zif]
  refine ⟨⟨by omega,by omega⟩,by omega,⟨by omega,by omega⟩,by omega,?_⟩
  refine qxq hM hM2 hn hrl hrows hgl hgM (.vec rows n cg) (.sl 0 0 M 1 (some M)) (ints (cts.set norm (cts.getD norm 0+1))) (bump g n M n 0 norm inner x) norm inner x hno hil hin hxl hx rfl
   ⟨e1,e5,e7,e8,e9,rfl,rfl⟩ rfl e10 rfl ?_ ?_
  ·intro hb E' a b hE'
   simp only [runC,hb] at hrun
   have hfin:cts.set norm (cts.getD norm 0+1)=fin:=Option.some.inj hrun
   rw [hfin]
   exact h2 _ _ _ hE'.e7
  ·intro norm' inner' x' hb q1 q2 q3 q4 q5 E' hE' q6
   simp only [runC,hb] at hrun
   refine ⟨rfl,h1 f E' _ (by omega) ⟨_,norm',inner',x',?_,?_,by omega,q1,q2,q3,q4,q5,hrun,hE'.e1,hE'.e5,hE'.e7,hE'.e8,hE'.e9,q6,rfl⟩⟩
   ·simp [hcl]
   ·refine zyi (fun a ha=>?_) (by omega)
    have:=hcb a ha
    omega
theorem znp {g:List (List Nat)} {n M F:Nat} {hs rows:List AV} {ch cg:Option Nat} {kd:IntKind} {en:Int} {fin:List Nat} (hM:0<M) (hM2:M<2^40) (hn:n<2^20) (hF:F<2^60)
  (hres:Ret Tryz.prog G 72 [.vec hs n ch,.int .i64 (M:Int)] [] (.tup [.vec rows n cg,.int kd en]) [])
  (hrl:rows.length=n) (hrows:∀i,i<n→∃c,rows[i]?=some (.vec (ints (g.getD i [])) n c)) (hgl:∀i,i<n→(g.getD i []).length=n) (hgM:∀i,i<n→∀a∈g.getD i [],a<M)
  (hrun:runC g n M F (List.replicate M 0) 0 (List.replicate n 0) (List.replicate n 0)=some fin) (hfl:fin.length=M):
  Ret Tryz.prog G 28 [.vec hs n ch,.int .i64 (M:Int)] [] (.vec (ints fin) M (some M)) []:=by
 refine zai zah Tryz.func28 comp28 _ 92 res28 nt28 (by simp) (by simp) ?_
 simp only [c28,r28_0,SS]
 have hrep:∀k:Nat,List.replicate k (AV.int IntKind.i64 0)=ints (List.replicate k 0):=by intro k;simp [ints]
 have hfinal:∀(E':Env) (a b:List AV),E' 4= .sl 0 0 M 1 (some M)→(fun (x:Exit) (E':Env) (H':Heap)=>(x=Exit.ret∨x=Exit.normal)∧∃v',resA Tryz.prog [ResultVar.tmp 4] E' H'=some v'∧AL.Fin 0 v' H' (AV.vec (ints fin) M (some M)) []) .ret E' [some (ints fin),some a,some b]:=by
  intro E' a b h4
  refine ⟨.inl rfl,.sl 0 0 M 1 (some M),by simp [resA,zgr,h4],.freeze 2 _ _ _ ?_ (by intro i cs h;omega)⟩
  have hm:∀l:List Nat,(ints l).mapM (frzI 0 [some (ints fin),some a,some b] 1)=some (ints l):=by
   intro l
   induction l with
   | nil=>rfl
   | cons y l ih=>
    have:ints (y::l)= .int .i64 (y:Int)::ints l:=rfl
    rw [this,List.mapM_cons,ih]
    rfl
  have e:frzI 0 [some (ints fin),some a,some b] 2 (.sl 0 0 M 1 (some M))=need (0+M*1≤(ints fin).length) (((((ints fin).drop 0).take (M*1)).mapM (frzI 0 [some (ints fin),some a,some b] 1)).map fun l=> .vec l M (some M)):=rfl
  have ht:((ints fin).drop 0).take (M*1)=ints fin:=by rw [List.drop_zero,qP (by rw [zdp,hfl];omega)]
  rw [e,ht,hm]
  unfold need
  rw [if_pos (by rw [zdp,hfl];omega)]
  rfl
 refine qem 0 (fun f E H=>J79 g n M F rows cg fin f E H) rfl ?_ ?_
 ·refine zaf zah ?_
  simp only [r28_1,r28_2,r28_3,r28_4,r28_5,SS,reduceCtorEq,reduceIte,qQ]
  refine zab hres ?_
  simp only [SS,reduceCtorEq,reduceIte,Nat.reduceAdd,qQ,qK,qW,qV,hrep]
  refine ⟨by omega,⟨by omega,by omega,by omega,by omega⟩,by omega,⟨by omega,by omega,by omega,by omega⟩,by omega,⟨by omega,by omega,by omega,by omega⟩,?_⟩
  have zr:∀(k B:Nat),0<B→∀a∈List.replicate k 0,a<B:=by
   intro k B hB a ha
   rw [xU] at ha
   omega
  refine qox (f:=F) (E:=_) (H:=_) hM hM2 hn hF hrl hrows hgl hgM ⟨List.replicate M 0,0,List.replicate n 0,List.replicate n 0,by simp,zr _ _ (by omega),qA _,hM,by simp,zr _ _ hM,by simp,zr _ _ hM,hrun,rfl,rfl,rfl,rfl,rfl,rfl,rfl⟩
   (fun f' E' H' hlt h=>⟨f',E',H',h,.refl⟩) hfinal
 ·intro f E H hJ
  refine zaf zah ?_
  exact qox hM hM2 hn hF hrl hrows hgl hgM hJ (fun f' E' H' hlt h=>⟨f',E',H',hlt,h,.refl⟩) hfinal
end Go.Proofs.YtpflahgcdgdkjaaGreatDoor
namespace Go.Proofs.YtpflahgcdgdkjaaGreatDoor
open Nat renaming reduceEqDiff → qQ, pow_le_pow_right → qC, pow_succ → qR
open List renaming getD_cons_succ → qZ, getElem?_cons_zero → qW, getElem?_cons_succ → qV, getD_cons_zero → qU
open Go.AL.AV.closed renaming closedL → qJ
open Int renaming natCast_mul → xY
set_option linter.unusedSimpArgs false
set_option linter.unusedVariables false
open Go Go.AL Go.Proofs
set_option maxRecDepth 100000
theorem zwb {p e:Nat} (hp:1≤p) (h:p^e≤2097152) (he:e<2^40):Ret Tryz.prog G 27 [.int .i64 (p:Int),.int .i64 (e:Int)] [] (.tup [.int .i64 ((p^e:Nat):Int),.bool true]) []:=by
 have hle:∀i,i≤e→p^i≤2097152:=fun i hi=>Nat.le_trans (qC hp hi) h
 refine zai zah Tryz.func27 comp27 _ 17 res27 nt27 (by simp) (by simp) ?_
 simp only [c27,r27_0,r27_1,r27_2,SS,reduceCtorEq,reduceIte,qQ]
 refine zal (fun q E H=>∃i:Nat,i+q=e∧H=[]∧E 0= .int .i64 (p:Int)∧E 6= .int .i64 ((p^i:Nat):Int)∧E 7= .int .i64 (e:Int)∧E 8= .int .i64 (i:Int)) (n:=e)
  ⟨0,by omega,rfl,by simp only [zaa,zac,qU,qQ,if_false],by simp only [zaa,zac,qZ,qQ,reduceIte,if_false];rfl,by simp only [zaa,zac,qZ,qQ,reduceIte,if_false],by simp only [zaa,zac,qZ,qQ,reduceIte,if_false];rfl⟩ ?_
 rintro q E H ⟨i,hiq,rfl,e0,e6,e7,e8⟩
 refine zaf zah ?_
 simp only [l27_0,r27_3,SS,reduceCtorEq,reduceIte,e7,e8]
 refine ⟨fun hlt=>?_,fun hge=>?_⟩
 ·obtain ⟨q,rfl⟩:∃q',q=q'+1:=⟨q-1,by omega⟩
  have hs:=hle (i+1) (by omega)
  have em:((p^i:Nat):Int)*(p:Int)=((p^(i+1):Nat):Int):=by rw [qR];exact (xY _ _).symm
  have w5:IntKind.i64.wrap ((i:Int)+1)=((i+1:Nat):Int):=by rw [show (i:Int)+1=((i+1:Nat):Int) by omega];exact zet (by omega)
  have w6:IntKind.i64.wrap ((p^(i+1):Nat):Int)=((p^(i+1):Nat):Int):=zet (by omega)
  simp only [r27_4,r27_5,r27_6,r27_7,SS,reduceCtorEq,reduceIte,qQ,e0,e6,e8,em,w5,w6]
  refine ⟨fun hgt=>absurd hgt (by omega),fun _=>⟨q,_,_,by omega,⟨i+1,by omega,rfl,?_,?_,?_,?_⟩,.refl⟩⟩
  all_goals simp only [zaa,qQ,reduceIte,if_false, *]
 ·have hie:i=e:=by omega
  subst hie
  simp only [r27_8,SS,reduceIte,qQ,e6]
  exact ⟨.inl trivial,_,rfl,.keep _ _⟩
theorem qmk {hs:List AV} {ch:Option Nat} {n p e:Nat} {v:AV} (hcl:(AV.vec hs n ch).closed=true) (hchk:Ret Tryz.prog G 26 [.vec hs n ch,.int .i64 (p:Int)] [] (.int .i64 0) [])
  (hp:1≤p) (he:1≤e) (he2:e<2^40) (hn:1≤n) (hn2:n<2^40) (hpow:(p^e)^n≤2097152) (hcnt:Ret Tryz.prog G 28 [.vec hs n ch,.int .i64 ((p^e:Nat):Int)] [] v []) (hv:v.closed=true):
  Ret Tryz.prog G 11 [.vec hs n ch,.int .i64 (p:Int),.int .i64 (e:Int)] [] (.tup [v,.int .i64 0]) []:=by
 have h1:1≤p^e:=Nat.one_le_pow _ _ hp
 have hpe:p^e≤2097152:=Nat.le_trans (by have:=qC (n:=p^e) h1 hn;rwa [Nat.pow_one] at this) hpow
 have t1:=zwb hp hpe he2
 have t2:=zwb h1 hpow hn2
 have c0:qJ [.vec hs n ch,.int .i64 (p:Int)]=true:=by simp only [qJ,hcl];rfl
 have c1:qJ [.vec hs n ch,.int .i64 ((p^e:Nat):Int)]=true:=by simp only [qJ,hcl];rfl
 refine zai zah Tryz.func11 comp11 _ 41 res11 nt11 (by simp) (by simp) ?_
 simp only [c11,r11_0,r11_1,SS,reduceCtorEq,reduceIte,qQ]
 refine zab hchk ?_ c0
 simp only [zba,SS,reduceIte,qQ]
 simp only [r11_2,SS,reduceIte,qQ]
 refine ⟨fun hne=>absurd rfl hne,fun _=>?_⟩
 simp only [r11_4,SS,reduceIte,qQ]
 refine ⟨fun hlt=>absurd hlt (by omega),fun _=>?_⟩
 simp only [r11_6,SS,reduceIte,qQ]
 refine zab t1 ?_
 simp only [zba,SS,reduceIte,qQ,qW,qV]
 simp only [r11_7,r11_9,SS,forall_const,reduceCtorEq,reduceIte,qQ]
 refine zab t2 ?_
 simp only [zba,SS,reduceIte,qQ,qW,qV]
 simp only [r11_10,r11_12,SS,forall_const,reduceCtorEq,reduceIte,qQ]
 refine zab hcnt ?_ c1 hv
 simp only [zba,SS,reduceIte,qQ]
 exact ⟨.inl trivial,_,rfl,.keep _ _⟩
end Go.Proofs.YtpflahgcdgdkjaaGreatDoor
namespace Go.Count
open Nat renaming mod_lt → qB
open List renaming countP_cons → yJ
set_option linter.unusedSimpArgs false
set_option linter.unusedVariables false
theorem qgo (f:List Nat→Nat) (P:Nat→Bool) (M:Nat):∀l:List (List Nat),(∀y∈l,f y<M)→sumN (fun i=>if P i=true then l.countP (fun y=>decide (f y=i)) else 0) M=l.countP fun y=>P (f y):=by
 intro l
 induction l with
 | nil=>intro _;exact zfy fun i _=>by simp
 | cons y l ih=>
  intro h
  rw [yJ,←ih (fun z hz=>h z (by simp [hz]))]
  have e:sumN (fun i=>if P i=true then (y::l).countP (fun y=>decide (f y=i)) else 0) M=sumN (fun i=>(if P i=true then l.countP (fun y=>decide (f y=i)) else 0)+(if f y=i∧P i=true then 1 else 0)) M:=by
   refine zdo fun i _=>?_
   rw [yJ]
   by_cases hp:P i=true
   ·by_cases hf:f y=i
    ·simp [hp,hf]
    ·simp [hp,hf]
   ·simp [hp]
  rw [e,zie]
  congr 1
  rw [zrj (h y (by simp)) (f:=fun i=>if f y=i∧P i=true then 1 else 0) (fun j _ hne=>if_neg (fun e=>hne e.1.symm))]
  by_cases hp:P (f y)=true
  ·simp [hp]
  ·simp [hp]
theorem total {g:List (List Nat)} {n M:Nat} (hM:0<M) {ca:List Nat} (ha:∀t,ca.getD t 0=(allV M n).countP fun y=>decide (nrm g n y%M=t)):sumN (fun i=>ca.getD i 0) M=M^n:=by
 have e1:sumN (fun i=>ca.getD i 0) M=sumN (fun i=>if (true=true) then (allV M n).countP (fun y=>decide (nrm g n y%M=i)) else 0) M:=zdo fun i _=>by rw [ha];simp
 rw [e1,qgo (fun y=>nrm g n y%M) (fun _=>true) M _ (fun y _=>qB _ hM)]
 simp [allV_len]
end Go.Count
namespace Go.Proofs.YtpflahgcdgdkjaaGreatDoor
open List renaming getD_eq_getElem?_getD → qX, getElem?_map → xT
open Int renaming toNat_of_nonneg → xO, emod_lt_of_pos → xS, emod_nonneg → yA
open Option renaming getD_some → xE
set_option linter.unusedSimpArgs false
set_option linter.unusedVariables false
open Go Go.AL Go.Proofs
set_option maxRecDepth 100000
def gN (n:Nat) (M:List (List Int)) (m:Nat):List (List Nat):=(modM n M (m:Int)).map fun r=>r.map Int.toNat
theorem zyj (n:Nat) (M:List (List Int)) (m i:Nat):(gN n M m).getD i []=((modM n M (m:Int)).getD i []).map Int.toNat:=by
 unfold gN
 rw [qX,xT,qX]
 cases (modM n M (m:Int))[i]?<;>rfl
theorem qgp {n:Nat} {M:List (List Int)} {m i j:Nat}:Count.ent (gN n M m) i j=(ent (modM n M (m:Int)) i j).toNat:=by
 unfold Count.ent
 rw [zyj]
 unfold ent
 generalize (modM n M (m:Int)).getD i []=r
 rw [qX,xT,qX]
 cases r[j]?<;>rfl
theorem qgq {r:List Int} (h:∀z∈r,0≤z):i64z r=ints (r.map Int.toNat):=by
 unfold i64z ints
 rw [List.map_map]
 refine List.map_congr_left fun z hz=>?_
 show AV.int .i64 z= .int .i64 ((z.toNat:Nat):Int)
 rw [xO (h z hz)]
theorem zyk {n:Nat} {M:List (List Int)} {m i:Nat} (hm:0<m):∀z∈(modM n M (m:Int)).getD i [],0≤z∧z<m:=by
 intro z hz
 rw [qX] at hz
 cases h:(modM n M (m:Int))[i]? with
 | none=>rw [h] at hz;simp at hz
 | some r=>
  rw [h,xE] at hz
  have hr:r∈modM n M (m:Int):=List.mem_of_getElem? h
  unfold modM mkM at hr
  obtain ⟨i',_,rfl⟩:=List.mem_map.1 hr
  obtain ⟨j',_,rfl⟩:=List.mem_map.1 hz
  exact ⟨yA _ (by omega),xS _ (by omega)⟩
end Go.Proofs.YtpflahgcdgdkjaaGreatDoor
namespace Go.Count
open Nat renaming mod_lt → qB
open List renaming getD_eq_getElem?_getD → qX, getElem?_replicate → xG, reverse_cons → yQ
set_option linter.unusedSimpArgs false
set_option linter.unusedVariables false
theorem ztp (f:Nat→Nat→Nat) (M:Nat):∀K,sumN (fun a=>sumN (fun b=>f a b) M) K=sumN (fun b=>sumN (fun a=>f a b) K) M:=by
 intro K
 induction K with
 | zero=>exact (zfy fun _ _=>rfl).symm
 | succ K ih=>
  show sumN _ K+sumN (fun b=>f K b) M=_
  rw [ih,←zie]
  rfl
theorem zwc (M:Nat):∀(n:Nat) (P:List Nat→Bool),(allV M (n+1)).countP P=sumN (fun a=>(allV M n).countP fun r=>P (r++[a])) M:=by
 intro n
 induction n with
 | zero=>intro P;exact zgn P M _
 | succ n ih=>
  intro P
  have e1:(allV M (n+1+1)).countP P=sumN (fun a=>(allV M (n+1)).countP fun r=>P (a::r)) M:=zgn P M _
  rw [e1]
  have e2:sumN (fun a=>(allV M (n+1)).countP fun r=>P (a::r)) M=sumN (fun a=>sumN (fun b=>(allV M n).countP fun r=>P (a::(r++[b]))) M) M:=zdo fun a _=>ih fun r=>P (a::r)
  rw [e2,ztp]
  refine zdo fun b _=>?_
  exact (zgn (fun r=>P (r++[b])) M _).symm
theorem qbd (M:Nat):∀(n:Nat) (P:List Nat→Bool),(allV M n).countP (fun y=>P y.reverse)=(allV M n).countP P:=by
 intro n
 induction n with
 | zero=>intro P;rfl
 | succ n ih=>
  intro P
  rw [zwc M n P]
  have e1:(allV M (n+1)).countP (fun y=>P y.reverse)=sumN (fun a=>(allV M n).countP fun r=>P (a::r).reverse) M:=zgn (fun y=>P y.reverse) M _
  rw [e1]
  refine zdo fun a _=>?_
  simp only [yQ]
  exact ih fun r=>P (r++[a])
theorem nrm_rows (g:List (List Nat)) (n:Nat) (x:List Nat):nrm g n x=sumN (fun i=>sumN (fun j=>ent g i j*x.getD i 0*x.getD j 0) n) n:=by
 rw [ztp]
 unfold nrm gx
 exact zdo fun j _=>(qmf _ _ _).symm
theorem acc_mod {a b c d m:Nat}:(a%m+b*c%m*d)%m=(a+b*c*d)%m:=by
 rw [Nat.add_mod,Nat.mod_mod,Nat.mul_mod,Nat.mod_mod,←Nat.mul_mod,←Nat.add_mod]
theorem ref_fin {g:List (List Nat)} {n M:Nat} (hM:0<M):((allV M n).foldl (fun c y=>tally c (nrm g n y.reverse%M)) (List.replicate M 0)).length=M∧∀t,((allV M n).foldl (fun c y=>tally c (nrm g n y.reverse%M)) (List.replicate M 0)).getD t 0=(allV M n).countP fun y=>decide (nrm g n y%M=t):=by
 obtain ⟨h1,h2⟩:=zno (fun y=>nrm g n y.reverse%M) M (allV M n) (List.replicate M 0) (by simp) (fun y _=>qB _ hM)
 refine ⟨h1,fun t=>?_⟩
 have h3:=h2 t
 rw [←qbd M n fun y=>decide (nrm g n y%M=t)]
 rw [h3]
 have:(List.replicate M 0).getD t 0=0:=by
  rw [qX,xG];split<;>rfl
 omega
end Go.Count
namespace Go.Proofs.YtpflahgcdgdkjaaGreatDoor
open Nat renaming reduceEqDiff → qQ, le_refl → qA, mod_lt → qB, pow_le_pow_right → qC, eq_zero_or_pos → qE, lt_or_ge → qL, reduceLeDiff → qM, pow_succ → qR, sub_self → qT, div_le_self → xI, mul_le_mul → xM, pow_zero → yX, pow_mul → yU
open List renaming getD_eq_getElem?_getD → qX, getD_cons_succ → qZ, getElem?_cons_zero → qW, getElem?_cons_succ → qV, getElem?_eq_getElem → qY, getD_cons_zero → qU, getElem?_append_right → qH, getElem?_set_self → qO, take_of_length_le → qP, append_assoc → qS, set_append_right → xX, getElem_mem → xZ, mem_replicate → xU, getElem?_replicate → xG, reverse_reverse → xN, reverse_append → xP, getElem_of_mem → xR, reverse_cons → yQ, length_drop → yW, ext_getElem → yV, foldl_cons → yB
open Go.AL.AV.closed renaming closedL → qJ
open Int renaming toNat_natCast → qK, toNat_zero → qD, natCast_add → xV, natCast_mul → xY, toNat_of_nonneg → xO, emod_lt_of_pos → xS, emod_nonneg → yA
open Bool renaming and_self → qG, and_eq_true → yK
open Option renaming bind_eq_some_iff → qN, getD_some → xE
open Option.some renaming injEq → xC
set_option linter.unusedSimpArgs false
set_option linter.unusedVariables false
open Go Go.AL Go.Proofs
set_option maxRecDepth 100000
section
variable {n m:Nat} {M:List (List Int)} {rows:List AV} {c:Option Nat} {cts X:List Nat}
def psum (g:List (List Nat)) (n:Nat) (X:List Nat) (i:Nat):Nat:=Count.sumN (fun i=>Count.sumN (fun j=>Count.ent g i j*X.getD i 0*X.getD j 0) n) i
def prow (g:List (List Nat)) (X:List Nat) (i j:Nat):Nat:=Count.sumN (fun j=>Count.ent g i j*X.getD i 0*X.getD j 0) j
theorem znq {l:List Nat} {i m:Nat} (h:∀a∈l,a<m) (hi:i<l.length):l.getD i 0<m:=by
 rw [qX,qY hi]
 exact h _ (xZ _)
theorem qvy (hS:Shp n M) (hIn:∀i j,In64 (ent M i j)) (hn:n≤8) (hm:0<m) (hm2:m≤2097152) (hrl:rows.length=n) (hr:∀i,i<n→∃c',rows.getD i .junk= .vec (i64z (M.getD i [])) n c') (hX:X.length=n) (hXm:∀a∈X,a<m) {i:Nat} (hi:i<n) {s0:Nat} {v5 v6 v19:AV}
  {E:Env} {Q:Post} (e0:E 0= .vec rows n c) (e1:E 1= .int .i64 (m:Int)) (e5:E 5=v5) (e6:E 6=v6) (e7:E 7= .sl 1 0 n 1 (some n)) (e8:E 8= .int .i64 ((s0%m:Nat):Int)) (e9:E 9= .int .i64 (i:Int)) (e19:E 19=v19) (e20:E 20= .int .i64 (i:Int)) (e24:E 24= .int .i64 (n:Int)) (e25:E 25= .int .i64 0)
  (hQ:∀E',E' 0= .vec rows n c→E' 1= .int .i64 (m:Int)→E' 5=v5→E' 6=v6→E' 7= .sl 1 0 n 1 (some n)→E' 8= .int .i64 (((s0+prow (gN n M m) X i n)%m:Nat):Int)→E' 19=v19→E' 20= .int .i64 (i:Int)→Q (.exit 4) E' [some (ints cts),some (ints X)]):
  W Tryz.prog G 0 88 (.loop l32_2) E [some (ints cts),some (ints X)] Q:=by
 refine zal (fun k E H=>∃j:Nat,j+k=n∧H=[some (ints cts),some (ints X)]∧E 0= .vec rows n c∧E 1= .int .i64 (m:Int)∧E 5=v5∧E 6=v6∧E 7= .sl 1 0 n 1 (some n)∧E 8= .int .i64 (((s0+prow (gN n M m) X i j)%m:Nat):Int)∧E 9= .int .i64 (i:Int)∧E 19=v19∧E 20= .int .i64 (i:Int)∧E 24= .int .i64 (n:Int)∧E 25= .int .i64 (j:Int)) (n:=n)
  ⟨0,by omega,rfl,e0,e1,e5,e6,e7,e8,e9,e19,e20,e24,e25⟩ ?_
 clear e0 e1 e5 e6 e7 e8 e9 e19 e20 e24 e25 E
 rintro k E H ⟨j,hjk,rfl,e0,e1,e5,e6,e7,e8,e9,e19,e20,e24,e25⟩
 refine zaf zah ?_
 simp only [l32_2,r32_9,SS,reduceIte,e24,e25]
 refine ⟨fun hlt=>?_,fun hge=>?_⟩
 ·obtain ⟨k,rfl⟩:∃k',k=k'+1:=⟨k-1,by omega⟩
  have hj:j<n:=by omega
  obtain ⟨c',hc'⟩:=hr i hi
  have lr:=hS.row i hi
  have gr:=zbv (M.getD i []) j (by omega) AV.junk
  have tM:=qvp (a:=ent M i j) (hIn i j) hm (by omega)
  have hg:ent M i j%(m:Int)=((Count.ent (gN n M m) i j:Nat):Int):=by
   rw [qgp]
   unfold modM
   rw [zcd hi hj,xO (yA _ (by omega))]
  rw [hg] at tM
  have hgm:Count.ent (gN n M m) i j<m:=by
   have:=xS (ent M i j) (show (0:Int)<m by omega)
   omega
  have hxi:=znq hXm (i:=i) (by omega)
  have hxj:=znq hXm (i:=j) (by omega)
  have gi:=zct X i (by omega) AV.junk
  have gj:=zct X j (by omega) AV.junk
  have hp1:Count.ent (gN n M m) i j*X.getD i 0≤2097152*2097152:=xM (by omega) (by omega)
  have hr1:=qB (Count.ent (gN n M m) i j*X.getD i 0) hm
  have hp2:Count.ent (gN n M m) i j*X.getD i 0%m*X.getD j 0≤2097152*2097152:=xM (by omega) (by omega)
  have hr2:=qB (s0+prow (gN n M m) X i j) hm
  have hsum:((s0+prow (gN n M m) X i j)%m+Count.ent (gN n M m) i j*X.getD i 0%m*X.getD j 0)%m=(s0+prow (gN n M m) X i (j+1))%m:=by
   rw [Count.acc_mod]
   unfold prow
   simp only [Count.sumN,Nat.add_assoc]
  generalize Count.ent (gN n M m) i j=g at*
  have w1:IntKind.i64.wrap ((g:Int)*((X.getD i 0:Nat):Int))=((g*X.getD i 0:Nat):Int):=by rw [←xY];exact zet (by omega)
  have t1:Int.tmod ((g*X.getD i 0:Nat):Int) (m:Int)=((g*X.getD i 0%m:Nat):Int):=rfl
  have w2:IntKind.i64.wrap (((g*X.getD i 0%m:Nat):Int)*((X.getD j 0:Nat):Int))=((g*X.getD i 0%m*X.getD j 0:Nat):Int):=by rw [←xY];exact zet (by omega)
  have w3:IntKind.i64.wrap ((((s0+prow (gN n M m) X i j)%m:Nat):Int)+((g*X.getD i 0%m*X.getD j 0:Nat):Int))=(((s0+prow (gN n M m) X i j)%m+g*X.getD i 0%m*X.getD j 0:Nat):Int):=by rw [←xV];exact zet (by omega)
  have t3:Int.tmod (((s0+prow (gN n M m) X i j)%m+g*X.getD i 0%m*X.getD j 0:Nat):Int) (m:Int)=(((s0+prow (gN n M m) X i (j+1))%m:Nat):Int):=by rw [←hsum];rfl
  have w5:IntKind.i64.wrap ((j:Int)+1)=((j+1:Nat):Int):=by rw [show (j:Int)+1=((j+1:Nat):Int) by omega];exact zet (by omega)
  have hm0:(m:Int)≠0:=by omega
  simp only [r32_10,r32_11,SS,forall_const,reduceCtorEq,reduceIte,qQ,e0,e1,e8,e9,e25,hrl,hc',lr,zax,gr,qK]
  refine ⟨⟨by omega,by omega⟩,by omega,⟨by omega,by omega⟩,by omega,?_⟩
  refine zab tM ?_
  simp only [SS,forall_const,reduceIte,qQ,e1,e7,e9,qK,gi,gj,zdp,hX,w1,t1,w2,w3,t3]
  refine ⟨⟨by omega,by omega⟩,by omega,hm0,⟨by omega,by omega⟩,by omega,hm0,rfl,?_⟩
  simp only [r32_12,SS,reduceIte,qQ,e25,w5]
  refine ⟨k,_,_,by omega,⟨j+1,by omega,rfl,?_,?_,?_,?_,?_,?_,?_,?_,?_,?_,?_⟩,.refl⟩
  all_goals simp only [zaa,qQ,reduceIte,if_false, *]
 ·obtain rfl:j=n:=by omega
  exact hQ _ (by simp only [zaa,qQ,if_false,e0]) (by simp only [zaa,qQ,if_false,e1]) (by simp only [zaa,qQ,if_false,e5]) (by simp only [zaa,qQ,if_false,e6]) (by simp only [zaa,qQ,if_false,e7]) (by simp only [zaa,qQ,if_false,e8]) (by simp only [zaa,qQ,if_false,e19]) (by simp only [zaa,qQ,if_false,e20])
theorem qsv (hS:Shp n M) (hIn:∀i j,In64 (ent M i j)) (hn:n≤8) (hm:0<m) (hm2:m≤2097152) (hrl:rows.length=n) (hr:∀i,i<n→∃c',rows.getD i .junk= .vec (i64z (M.getD i [])) n c') (hX:X.length=n) (hXm:∀a∈X,a<m) {v5 v6:AV}
  {E:Env} {Q:Post} (e0:E 0= .vec rows n c) (e1:E 1= .int .i64 (m:Int)) (e5:E 5=v5) (e6:E 6=v6) (e7:E 7= .sl 1 0 n 1 (some n)) (e8:E 8= .int .i64 0) (e19:E 19= .int .i64 (n:Int)) (e20:E 20= .int .i64 0)
  (hQ:∀E',E' 0= .vec rows n c→E' 1= .int .i64 (m:Int)→E' 5=v5→E' 6=v6→E' 7= .sl 1 0 n 1 (some n)→E' 8= .int .i64 ((Count.nrm (gN n M m) n X%m:Nat):Int)→Q (.exit 2) E' [some (ints cts),some (ints X)]):
  W Tryz.prog G 0 88 (.loop l32_1) E [some (ints cts),some (ints X)] Q:=by
 refine zal (fun k E H=>∃i:Nat,i+k=n∧H=[some (ints cts),some (ints X)]∧E 0= .vec rows n c∧E 1= .int .i64 (m:Int)∧E 5=v5∧E 6=v6∧E 7= .sl 1 0 n 1 (some n)∧E 8= .int .i64 ((psum (gN n M m) n X i%m:Nat):Int)∧E 19= .int .i64 (n:Int)∧E 20= .int .i64 (i:Int)) (n:=n)
  ⟨0,by omega,rfl,e0,e1,e5,e6,e7,by rw [e8];unfold psum;rw [show Count.sumN _ 0=0 from rfl,Nat.zero_mod];rfl,e19,e20⟩ ?_
 clear e0 e1 e5 e6 e7 e8 e19 e20 E
 rintro k E H ⟨i,hik,rfl,e0,e1,e5,e6,e7,e8,e19,e20⟩
 refine zaf zah ?_
 simp only [l32_1,r32_6,SS,reduceIte,e19,e20]
 refine ⟨fun hlt=>?_,fun hge=>?_⟩
 ·obtain ⟨k,rfl⟩:∃k',k=k'+1:=⟨k-1,by omega⟩
  have hi:i<n:=by omega
  have w5:IntKind.i64.wrap ((i:Int)+1)=((i+1:Nat):Int):=by rw [show (i:Int)+1=((i+1:Nat):Int) by omega];exact zet (by omega)
  simp only [r32_7,r32_8,SS,reduceCtorEq,reduceIte,qQ,e0,e20]
  refine qvy (c:=c) hS hIn hn hm hm2 hrl hr hX hXm hi (s0:=psum (gN n M m) n X i) (v5:=v5) (v6:=v6) (v19:= .int .i64 (n:Int)) (by simp only [zaa,qQ,if_false,e0]) (by simp only [zaa,qQ,if_false,e1]) (by simp only [zaa,qQ,if_false,e5]) (by simp only [zaa,qQ,if_false,e6]) (by simp only [zaa,qQ,if_false,e7]) (by simp only [zaa,qQ,if_false,e8]) (by simp only [zaa,qQ,reduceIte,if_false]) (by simp only [zaa,qQ,if_false,e19]) (by simp only [zaa,qQ,if_false,e20]) (by simp only [zaa,qQ,reduceIte,if_false]) (by simp only [zaa,qQ,reduceIte,if_false]) ?_
  intro E' f0 f1 f5 f6 f7 f8 f19 f20
  simp only [r32_13,SS,reduceIte,qQ,f20,w5]
  refine ⟨k,_,_,by omega,⟨i+1,by omega,rfl,?_,?_,?_,?_,?_,?_,?_,?_⟩,.refl⟩
  ·simp only [zaa,qQ,if_false,f0]
  ·simp only [zaa,qQ,if_false,f1]
  ·simp only [zaa,qQ,if_false,f5]
  ·simp only [zaa,qQ,if_false,f6]
  ·simp only [zaa,qQ,if_false,f7]
  ·simp only [zaa,qQ,if_false,f8];rfl
  ·simp only [zaa,qQ,if_false,f19]
  ·simp only [zaa,qQ,reduceIte,if_false]
 ·obtain rfl:i=n:=by omega
  refine hQ _ (by simp only [zaa,qQ,if_false,e0]) (by simp only [zaa,qQ,if_false,e1]) (by simp only [zaa,qQ,if_false,e5]) (by simp only [zaa,qQ,if_false,e6]) (by simp only [zaa,qQ,if_false,e7]) ?_
  simp only [zaa,qQ,if_false,e8]
  rw [Count.nrm_rows]
  rfl
end
section
variable {n m:Nat} {M:List (List Int)} {rows:List AV} {c:Option Nat} {cts:List Nat}
theorem qml (hn:n≤8) (hm:0<m) (hm2:m≤2097152) {X:List Nat} (hX:X.length=n) (hXm:∀a∈X,a<m) {v0 v5 v6:AV} {E:Env} {Q:Post} (e0:E 0=v0) (e1:E 1= .int .i64 (m:Int)) (e5:E 5=v5) (e6:E 6=v6) (e7:E 7= .sl 1 0 n 1 (some n)) (e11:E 11= .int .i64 ((n:Int)-1))
  (hQ0:∀E' X',Count.inc m X.reverse=none→E' 0=v0→E' 5=v5→E' 11= .int .i64 (-1)→Q (.exit 6) E' [some (ints cts),some (ints X')])
  (hQ1:∀E' P a t,P.length+1+t=n→a+1<m→(∀b∈P,b<m)→Count.inc m X.reverse=some (P++(a+1)::List.replicate t 0).reverse→E' 0=v0→E' 1= .int .i64 (m:Int)→E' 5=v5→E' 6=v6→E' 7= .sl 1 0 n 1 (some n)→E' 11= .int .i64 (P.length:Int)→Q (.exit 6) E' [some (ints cts),some (ints (P++a::List.replicate t 0))]):
  W Tryz.prog G 0 88 (.loop l32_3) E [some (ints cts),some (ints X)] Q:=by
 refine zal (fun k E H=>∃P t,P.length=k∧k+t=n∧(∀b∈P,b<m)∧H=[some (ints cts),some (ints (P++List.replicate t 0))]∧Count.inc m X.reverse=(Count.inc m P.reverse).map (List.replicate t 0++ ·)∧E 0=v0∧E 1= .int .i64 (m:Int)∧E 5=v5∧E 6=v6∧E 7= .sl 1 0 n 1 (some n)∧E 11= .int .i64 ((k:Int)-1)) (n:=n)
  ⟨X,0,hX,rfl,hXm,by simp,by cases Count.inc m X.reverse<;>simp,e0,e1,e5,e6,e7,e11⟩ ?_
 clear e0 e1 e5 e6 e7 e11 E
 rintro k E H ⟨P,t,hP,hkt,hPm,rfl,hinc,e0,e1,e5,e6,e7,e11⟩
 refine zaf zah ?_
 have wm:IntKind.i64.wrap ((m:Int)-1)=((m-1:Nat):Int):=by rw [show (m:Int)-1=((m-1:Nat):Int) by omega];exact zet (by omega)
 rcases qE k with hk | hk
 ·subst hk
  obtain rfl:P=[]:=List.length_eq_zero_iff.1 hP
  have d1:decide ((0:Int)≤((0:Nat):Int)-1)=false:=by decide
  have hnone:Count.inc m X.reverse=none:=by rw [hinc];rfl
  simp only [l32_3,r32_16,SS,forall_const,reduceIte,qQ,e11,d1]
  refine hQ0 _ _ hnone ?_ ?_ ?_
  ·simp only [zaa,qQ,if_false,e0]
  ·simp only [zaa,qQ,if_false,e5]
  ·simp only [zaa,qQ,if_false,e11];rfl
 ·obtain ⟨k,rfl⟩:∃k',k=k'+1:=⟨k-1,by omega⟩
  obtain ⟨P',a,rfl⟩:∃P' a,P=P'++[a]:=⟨P.dropLast,P.getLast (by intro e;subst e;simp at hP),(List.dropLast_concat_getLast _).symm⟩
  have hP':P'.length=k:=by simpa using hP
  have ha:a<m:=hPm a (by simp)
  have hk1:(((k+1:Nat):Int))-1=(k:Int):=by omega
  have d1:decide ((0:Int)≤(k:Int))=true:=decide_eq_true (by omega)
  rw [xP,List.reverse_singleton,List.singleton_append] at hinc
  have hl:(P'++[a]++List.replicate t 0).length=n:=by simp;omega
  have hga:(P'++[a]++List.replicate t 0).getD k 0=a:=by
   rw [qS,qX,qH (by omega),hP',qT];rfl
  have gx:=zct (P'++[a]++List.replicate t 0) k (by omega) AV.junk
  rw [hga] at gx
  rw [hk1] at e11
  have w1:IntKind.i64.wrap ((k:Int)-1)=(k:Int)-1:=w64 (by omega) (by omega)
  by_cases hmax:a+1<m
  ·have d2:decide ((a:Int)=((m-1:Nat):Int))=false:=decide_eq_false (by omega)
   have hi:Count.inc m X.reverse=some (P'++(a+1)::List.replicate t 0).reverse:=by
    rw [hinc]
    simp only [Count.inc,if_pos hmax,Option.map_some,xC]
    simp [xP,yQ]
   simp only [l32_3,r32_16,SS,forall_const,reduceIte,qQ,e1,e7,e11,d1,d2,wm,qK,gx,zdp,hl]
   refine ⟨⟨by omega,by omega⟩,by omega,?_⟩
   rw [show P'++[a]++List.replicate t 0=P'++a::List.replicate t 0 by simp]
   refine hQ1 _ P' a t (by omega) hmax (fun b hb=>hPm b (by simp [hb])) hi ?_ ?_ ?_ ?_ ?_ ?_
   ·simp only [zaa,qQ,if_false,e0]
   ·simp only [zaa,qQ,if_false,e1]
   ·simp only [zaa,qQ,if_false,e5]
   ·simp only [zaa,qQ,if_false,e6]
   ·simp only [zaa,qQ,if_false,e7]
   ·simp only [zaa,qQ,if_false,e11,hP']
  ·have d2:decide ((a:Int)=((m-1:Nat):Int))=true:=decide_eq_true (by omega)
   have hset:(ints (P'++[a]++List.replicate t 0)).set k (.int .i64 0)=ints (P'++List.replicate (t+1) 0):=by
    rw [show (AV.int .i64 0)= .int .i64 ((0:Nat):Int) from rfl,zif,qS,xX _ _ (by omega),hP',qT]
    rfl
   simp only [l32_3,r32_16,SS,forall_const,reduceIte,qQ,e1,e7,e11,d1,d2,wm,qK,gx,zdp,hl]
   refine ⟨⟨by omega,by omega⟩,by omega,?_⟩
   simp only [r32_17,r32_18,SS,reduceIte,qQ,e7,e11,qK,zdp,hl,hset,w1]
   refine ⟨⟨by omega,by omega⟩,by omega,k,_,_,by omega,⟨P',t+1,hP',by omega,fun b hb=>hPm b (by simp [hb]),rfl,?_,?_,?_,?_,?_,?_,?_⟩,.refl⟩
   ·rw [hinc]
    simp only [Count.inc,if_neg hmax]
    cases Count.inc m P'.reverse with
    | none=>rfl
    | some y=>simp [List.replicate_succ',qS]
   ·simp only [zaa,qQ,if_false,e0]
   ·simp only [zaa,qQ,if_false,e1]
   ·simp only [zaa,qQ,if_false,e5]
   ·simp only [zaa,qQ,if_false,e6]
   ·simp only [zaa,qQ,if_false,e7]
   ·simp only [zaa,qQ,reduceIte,if_false]
end
theorem qmm {n m:Nat} {M:List (List Int)} (hS:Shp n M) (hIn:∀i j,In64 (ent M i j)) (hn:1≤n∧n≤8) (hm:2≤m) (hm2:m≤2097152) (hpow:m^n≤2097152):
  ∃fin:List Nat,fin.length=m∧(∀t,fin.getD t 0=(Count.allV m n).countP fun y=>decide (Count.nrm (gN n M m) n y%m=t))∧∀a,ImV M a→Ret Tryz.prog G 32 [a,.int .i64 (m:Int)] [] (.vec (ints fin) m (some m)) []:=by
 obtain ⟨hfl,hfin⟩:=Count.ref_fin (g:=gN n M m) (n:=n) (M:=m) (by omega)
 refine ⟨_,hfl,hfin,fun a hV=>?_⟩
 generalize hF:List.foldl _ _ _=fin at*
 obtain ⟨rows,c,rfl,hl,hr⟩:=hV.val
 have hMl:=hS.len
 rw [hMl] at hl
 have hr':∀i,i<n→∃c',rows.getD i .junk= .vec (i64z (M.getD i [])) n c':=by
  intro i hi
  obtain ⟨c',h⟩:=hr i (by omega)
  rw [hS.row i hi] at h
  exact ⟨c',h⟩
 have hz:∀k:Nat,List.replicate k (AV.int .i64 0)=ints (List.replicate k 0):=fun k=>by simp [ints]
 rw [hMl]
 refine zai zah Tryz.func32 comp32 _ 88 res32 nt32 (by simp) (by simp) ?_
 simp only [c32,r32_0,r32_1,r32_2,r32_3,SS,reduceCtorEq,reduceIte,qQ,qK,hz]
 refine ⟨by omega,⟨by omega,by omega,by omega,by omega⟩,by omega,⟨by omega,by omega,by omega,by omega⟩,?_⟩
 refine zal (fun f E H=>∃X l cts,l.length=f∧Count.Chain m X.reverse l∧X.length=n∧(∀a∈X,a<m)∧cts.length=m∧(∀t,cts.getD t 0+l.length≤2097152)∧l.foldl (fun c y=>Count.tally c (Count.nrm (gN n M m) n y.reverse%m)) cts=fin∧H=[some (ints cts),some (ints X)]∧E 0= .vec rows n c∧E 1= .int .i64 (m:Int)∧E 5= .sl 0 0 m 1 (some m)∧E 6= .int .i64 (n:Int)∧E 7= .sl 1 0 n 1 (some n)) (n:=m^n)
  ⟨List.replicate n 0,Count.allV m n,List.replicate m 0,Count.allV_len m n,by rw [List.reverse_replicate];exact Count.chain_all (by omega) n,by simp,fun a ha=>by rw [xU] at ha;omega,by simp,fun t=>?_,hF,rfl,by simp only [zaa,zac,qU,qQ,if_false],by simp only [zaa,zac,qU,qZ,qQ,if_false],by simp only [zaa,zac,qZ,qQ,reduceIte,if_false],by simp only [zaa,zac,qZ,qQ,reduceIte,if_false],by simp only [zaa,zac,qZ,qQ,reduceIte,if_false]⟩ ?_
 ·rw [Count.allV_len,qX,xG]
  split
  ·show 0+_≤_;omega
  ·show 0+_≤_;omega
 rintro f E H ⟨X,l,cts,hlf,hch,hX,hXm,hcl,hcb,hfold,rfl,e0,e1,e5,e6,e7⟩
 refine zaf zah ?_
 simp only [l32_0,r32_4,r32_5,SS,reduceCtorEq,reduceIte,e0]
 refine qsv (c:=c) (v5:= .sl 0 0 m 1 (some m)) (v6:= .int .i64 (n:Int)) hS hIn hn.2 (by omega) hm2 hl hr' hX hXm (by simp only [zaa,qQ,if_false,e0]) (by simp only [zaa,qQ,if_false,e1]) (by simp only [zaa,qQ,if_false,e5]) (by simp only [zaa,qQ,if_false,e6]) (by simp only [zaa,qQ,if_false,e7]) (by simp only [zaa,qQ,reduceIte,if_false]) (by simp only [zaa,qQ,reduceIte,if_false]) (by simp only [zaa,qQ,reduceIte,if_false]) ?_
 intro E1 f0 f1 f5 f6 f7 f8
 have hs:=qB (Count.nrm (gN n M m) n X) (show 0<m by omega)
 generalize hsv:Count.nrm (gN n M m) n X%m=s at*
 have gc:=zct cts s (by omega) AV.junk
 have hcs:=hcb s
 have wc:IntKind.i64.wrap (((cts.getD s 0:Nat):Int)+1)=((cts.getD s 0+1:Nat):Int):=by rw [show ((cts.getD s 0:Nat):Int)+1=((cts.getD s 0+1:Nat):Int) by omega];exact zet (by omega)
 have wn:IntKind.i64.wrap ((n:Int)-1)=(n:Int)-1:=w64 (by omega) (by omega)
 have ht:(Count.tally cts s).length=m:=(Count.tally_len _ _).trans hcl
 have hset:(ints cts).set s (.int .i64 ((cts.getD s 0+1:Nat):Int))=ints (Count.tally cts s):=zif _ _ _
 have hl1:1≤l.length:=by cases hch<;>simp
 simp only [r32_14,r32_15,SS,forall_const,reduceCtorEq,reduceIte,qQ,f5,f6,f8,qK,gc,zdp,hcl,wc,wn,hset]
 refine ⟨⟨by omega,by omega⟩,by omega,⟨by omega,by omega⟩,by omega,?_⟩
 refine qml (v0:= .vec rows n c) (v5:= .sl 0 0 m 1 (some m)) (v6:= .int .i64 (n:Int)) hn.2 (by omega) hm2 hX hXm (by simp only [zaa,qQ,if_false,f0]) (by simp only [zaa,qQ,if_false,f1]) (by simp only [zaa,qQ,if_false,f5]) (by simp only [zaa,qQ,if_false,f6]) (by simp only [zaa,qQ,if_false,f7]) (by simp only [zaa,qQ,reduceIte,if_false]) ?_ ?_
 ·intro E2 X' hnone g0 g5 g11
  have hlast:l=[X.reverse]:=by
   cases hch with
   | last _=>rfl
   | next h _=>rw [hnone] at h;cases h
  subst hlast
  have hfin2:Count.tally cts s=fin:=by
   rw [←hfold,yB,List.foldl_nil,xN,hsv]
  have d1:decide ((-1:Int)<0)=true:=rfl
  simp only [r32_19,SS,forall_const,reduceCtorEq,reduceIte,qQ,g11,d1]
  simp only [r32_20,SS,reduceIte,qQ,g5]
  refine ⟨.inl trivial,_,rfl,?_⟩
  rw [hfin2]
  exact zxr (l:=fin) rfl hfl.symm
 ·intro E2 P a t hPt ha hPm hinc g0 g1 g5 g6 g7 g11
  have d1:decide (((P.length:Nat):Int)<0)=false:=decide_eq_false (by omega)
  have hPl:(P++a::List.replicate t 0).length=n:=by simp;omega
  have hga:(P++a::List.replicate t 0).getD P.length 0=a:=by
   rw [qX,qH (qA _),qT];rfl
  have gx:=zct (P++a::List.replicate t 0) P.length (by omega) AV.junk
  rw [hga] at gx
  have wa:IntKind.i64.wrap ((a:Int)+1)=((a+1:Nat):Int):=by rw [show (a:Int)+1=((a+1:Nat):Int) by omega];exact zet (by omega)
  have hset2:(ints (P++a::List.replicate t 0)).set P.length (.int .i64 ((a+1:Nat):Int))=ints (P++(a+1)::List.replicate t 0):=by
   rw [zif,xX _ _ (qA _),qT];rfl
  obtain ⟨l',hl',hch'⟩:∃l',l=X.reverse::l'∧Count.Chain m (P++(a+1)::List.replicate t 0).reverse l':=by
   cases hch with
   | last h=>rw [hinc] at h;cases h
   | next h h2=>rw [hinc] at h;injection h with h;subst h;exact ⟨_,rfl,h2⟩
  subst hl'
  simp only [r32_19,SS,forall_const,reduceCtorEq,reduceIte,qQ,g11,d1]
  simp only [r32_21,SS,forall_const,reduceIte,qQ,g7,g11,qK,gx,zdp,hPl,wa,hset2]
  refine ⟨⟨by omega,by omega⟩,by omega,⟨by omega,by omega⟩,by omega,l'.length,_,_,by rw [←hlf];simp,⟨P++(a+1)::List.replicate t 0,l',Count.tally cts s,rfl,hch',by simp;omega,fun b hb=>?_,ht,fun u=>?_,?_,rfl,?_,?_,?_,?_,?_⟩,.refl⟩
  ·rcases List.mem_append.1 hb with h | h
   ·exact hPm b h
   ·rcases List.mem_cons.1 h with h | h
    ·omega
    ·rw [xU] at h;omega
  ·rw [Count.tally_get (by omega)]
   have:=hcb u
   rw [List.length_cons] at this
   split<;>omega
  ·rw [←hfold,yB,xN,hsv]
  ·simp only [zaa,qQ,if_false,g0]
  ·simp only [zaa,qQ,if_false,g1]
  ·simp only [zaa,qQ,if_false,g5]
  ·simp only [zaa,qQ,if_false,g6]
  ·simp only [zaa,qQ,if_false,g7]
def chkZ (bR bP:Bool):Int:=if bR=true then (if bP=true then 0 else 20) else 6
theorem qbe {a:AV} {z:Int} {bR bP:Bool} (h1:Ret Tryz.prog G 70 [a] [] (.bool bR) []) (hc:a.closed=true) (hp:bP=true↔z≤9973∧PrmZ z):Ret Tryz.prog G 26 [a,.int .i64 z] [] (.int .i64 (chkZ bR bP)) []:=by
 have c1:qJ [a]=true:=by simp only [qJ,hc,qG]
 refine zai zah Tryz.func26 comp26 _ 15 res26 nt26 (by simp) (by simp) ?_
 simp only [c26,r26_0,r26_1,SS,reduceCtorEq,reduceIte]
 refine zab h1 ?_ c1
 simp only [zba,SS,reduceIte,qQ]
 cases bR with
 | false=>
  simp only [r26_2,SS,forall_const]
  exact ⟨.inl trivial,_,rfl,.keep _ _⟩
 | true=>
  by_cases hz:z≤9973
  ·have d1:decide (9973<z)=false:=decide_eq_false (by omega)
   have t:=prIs (z:=z) (b:=bP) (by rw [hp];exact ⟨fun e=>e.2,fun e=>⟨hz,e⟩⟩)
   simp only [r26_3,SS,forall_const,reduceIte,qQ,d1]
   refine zab t ?_
   simp only [zba,SS,forall_const,reduceIte,qQ]
   cases bP with
   | false=>
    simp only [r26_4,SS,forall_const]
    exact ⟨.inl trivial,_,rfl,.keep _ _⟩
   | true=>
    simp only [r26_5,SS,forall_const]
    exact ⟨.inl trivial,_,rfl,.keep _ _⟩
  ·have d1:decide (9973<z)=true:=decide_eq_true (by omega)
   obtain rfl:bP=false:=by
    cases bP with
    | false=>rfl
    | true=>exact absurd (hp.1 rfl).1 hz
   simp only [r26_3,r26_4,SS,forall_const,reduceIte,qQ,d1]
   exact ⟨.inl trivial,_,rfl,.keep _ _⟩
theorem zpc {p e:Nat} (hp:2≤p) (hp2:p≤2097152) (he:e<9223372036854775808) (h:2097152<p^e):Ret Tryz.prog G 27 [.int .i64 (p:Int),.int .i64 (e:Int)] [] (.tup [.int .i64 0,.bool false]) []:=by
 refine zai zah Tryz.func27 comp27 _ 17 res27 nt27 (by simp) (by simp) ?_
 simp only [c27,r27_0,r27_1,r27_2,SS,reduceCtorEq,reduceIte,qQ]
 refine zal (fun q E H=>∃i:Nat,i+q=e∧H=[]∧p^i≤2097152∧E 0= .int .i64 (p:Int)∧E 6= .int .i64 ((p^i:Nat):Int)∧E 7= .int .i64 (e:Int)∧E 8= .int .i64 (i:Int)) (n:=e)
  ⟨0,by omega,rfl,by rw [yX];omega,by simp only [zaa,zac,qU,qQ,if_false],by simp only [zaa,zac,qZ,qQ,reduceIte,if_false];rfl,by simp only [zaa,zac,qZ,qQ,reduceIte,if_false],by simp only [zaa,zac,qZ,qQ,reduceIte,if_false];rfl⟩ ?_
 rintro q E H ⟨i,hiq,rfl,hle,e0,e6,e7,e8⟩
 refine zaf zah ?_
 simp only [l27_0,r27_3,SS,reduceCtorEq,reduceIte,e7,e8]
 refine ⟨fun hlt=>?_,fun hge=>?_⟩
 ·obtain ⟨q,rfl⟩:∃q',q=q'+1:=⟨q-1,by omega⟩
  have hpp:p^(i+1)≤2097152*2097152:=by rw [qR];exact xM hle hp2
  have em:((p^i:Nat):Int)*(p:Int)=((p^(i+1):Nat):Int):=by rw [qR];exact (xY _ _).symm
  have w5:IntKind.i64.wrap ((i:Int)+1)=((i+1:Nat):Int):=by rw [show (i:Int)+1=((i+1:Nat):Int) by omega];exact zet (by omega)
  have w6:IntKind.i64.wrap ((p^(i+1):Nat):Int)=((p^(i+1):Nat):Int):=zet (by omega)
  simp only [r27_4,r27_5,SS,reduceCtorEq,reduceIte,qQ,e0,e6,em,w6]
  refine ⟨fun hgt=>?_,fun hng=>?_⟩
  ·simp only [r27_6,SS]
   exact ⟨.inl trivial,_,rfl,.keep _ _⟩
  ·simp only [r27_7,SS,reduceIte,qQ,e8,w5]
   refine ⟨q,_,_,by omega,⟨i+1,by omega,rfl,by omega,?_,?_,?_,?_⟩,.refl⟩
   all_goals simp only [zaa,qQ,reduceIte,if_false, *]
 ·have hie:i=e:=by omega
  subst hie
  omega
section
variable {hs:List AV} {ch:Option Nat} {n:Nat}
theorem zwd {z k e:Int} (hcl:(AV.vec hs n ch).closed=true) (he:e≠0) (hchk:Ret Tryz.prog G 26 [.vec hs n ch,.int .i64 z] [] (.int .i64 e) []):Ret Tryz.prog G 11 [.vec hs n ch,.int .i64 z,.int .i64 k] [] (.tup [.vec [] 0 (some 0),.int .i64 e]) []:=by
 have c0:qJ [.vec hs n ch,.int .i64 z]=true:=by simp only [qJ,hcl];rfl
 refine zai zah Tryz.func11 comp11 _ 41 res11 nt11 (by simp) (by simp) ?_
 simp only [c11,r11_0,r11_1,SS,reduceCtorEq,reduceIte,qQ]
 refine zab hchk ?_ c0
 simp only [zba,SS,reduceIte,qQ]
 simp only [r11_2,SS,reduceIte,qQ]
 refine ⟨fun _=>?_,fun h=>absurd he h⟩
 simp only [r11_3,SS,reduceIte,qQ]
 exact ⟨.inl trivial,_,rfl,.keep _ _⟩
theorem zwe {z k:Int} (hcl:(AV.vec hs n ch).closed=true) (hchk:Ret Tryz.prog G 26 [.vec hs n ch,.int .i64 z] [] (.int .i64 0) []) (hk:k<1):Ret Tryz.prog G 11 [.vec hs n ch,.int .i64 z,.int .i64 k] [] (.tup [.vec [] 0 (some 0),.int .i64 1]) []:=by
 have c0:qJ [.vec hs n ch,.int .i64 z]=true:=by simp only [qJ,hcl];rfl
 refine zai zah Tryz.func11 comp11 _ 41 res11 nt11 (by simp) (by simp) ?_
 simp only [c11,r11_0,r11_1,SS,reduceCtorEq,reduceIte,qQ]
 refine zab hchk ?_ c0
 simp only [zba,SS,reduceIte,qQ]
 simp only [r11_2,SS,reduceIte,qQ]
 refine ⟨fun hne=>absurd rfl hne,fun _=>?_⟩
 simp only [r11_4,SS,reduceIte,qQ]
 refine ⟨fun _=>?_,fun h=>absurd hk h⟩
 simp only [r11_5,SS]
 exact ⟨.inl trivial,_,rfl,.keep _ _⟩
theorem zwf {p e:Nat} (hcl:(AV.vec hs n ch).closed=true) (hchk:Ret Tryz.prog G 26 [.vec hs n ch,.int .i64 (p:Int)] [] (.int .i64 0) []) (hp:2≤p) (hp2:p≤9973) (he:1≤e) (he2:e<9223372036854775808) (hn:n≤8) (hpow:2097152<p^(e*n)):
  Ret Tryz.prog G 11 [.vec hs n ch,.int .i64 (p:Int),.int .i64 (e:Int)] [] (.tup [.vec [] 0 (some 0),.int .i64 7]) []:=by
 have c0:qJ [.vec hs n ch,.int .i64 (p:Int)]=true:=by simp only [qJ,hcl];rfl
 have h1:2≤p^e:=by
  have:=qC (n:=p) (by omega) he
  rw [Nat.pow_one] at this;omega
 refine zai zah Tryz.func11 comp11 _ 41 res11 nt11 (by simp) (by simp) ?_
 simp only [c11,r11_0,r11_1,SS,reduceCtorEq,reduceIte,qQ]
 refine zab hchk ?_ c0
 simp only [zba,SS,reduceIte,qQ]
 simp only [r11_2,SS,reduceIte,qQ]
 refine ⟨fun hne=>absurd rfl hne,fun _=>?_⟩
 simp only [r11_4,SS,reduceIte,qQ]
 refine ⟨fun hlt=>absurd hlt (by omega),fun _=>?_⟩
 simp only [r11_6,SS,reduceIte,qQ]
 rcases qL 2097152 (p^e) with hb | hb
 ·refine zab (zpc hp (by omega) he2 hb) ?_
  simp only [zba,SS,reduceIte,qQ,qW,qV]
  simp only [r11_7,r11_8,SS,forall_const,reduceIte,qQ]
  exact ⟨.inl trivial,_,rfl,.keep _ _⟩
 ·have he3:e<2^40:=by
   rcases qL e 22 with h | h
   ·omega
   ·have a1:=qC (n:=p) (by omega) h
    have a2:=Nat.pow_le_pow_left hp 22
    omega
  rw [yU] at hpow
  refine zab (zwb (by omega) hb he3) ?_
  simp only [zba,SS,reduceIte,qQ,qW,qV]
  simp only [r11_7,r11_9,SS,forall_const,reduceCtorEq,reduceIte,qQ]
  refine zab (zpc h1 hb (by omega) hpow) ?_
  simp only [zba,SS,reduceIte,qQ,qW,qV]
  simp only [r11_10,r11_11,SS,forall_const,reduceIte,qQ]
  exact ⟨.inl trivial,_,rfl,.keep _ _⟩
end
open Go.Limb
theorem qgr {B:Nat} {M:List (List Int)} {ds:List Int} {m i:Nat} {b:Bool} (h:redI B M ds (m+1) i=some b):
  ∃b1,redJ B M ds i i 0=some b1∧(b1=false→b=false)∧(b1=true→i=0→redI B M ds m (i+1)=some b)∧(b1=true→0<i→∃b2,lovO B M ds i=some b2∧(b2=false→b=false)∧(b2=true→redI B M ds m (i+1)=some b)):=by
 simp only [redI,qN] at h
 obtain ⟨b1,h1,h2⟩:=h
 refine ⟨b1,h1,fun e=>?_,fun e e0=>?_,fun e e0=>?_⟩
 ·subst e;simpa using h2.symm
 ·subst e;subst e0;simpa using h2
 ·subst e
  rw [if_neg (by decide),if_neg (by omega),qN] at h2
  obtain ⟨b2,h3,h4⟩:=h2
  refine ⟨b2,h3,fun e=>?_,fun e=>?_⟩
  ·subst e;simpa using h4.symm
  ·subst e;simpa using h4
theorem qgs {B:Nat} {M:List (List Int)} {ds:List Int} {m i j:Nat} {b:Bool} (h:redJ B M ds i (m+1) j=some b):
  ∃b1,zjn B M ds i j=some b1∧(b1=false→b=false)∧(b1=true→redJ B M ds i m (j+1)=some b):=by
 simp only [redJ,qN] at h
 obtain ⟨b1,h1,h2⟩:=h
 refine ⟨b1,h1,fun e=>?_,fun e=>?_⟩
 ·subst e;simpa using h2.symm
 ·subst e;simpa using h2
theorem qmn {B n:Nat} {M:List (List Int)} {a:AV} {ds:List Int} {b:Bool} (hB:DivB B) (h:Sq n M a) (hd:zjm B M=some ds) (hb:redI B M ds n 0=some b):
  Ret Tryz.prog G 73 [a] [] (.bool b) []:=by
 have hL:=qfn h hd
 have t1:=zqw hB h hd
 have c1:qJ [a]=true:=by simp only [qJ,h.closed,qG]
 have hs:=h
 obtain ⟨⟨rows,c,rfl,hl,hr⟩,hlen,hc,hlo,hhi⟩:=h
 rw [hlen] at hs t1 c1 ⊢
 refine zai zah Tryz.func73 comp73 _ 38 res73 nt73 (by simp) (by simp) ?_
 simp only [c73,r73_0,r73_1,SS,reduceCtorEq,reduceIte]
 refine zab t1 ?_ c1
 simp only [SS,reduceIte,qQ,qW,qV]
 simp only [r73_2,SS,reduceCtorEq,reduceIte,qQ]
 refine zal (fun m E H=>∃i,i+m=n∧E 0= .vec rows n c∧E 3=rowV ds∧E 13= .int .i64 (n:Nat)∧E 14= .int .i64 (i:Nat)∧H=[]∧redI B M ds m i=some b) (n:=n) ⟨0,by omega,?_,?_,?_,?_,rfl,hb⟩ ?_
 ·simp only [zaa,zac,qU,qQ,if_false]
 ·simp only [zaa,zac,qZ,qQ,reduceIte,if_false]
 ·simp only [zaa,zac,qZ,qQ,reduceIte,if_false]
 ·simp only [zaa,zac,qZ,qQ,reduceIte,if_false];rfl
 rintro m E H ⟨i,him,e0,e3,e13,e14,rfl,hi0⟩
 refine zaf zah ?_
 simp only [l73_0,r73_3,SS,reduceCtorEq,reduceIte,e13,e14]
 refine ⟨fun hlt=>?_,fun hge=>?_⟩
 ·obtain ⟨m,rfl⟩:∃m',m=m'+1:=⟨m-1,by omega⟩
  have hi:i<n:=by omega
  have w5:IntKind.i64.wrap ((i:Int)+1)=((i+1:Nat):Int):=by rw [show (i:Int)+1=((i+1:Nat):Int) by omega];exact w64 (by omega) (by omega)
  obtain ⟨b1,hj0,k1,k2,k3⟩:=qgr hi0
  simp only [r73_4,r73_5,SS,reduceIte,qQ,e14]
  refine zal (fun m2 E H=>∃j,j+m2=i∧E 0= .vec rows n c∧E 3=rowV ds∧E 5= .int .i64 (i:Nat)∧E 6= .int .i64 (j:Nat)∧E 13= .int .i64 (n:Nat)∧E 14= .int .i64 (i:Nat)∧H=[]∧redJ B M ds i m2 j=some b1) (n:=i) ⟨0,by omega,?_,?_,?_,?_,?_,?_,rfl,hj0⟩ ?_
  ·simp only [zaa,qQ,if_false,e0]
  ·simp only [zaa,qQ,if_false,e3]
  ·simp only [zaa,qQ,reduceIte,if_false]
  ·simp only [zaa,qQ,reduceIte,if_false];rfl
  ·simp only [zaa,qQ,if_false,e13]
  ·simp only [zaa,qQ,if_false,e14]
  rintro m2 E2 H2 ⟨j,hjm,f0,f3,f5,f6,f13,f14,rfl,hj1⟩
  refine zaf zah ?_
  simp only [l73_1,r73_6,SS,reduceCtorEq,reduceIte,qQ,f5,f6]
  refine ⟨fun hlt3=>?_,fun hge3=>?_⟩
  ·obtain ⟨m2,rfl⟩:∃m',m2=m'+1:=⟨m2-1,by omega⟩
   obtain ⟨b2,hs2,q1,q2⟩:=qgs hj1
   have t2:=qos hB hs hL hi (show j<n by omega) hs2
   have c2:qJ [.vec rows n c,rowV ds,.int .i64 (i:Nat),.int .i64 (j:Nat)]=true:=by
    simp only [qJ,yK] at c1 ⊢
    exact ⟨c1.1,rfl,rfl,rfl,trivial⟩
   have w6:IntKind.i64.wrap ((j:Int)+1)=((j+1:Nat):Int):=by rw [show (j:Int)+1=((j+1:Nat):Int) by omega];exact w64 (by omega) (by omega)
   cases b2 with
   | false=>
    have hb1:=q1 rfl
    subst hb1
    have hb0:=k1 rfl
    subst hb0
    simp only [r73_7,SS,reduceCtorEq,reduceIte,qQ,f0,f3,f5,f6]
    refine zab t2 ?_ c2
    simp only [r73_8,SS,forall_const,reduceIte,qQ]
    exact ⟨.inl trivial,_,rfl,.drop _ _ rfl (by intro i cs h;omega)⟩
   | true=>
    simp only [r73_7,SS,reduceCtorEq,reduceIte,qQ,f0,f3,f5,f6]
    refine zab t2 ?_ c2
    simp only [r73_9,SS,forall_const,reduceIte,qQ,f6,w6]
    refine ⟨m2,_,_,by omega,⟨j+1,by omega,?_,?_,?_,?_,?_,?_,rfl,q2 rfl⟩,.refl⟩<;>simp only [zaa,qQ,reduceIte,if_false, *]
  ·have hm2:m2=0:=by omega
   subst hm2
   simp only [redJ,xC] at hj1
   subst hj1
   rcases qE i with h0 | h0
   ·have d0:decide ((0:Int)<(i:Nat))=false:=decide_eq_false (by omega)
    simp only [r73_10,r73_12,SS,forall_const,reduceCtorEq,reduceIte,qQ,f0,f3,f5,f14,d0,w5]
    refine ⟨m,_,_,by omega,⟨i+1,by omega,?_,?_,?_,?_,rfl,k2 rfl h0⟩,.refl⟩<;>simp only [zaa,qQ,reduceIte,if_false, *]
   ·have d0:decide ((0:Int)<(i:Nat))=true:=decide_eq_true (by omega)
    obtain ⟨b2,hl2,q1,q2⟩:=k3 rfl h0
    have t3:=qfo hB hs hL h0 hi hl2
    have c3:qJ [.vec rows n c,rowV ds,.int .i64 (i:Nat)]=true:=by
     simp only [qJ,yK] at c1 ⊢
     exact ⟨c1.1,rfl,rfl,trivial⟩
    cases b2 with
    | false=>
     have hb0:=q1 rfl
     subst hb0
     simp only [r73_10,SS,forall_const,reduceCtorEq,reduceIte,qQ,f0,f3,f5,d0]
     refine zab t3 ?_ c3
     simp only [r73_11,SS,forall_const,reduceIte,qQ]
     exact ⟨.inl trivial,_,rfl,.drop _ _ rfl (by intro i cs h;omega)⟩
    | true=>
     simp only [r73_10,SS,forall_const,reduceCtorEq,reduceIte,qQ,f0,f3,f5,d0]
     refine zab t3 ?_ c3
     simp only [r73_12,SS,forall_const,reduceIte,qQ,f14,w5]
     refine ⟨m,_,_,by omega,⟨i+1,by omega,?_,?_,?_,?_,rfl,q2 rfl⟩,.refl⟩<;>simp only [zaa,qQ,reduceIte,if_false, *]
 ·have hm:m=0:=by omega
  subst hm
  simp only [redI,xC] at hi0
  subst hi0
  simp only [r73_13,SS]
  exact ⟨.inl trivial,_,rfl,.drop _ _ rfl (by intro i cs h;omega)⟩
open Go.Det
theorem zrl {A0:Nat} {M:List (List Int)} (hb:Bnd A0 M) (hA:A0<BIG):qrq M:=by
 intro r hr z hz
 obtain ⟨i,hi,rfl⟩:=xR hr
 obtain ⟨j,hj,rfl⟩:=xR hz
 have:=hb i j
 unfold ent at this
 rw [qX (l:=M),qY hi,xE,qX,qY hj,xE] at this
 omega
theorem zrm {n A0:Nat} {M:List (List Int)} (hS:Shp n M) (hn:1≤n∧n≤8) (hb:Bnd A0 M) (hA:A0<BIG):Sq n M (matC M):=⟨zne (zrl hb hA),hS.len,hS.row,hn.1,hn.2⟩
theorem qbf {B n N A0:Nat} {M:List (List Int)} {a:AV} (hB:DivB B) (h:ImV M a) (hS:Shp n M) (hn:1≤n∧n≤8) (hnN:n≤N) (hF:FitN N B A0) (hb:Bnd A0 M) {b:Bool} (hr:b=true↔Red n (rowF M)):
  Ret Tryz.prog G 29 [a] [] (.bool b) []:=by
 have hlt:=hF.lt
 have hBB:=hB.1
 have hA:A0<BIG:=by
  have:=(hF.all (k:=0) (by omega)).1
  have e:bndS A0 0=A0:=rfl
  omega
 have hsq:=zrm hS hn hb hA
 have t0:=zng h (n:=n) (by omega) (by rw [hS.len];omega) (fun i hi=>hS.row i (by rw [hS.len] at hi;exact hi))
 obtain ⟨ds,hds,hdf⟩:=zlv hF hb n hnN
 have hds':zjm B M=some ds:=by unfold zjm;rw [hS.len];exact hds
 obtain ⟨d0,hd0,hd0f⟩:=zrc (B:=B) hF.one (fun k hk=>(hF.all (k:=k) (by omega)).2) hS hb
 have hd0B:d0.natAbs<B:=by have:=(hF.all hnN).1;omega
 obtain ⟨br,hbr⟩:=qsd hF hb hdf n 0 (by omega)
 have t1:=znf hB hsq hds'
 have t2:=qor hB hsq hd0 hd0B
 have t3:=qmn hB hsq hds' hbr
 have hcl:=hsq.closed
 have hiff:(valZ M ds=0∧d0≤10000∧br=true)↔b=true:=by
  rw [hr]
  constructor
  ·rintro ⟨h1,h2,h3⟩
   exact qrx hS hn.1 hn.2 hds hd0 ⟨h1,h2,br,hbr,h3⟩
  ·intro hR
   obtain ⟨h1,h2,h3⟩:=qry hS hds hd0 hR
   exact ⟨h1,h2,h3 br hbr⟩
 have hca:a.closed=true:=h.closed
 have c1:qJ [a]=true:=by simp only [qJ,hca,qG]
 have c2:qJ [matC M]=true:=by simp only [qJ,hcl,qG]
 refine zai zah Tryz.func29 comp29 _ 24 res29 nt29 (by simp) (by simp) ?_
 simp only [c29,r29_0,r29_1,SS,reduceCtorEq,reduceIte]
 refine zab t0 ?_ c1
 simp only [SS,reduceIte,qQ,qW,qV]
 simp only [r29_2,SS,forall_const,reduceIte,qQ]
 refine zab t1 ?_ c2
 simp only [SS,forall_const,reduceIte,qQ]
 refine ⟨fun h1=>?_,fun h1=>?_⟩
 ·refine zab t2 ?_ c2
  simp only [SS,forall_const,reduceIte,qQ]
  refine ⟨fun h2=>?_,fun h2=>?_⟩
  ·refine zab t3 ?_ c2
   simp only [SS,reduceIte,qQ]
   have hbb:b=br:=by
    cases br with
    | true=>exact hiff.1 ⟨h1,h2,rfl⟩
    | false=>
     cases b with
     | false=>rfl
     | true=>exact absurd (hiff.2 rfl).2.2 (by simp)
   subst hbb
   exact ⟨.inl trivial,_,rfl,.drop _ _ rfl (by intro i cs h;omega)⟩
  ·have d2:decide (d0≤10000)=false:=decide_eq_false h2
   have hbb:b=false:=by
    cases b with
    | false=>rfl
    | true=>exact absurd (hiff.2 rfl).2.1 h2
   subst hbb
   simp only [d2]
   exact ⟨.inl trivial,_,rfl,.drop _ _ rfl (by intro i cs h;omega)⟩
 ·have d1:decide (valZ M ds=0)=false:=decide_eq_false h1
  have hbb:b=false:=by
   cases b with
   | false=>rfl
   | true=>exact absurd (hiff.2 rfl).1 h1
  subst hbb
  simp only [d1]
  exact ⟨.inl trivial,_,rfl,.drop _ _ rfl (by intro i cs h;omega)⟩
def zjz (M:List (List Int)):Prop:=1≤M.length∧M.length≤8∧Shp M.length M∧∀i j,i<M.length→j<M.length→ent M i j=ent M j i∧ -262144<ent M i j∧ent M i j<262144
theorem qoy {M:List (List Int)} {a:AV} (h:ImV M a) (h62:M.length<4611686018427387904) (hr62:∀i,i<M.length→(M.getD i []).length<4611686018427387904) {b:Bool} (hb:b=true↔zjz M):Ret Tryz.prog G 136 [a] [] (.bool b) []:=by
 have hf:=h.fit
 obtain ⟨rows,c,rfl,hl,hr⟩:=h.val
 have no:¬zjz M→b=false:=by
  intro hn
  cases b with
  | false=>rfl
  | true=>exact absurd (hb.1 rfl) hn
 refine zai zah Tryz.func136 comp136 _ 62 res136 nt136 (by simp) (by simp) ?_
 by_cases h1:M.length<1∨8<M.length
 ·have hbf:=no (fun hS=>by have:=hS.1;have:=hS.2.1;omega)
  subst hbf
  by_cases h2:M.length<1
  ·have d1:decide ((M.length:Int)<1)=true:=decide_eq_true (by omega)
   simp only [c136,r136_0,r136_1,r136_2,SS,forall_const,reduceCtorEq,reduceIte,qQ,d1]
   simp only [r136_3,SS]
   exact ⟨.inl trivial,_,rfl,.drop _ _ rfl (by intro i cs h;omega)⟩
  ·have d1:decide ((M.length:Int)<1)=false:=decide_eq_false (by omega)
   have d2:decide ((8:Int)<(M.length:Nat))=true:=decide_eq_true (by omega)
   simp only [c136,r136_0,r136_1,r136_2,SS,forall_const,reduceCtorEq,reduceIte,qQ,d1,d2]
   simp only [r136_3,SS]
   exact ⟨.inl trivial,_,rfl,.drop _ _ rfl (by intro i cs h;omega)⟩
 have d1:decide ((M.length:Int)<1)=false:=decide_eq_false (by omega)
 have d2:decide ((8:Int)<(M.length:Nat))=false:=decide_eq_false (by omega)
 simp only [c136,r136_0,r136_1,r136_2,SS,forall_const,reduceCtorEq,reduceIte,qQ,d1,d2]
 simp only [r136_4,SS,reduceCtorEq,reduceIte,qQ]
 refine zal (fun k E H=>∃i,i+k=M.length∧E 0= .vec rows M.length c∧E 3= .int .i64 (M.length:Nat)∧E 18= .vec rows M.length c∧E 19= .int .i64 (M.length:Nat)∧E 20= .int .i64 (i:Nat)∧H=[]∧∀s,s<i→(M.getD s []).length=M.length) (n:=M.length)
  ⟨0,by omega,by simp only [zaa,zac,qU,qQ,if_false],by simp only [zaa,zac,qZ,qQ,reduceIte,if_false],by simp only [zaa,zac,qZ,qQ,reduceIte,if_false],by simp only [zaa,zac,qZ,qQ,reduceIte,if_false],by simp only [zaa,zac,qZ,qQ,reduceIte,if_false];rfl,rfl,fun s hs=>absurd hs (by omega)⟩ ?_
 rintro k E H ⟨i,hik,e0,e3,e18,e19,e20,rfl,hsh⟩
 refine zaf zah ?_
 simp only [l136_0,r136_5,SS,reduceCtorEq,reduceIte,e19,e20]
 refine ⟨fun hlt=>?_,fun hge=>?_⟩
 ·obtain ⟨k,rfl⟩:∃k',k=k'+1:=⟨k-1,by omega⟩
  have hi:i<M.length:=by omega
  obtain ⟨ci,hei⟩:=hr i hi
  have hri:=hr62 i hi
  have w5:IntKind.i64.wrap ((i:Int)+1)=((i+1:Nat):Int):=by rw [show (i:Int)+1=((i+1:Nat):Int) by omega];exact w64 (by omega) (by omega)
  simp only [r136_6,r136_7,SS,forall_const,reduceIte,qQ,e3,e18,e20,qK,hei,hl]
  refine ⟨⟨by omega,by omega⟩,by omega,fun hne=>?_,fun heq=>?_⟩
  ·have hbf:=no (fun hS=>hne (by rw [hS.2.2.1.row i hi]))
   subst hbf
   simp only [r136_8,SS]
   exact ⟨.inl trivial,_,rfl,.drop _ _ rfl (by intro i cs h;omega)⟩
  ·have heq:(M.getD i []).length=M.length:=by
    have:=Decidable.not_not.1 heq
    omega
   simp only [r136_9,SS,reduceIte,qQ,e20,w5]
   refine ⟨k,_,_,by omega,⟨i+1,by omega,?_,?_,?_,?_,?_,rfl,fun s hs=>?_⟩,.refl⟩
   ·simp only [zaa,qQ,if_false, *]
   ·simp only [zaa,qQ,if_false, *]
   ·simp only [zaa,qQ,if_false, *]
   ·simp only [zaa,qQ,if_false, *]
   ·simp only [zaa,qQ,reduceIte,if_false, *]
   ·rcases (by omega:s<i∨s=i) with e | e
    ·exact hsh s e
    ·rw [e];exact heq
 ·have hin:i=M.length:=by omega
  subst hin
  clear hge e20 e19 e18 hik k
  have hS:Shp M.length M:=⟨rfl,hsh⟩
  simp only [r136_10,SS,reduceCtorEq,reduceIte,qQ,e0]
  refine zal (fun k E H=>∃i,i+k=M.length∧E 0= .vec rows M.length c∧E 29= .vec rows M.length c∧E 30= .int .i64 (M.length:Nat)∧E 31= .int .i64 (i:Nat)∧H=[]∧∀s t,s<i→t<M.length→ent M s t=ent M t s∧ -262144<ent M s t∧ent M s t<262144) (n:=M.length)
   ⟨0,by omega,by simp only [zaa,qQ,if_false,e0],by simp only [zaa,qQ,reduceIte,if_false],by simp only [zaa,qQ,reduceIte,if_false],by simp only [zaa,qQ,reduceIte,if_false];rfl,rfl,fun s t hs=>absurd hs (by omega)⟩ ?_
  clear e0 e3 hsh E
  rintro k E H ⟨i,hik,e0,e29,e30,e31,rfl,hP⟩
  refine zaf zah ?_
  simp only [l136_1,r136_11,SS,reduceCtorEq,reduceIte,e30,e31]
  refine ⟨fun hlt=>?_,fun hge=>?_⟩
  ·obtain ⟨k,rfl⟩:∃k',k=k'+1:=⟨k-1,by omega⟩
   have hi:i<M.length:=by omega
   obtain ⟨ci,hei⟩:=hr i hi
   have w5:IntKind.i64.wrap ((i:Int)+1)=((i+1:Nat):Int):=by rw [show (i:Int)+1=((i+1:Nat):Int) by omega];exact w64 (by omega) (by omega)
   have hcol:=hS.row i hi
   simp only [r136_12,r136_13,SS,forall_const,reduceIte,qQ,e29,e31,qK,hei,hl,hcol]
   refine ⟨⟨by omega,by omega⟩,by omega,?_⟩
   refine zal (fun k2 E H=>∃j,j+k2=M.length∧E 0= .vec rows M.length c∧E 6= .int .i64 (i:Nat)∧E 29= .vec rows M.length c∧E 30= .int .i64 (M.length:Nat)∧E 31= .int .i64 (i:Nat)∧E 36= .vec (i64z (M.getD i [])) M.length ci∧E 37= .int .i64 (M.length:Nat)∧E 38= .int .i64 (j:Nat)∧H=[]∧∀t,t<j→ent M i t=ent M t i∧ -262144<ent M i t∧ent M i t<262144) (n:=M.length)
    ⟨0,by omega,by simp only [zaa,qQ,if_false,e0],by simp only [zaa,qQ,reduceIte,if_false],by simp only [zaa,qQ,if_false,e29],by simp only [zaa,qQ,if_false,e30],by simp only [zaa,qQ,if_false,e31],by simp only [zaa,qQ,reduceIte,if_false],by simp only [zaa,qQ,reduceIte,if_false],by simp only [zaa,qQ,reduceIte,if_false];rfl,rfl,fun t ht=>absurd ht (by omega)⟩ ?_
   clear e0 e29 e30 e31 E
   rintro k2 E H ⟨j,hjk,e0,e6,e29,e30,e31,e36,e37,e38,rfl,hP2⟩
   refine zaf zah ?_
   simp only [l136_2,r136_14,SS,reduceCtorEq,reduceIte,qQ,e37,e38]
   refine ⟨fun hlt2=>?_,fun hge2=>?_⟩
   ·obtain ⟨k2,rfl⟩:∃k',k2=k'+1:=⟨k2-1,by omega⟩
    have hj:j<M.length:=by omega
    obtain ⟨cj,hej⟩:=hr j hj
    have hcj:=hS.row j hj
    have w6:IntKind.i64.wrap ((j:Int)+1)=((j+1:Nat):Int):=by rw [show (j:Int)+1=((j+1:Nat):Int) by omega];exact w64 (by omega) (by omega)
    have g1:(i64z (M.getD i [])).getD j .junk= .int .i64 (ent M i j):=zbv _ j (by omega) _
    have g2:(i64z (M.getD j [])).getD i .junk= .int .i64 (ent M j i):=zbv _ i (by omega) _
    simp only [r136_15,r136_16,SS,forall_const,reduceCtorEq,reduceIte,qQ,e0,e6,e36,e38,qK,hej,hl,hcj,zax,hcol,g1,g2]
    have bad:¬(ent M i j=ent M j i∧ -262144<ent M i j∧ent M i j<262144)→b=false:=fun hn=>no fun hSm=>hn (hSm.2.2.2 i j hi hj)
    refine ⟨⟨by omega,by omega⟩,by omega,⟨by omega,by omega⟩,by omega,⟨by omega,by omega⟩,by omega,fun h1=>⟨fun h2=>⟨fun h3=>?_,fun h3=>?_⟩,fun h2=>?_⟩,fun h1=>?_⟩
    ·obtain rfl:=bad (by omega)
     simp only [r136_17,SS]
     exact ⟨.inl trivial,_,rfl,.drop _ _ rfl (by intro i cs h;omega)⟩
    ·simp only [r136_18,SS,reduceIte,qQ,e38,w6]
     refine ⟨k2,_,_,by omega,⟨j+1,by omega,?_,?_,?_,?_,?_,?_,?_,?_,rfl,fun t ht=>?_⟩,.refl⟩
     ·simp only [zaa,qQ,if_false, *]
     ·simp only [zaa,qQ,if_false, *]
     ·simp only [zaa,qQ,if_false, *]
     ·simp only [zaa,qQ,if_false, *]
     ·simp only [zaa,qQ,if_false, *]
     ·simp only [zaa,qQ,if_false, *]
     ·simp only [zaa,qQ,if_false, *]
     ·simp only [zaa,qQ,reduceIte,if_false, *]
     ·rcases (by omega:t<j∨t=j) with e | e
      ·exact hP2 t e
      ·rw [e];exact ⟨Decidable.not_not.1 h1,by omega,by omega⟩
    ·obtain rfl:=bad (by omega)
     simp only [r136_17,SS]
     exact ⟨.inl trivial,_,rfl,.drop _ _ rfl (by intro i cs h;omega)⟩
    ·obtain rfl:=bad (fun e=>h1 e.1)
     simp only [r136_17,SS]
     exact ⟨.inl trivial,_,rfl,.drop _ _ rfl (by intro i cs h;omega)⟩
   ·have hj:j=M.length:=by omega
    subst hj
    simp only [r136_19,SS,reduceIte,qQ,e31,w5]
    refine ⟨k,_,_,by omega,⟨i+1,by omega,?_,?_,?_,?_,rfl,fun s t hs ht=>?_⟩,.refl⟩
    ·simp only [zaa,qQ,if_false, *]
    ·simp only [zaa,qQ,if_false, *]
    ·simp only [zaa,qQ,if_false, *]
    ·simp only [zaa,qQ,reduceIte,if_false, *]
    ·rcases (by omega:s<i∨s=i) with e | e
     ·exact hP s t e ht
     ·rw [e];exact hP2 t ht
  ·have hin:i=M.length:=by omega
   subst hin
   obtain rfl:=hb.2 ⟨by omega,by omega,hS,fun s t hs ht=>hP s t hs ht⟩
   simp only [r136_20,SS]
   exact ⟨.inl trivial,_,rfl,.drop _ _ rfl (by intro i cs h;omega)⟩
def zyl (n:Nat) (M:List (List Int)):Prop:=0<ent M 0 0∧ent M 0 0<65536∧∀i,0<i→i<n→2*ent M i 0≤ent M 0 0∧ -(2*ent M i 0)≤ent M 0 0
theorem qoz {n:Nat} {M:List (List Int)} {a:AV} (h:ImV M a) (hS:Shp n M) (hn:1≤n∧n≤8) (hbd:∀i,i<n→ -1099511627776≤ent M i 0∧ent M i 0≤1099511627776) {b:Bool} (hb:b=true↔zyl n M):Ret Tryz.prog G 137 [a] [] (.bool b) []:=by
 obtain ⟨rows,c,rfl,hl,hr⟩:=h.val
 have no:¬zyl n M→b=false:=by
  intro hn
  cases b with
  | false=>rfl
  | true=>exact absurd (hb.1 rfl) hn
 have hlen:=hS.len
 obtain ⟨c0,he0⟩:=hr 0 (by omega)
 have hc0:=hS.row 0 (by omega)
 have g0:(i64z (M.getD 0 [])).getD 0 .junk= .int .i64 (ent M 0 0):=zbv _ 0 (by omega) _
 have hb0:=hbd 0 (by omega)
 refine zai zah Tryz.func137 comp137 _ 39 res137 nt137 (by simp) (by simp) ?_
 simp only [c137,r137_0,r137_1,SS,forall_const,reduceCtorEq,reduceIte,qQ,he0,hc0,hl,hlen,g0,zax,qD]
 refine ⟨⟨by omega,by omega⟩,by omega,⟨by omega,by omega⟩,by omega,?_⟩
 simp only [r137_2,SS,forall_const,reduceIte,qQ]
 refine ⟨fun h1=>⟨fun h2=>?_,fun h2=>?_⟩,fun h1=>?_⟩
 ·obtain rfl:=no (fun hp=>by have:=hp.2.1;omega)
  simp only [r137_3,SS]
  exact ⟨.inl trivial,_,rfl,.drop _ _ rfl (by intro i cs h;omega)⟩
 ·simp only [r137_4,SS,reduceCtorEq,reduceIte,qQ,hl,hlen]
  have t1:Int.toNat 1=1:=rfl
  have htail:List.take (n-1) (List.drop 1 rows)=rows.drop 1:=qP (by rw [yW];omega)
  have hdl:(rows.drop 1).length=n-1:=by rw [yW];omega
  have hdg:∀i,(rows.drop 1).getD i .junk=rows.getD (i+1) .junk:=by
   intro i
   rw [qX,List.getElem?_drop,qX,Nat.add_comm]
  simp only [t1,htail]
  refine ⟨by omega,⟨by omega,by omega,by omega⟩,?_⟩
  refine zal (fun k E H=>∃i,i+k=n-1∧E 3= .int .i64 (ent M 0 0)∧E 18= .vec (rows.drop 1) (n-1) (zdx 1 c)∧E 19= .int .i64 ((n-1:Nat):Int)∧E 20= .int .i64 (i:Nat)∧H=[]∧∀s,0<s→s<i+1→2*ent M s 0≤ent M 0 0∧ -(2*ent M s 0)≤ent M 0 0) (n:=n-1)
   ⟨0,by omega,by simp only [zaa,zac,qZ,qQ,reduceIte,if_false],by simp only [zaa,zac,qZ,qQ,reduceIte,if_false],by simp only [zaa,zac,qZ,qQ,reduceIte,if_false],by simp only [zaa,zac,qZ,qQ,reduceIte,if_false];rfl,rfl,fun s hs hs2=>absurd hs2 (by omega)⟩ ?_
  rintro k E H ⟨i,hik,e3,e18,e19,e20,rfl,hP⟩
  refine zaf zah ?_
  simp only [l137_0,r137_5,SS,reduceCtorEq,reduceIte,e19,e20]
  refine ⟨fun hlt=>?_,fun hge=>?_⟩
  ·obtain ⟨k,rfl⟩:∃k',k=k'+1:=⟨k-1,by omega⟩
   have hi:i+1<n:=by omega
   obtain ⟨ci,hei⟩:=hr (i+1) (by omega)
   have hci:=hS.row (i+1) hi
   have gi:(i64z (M.getD (i+1) [])).getD 0 .junk= .int .i64 (ent M (i+1) 0):=zbv _ 0 (by omega) _
   have hbi:=hbd (i+1) hi
   have w5:IntKind.i64.wrap ((i:Int)+1)=((i+1:Nat):Int):=by rw [show (i:Int)+1=((i+1:Nat):Int) by omega];exact w64 (by omega) (by omega)
   have w6:IntKind.i64.wrap (2*ent M (i+1) 0)=2*ent M (i+1) 0:=w64 (by omega) (by omega)
   have w7:IntKind.i64.wrap (-2*ent M (i+1) 0)= -2*ent M (i+1) 0:=w64 (by omega) (by omega)
   have bad:¬(2*ent M (i+1) 0≤ent M 0 0∧ -(2*ent M (i+1) 0)≤ent M 0 0)→b=false:=fun hne=>no fun hp=>hne (hp.2.2 (i+1) (by omega) hi)
   simp only [r137_6,r137_7,SS,forall_const,reduceIte,qQ,e3,e18,e20,qK,hdg,hdl,hei,hci,gi,zax,qD,w6,w7]
   refine ⟨⟨by omega,by omega⟩,by omega,⟨by omega,by omega⟩,by omega,fun h3=>⟨⟨by omega,by omega⟩,by omega,fun h4=>?_,fun h4=>?_⟩,fun h3=>?_⟩
   ·obtain rfl:=bad (by omega)
    simp only [r137_8,SS]
    exact ⟨.inl trivial,_,rfl,.drop _ _ rfl (by intro i cs h;omega)⟩
   ·simp only [r137_9,SS,reduceIte,qQ,e20,w5]
    refine ⟨k,_,_,by omega,⟨i+1,by omega,?_,?_,?_,?_,rfl,fun s h0 hs=>?_⟩,.refl⟩
    ·simp only [zaa,qQ,if_false, *]
    ·simp only [zaa,qQ,if_false, *]
    ·simp only [zaa,qQ,if_false, *]
    ·simp only [zaa,qQ,reduceIte,if_false, *]
    ·rcases (by omega:s<i+1∨s=i+1) with e | e
     ·exact hP s h0 e
     ·rw [e];exact ⟨by omega,by omega⟩
   ·obtain rfl:=bad (by omega)
    simp only [r137_8,SS]
    exact ⟨.inl trivial,_,rfl,.drop _ _ rfl (by intro i cs h;omega)⟩
  ·have hin:i=n-1:=by omega
   subst hin
   obtain rfl:=hb.2 ⟨by omega,by omega,fun s h0 hs=>hP s h0 (by omega)⟩
   simp only [r137_10,SS]
   exact ⟨.inl trivial,_,rfl,.drop _ _ rfl (by intro i cs h;omega)⟩
 ·obtain rfl:=no (fun hp=>by have:=hp.1;omega)
  simp only [r137_3,SS]
  exact ⟨.inl trivial,_,rfl,.drop _ _ rfl (by intro i cs h;omega)⟩
def zbi (n k:Nat) (M:List (List Int)):List (List Int):=mkM (n-k) fun i j=>stg (rowF M) k (k+i) (k+j)
theorem znr (n k:Nat) (M:List (List Int)):Shp (n-k) (zbi n k M):=zcj _ _
theorem zco {n k i j:Nat} {M:List (List Int)} (hi:i<n-k) (hj:j<n-k):ent (zbi n k M) i j=stg (rowF M) k (k+i) (k+j):=zcd hi hj
theorem qbg {n:Nat} {M:List (List Int)} (h:Shp n M):zbi n 0 M=M:=by
 refine zrg (n:=n) (znr n 0 M) h fun i j hi hj=>?_
 rw [zco (by omega) (by omega),zdm,Nat.zero_add,Nat.zero_add]
 rfl
section
variable {m:Nat} {S T:List (List Int)} {sr:List AV} {sc:Option Nat} {d last:Int}
structure StF (m:Nat) (S T:List (List Int)) (sr:List AV) (sc:Option Nat) (d last:Int):Prop where
 m2:m+1≤8
 shS:Shp (m+1) S
 shT:Shp m T
 val:∀i,i<m+1→∃c',sr.getD i .junk= .vec (i64z (S.getD i [])) (m+1) c'
 len:sr.length=m+1
 de:d=ent S 0 0
 db:0<d∧d<65536
 last0:last≠0
 big:∀i j,i<m+1→j<m+1→ -34359738368≤ent S i j∧ent S i j≤34359738368
 low:∀i,i<m+1→ -65536≤ent S i 0∧ent S i 0≤65536∧ -65536≤ent S 0 i∧ent S 0 i≤65536
 quo:∀i j,i<m→j<m→Int.tdiv (d*ent S (i+1) (j+1)-ent S (i+1) 0*ent S 0 (j+1)) last=ent T i j
theorem zhl {x y:Int} {a b:Int} (h1:x≤a) (h2: -a≤x) (h3:y≤b) (h4: -b≤y):x*y≤a*b∧ -(a*b)≤x*y:=znj h1 h2 h3 h4
theorem qgt (hF:StF m S T sr sc d last) {i:Nat} (hi:i<m) {rows:List (List Int)} {ci:Option Nat} (hrl:rows.length=i+1) (hr0:(rows.getD i []).length=m) {E:Env} {Q:Post}
  (e3:E 3= .vec sr (m+1) sc) (e4:E 4= .int .i64 last) (e5:E 5= .int .i64 d) (e6:E 6= .sl 0 0 m 1 (some m)) (e7:E 7= .int .i64 (i:Nat)) (e8:E 8= .vec (i64z (S.getD (i+1) [])) (m+1) ci) (e31:E 31= .int .i64 (m:Nat)) (e32:E 32= .int .i64 (i:Nat))
  (e47:E 47= .int .i64 (m:Nat)) (e48:E 48= .int .i64 0)
  (hQ:∀E' r,r.length=m→(∀j,j<m→r.getD j 0=ent T i j)→E' 3= .vec sr (m+1) sc→E' 4= .int .i64 last→E' 5= .int .i64 d→E' 6= .sl 0 0 m 1 (some m)→E' 31= .int .i64 (m:Nat)→E' 32= .int .i64 (i:Nat)→Q (.exit 4) E' (bH m m (rows.set i r))):
  W Tryz.prog G 0 118 (.loop l70_2) E (bH m m rows) Q:=by
 refine zal (fun k E H=>∃j r,j+k=m∧r.length=m∧(∀t,t<j→r.getD t 0=ent T i t)∧H=bH m m (rows.set i r)∧E 3= .vec sr (m+1) sc∧E 4= .int .i64 last∧E 5= .int .i64 d∧E 6= .sl 0 0 m 1 (some m)∧E 7= .int .i64 (i:Nat)∧E 8= .vec (i64z (S.getD (i+1) [])) (m+1) ci∧
  E 31= .int .i64 (m:Nat)∧E 32= .int .i64 (i:Nat)∧E 47= .int .i64 (m:Nat)∧E 48= .int .i64 (j:Nat)) (n:=m)
  ⟨0,rows.getD i [],by omega,hr0,fun t ht=>absurd ht (by omega),?_,e3,e4,e5,e6,e7,e8,e31,e32,e47,e48⟩ ?_
 ·congr 1
  refine yV (by simp) fun t h1 h2=>?_
  rw [List.getElem_set]
  split
  ·rename_i e;subst e;rw [qX,qY h1];rfl
  ·rfl
 clear e3 e4 e5 e6 e7 e8 e31 e32 e47 e48 E
 rintro k E H ⟨j,r,hjk,hrm,hr,rfl,e3,e4,e5,e6,e7,e8,e31,e32,e47,e48⟩
 refine zaf zah ?_
 simp only [l70_2,r70_16,SS,reduceIte,e47,e48]
 refine ⟨fun hlt=>?_,fun hge=>?_⟩
 ·obtain ⟨k,rfl⟩:∃k',k=k'+1:=⟨k-1,by omega⟩
  have hj:j<m:=by omega
  have hm2:=hF.m2
  obtain ⟨c0,h0⟩:=hF.val 0 (by omega)
  have hl:=hF.len
  have l0:=hF.shS.row 0 (by omega)
  have l1:=hF.shS.row (i+1) (by omega)
  have g1:(i64z (S.getD (i+1) [])).getD (j+1) .junk= .int .i64 (ent S (i+1) (j+1)):=zbv _ (j+1) (by omega) _
  have g2:(i64z (S.getD (i+1) [])).getD 0 .junk= .int .i64 (ent S (i+1) 0):=zbv _ 0 (by omega) _
  have g3:(i64z (S.getD 0 [])).getD (j+1) .junk= .int .i64 (ent S 0 (j+1)):=zbv _ (j+1) (by omega) _
  have w5:IntKind.i64.wrap ((j:Int)+1)=((j+1:Nat):Int):=by rw [show (j:Int)+1=((j+1:Nat):Int) by omega];exact w64 (by omega) (by omega)
  have hset:(rows.set i r).length=i+1:=by simp [hrl]
  have gr:=zfl (N:=m) (n:=m) (i:=i) (rows:=rows.set i r) (by omega)
  have gri:(rows.set i r).getD i []=r:=by rw [qX,qO (by omega)];rfl
  rw [gri] at gr
  have go:getB (bH m m (rows.set i r)) 0=some (outS m m (i+1)):=by rw [zdv,hset]
  have gol:=zek (N:=m) (n:=m) (i:=i+1) (by omega)
  have gog:=zel (N:=m) (n:=m) (i:=i+1) (k:=i) (by omega)
  obtain ⟨b1,b2⟩:=hF.big (i+1) (j+1) (by omega) (by omega)
  obtain ⟨b3,b4,_,_⟩:=hF.low (i+1) (by omega)
  obtain ⟨_,_,b5,b6⟩:=hF.low (j+1) (by omega)
  obtain ⟨d1,d2⟩:=hF.db
  have p1:=zhl (x:=d) (y:=ent S (i+1) (j+1)) (a:=65536) (b:=34359738368) (by omega) (by omega) b2 b1
  have p2:=zhl (x:=ent S (i+1) 0) (y:=ent S 0 (j+1)) (a:=65536) (b:=65536) b4 b3 b6 b5
  have hq:=hF.quo i j hi hj
  have w1:IntKind.i64.wrap (d*ent S (i+1) (j+1))=d*ent S (i+1) (j+1):=w64 (by omega) (by omega)
  have w2:IntKind.i64.wrap (ent S (i+1) 0*ent S 0 (j+1))=ent S (i+1) 0*ent S 0 (j+1):=w64 (by omega) (by omega)
  have w3:IntKind.i64.wrap (d*ent S (i+1) (j+1)-ent S (i+1) 0*ent S 0 (j+1))=d*ent S (i+1) (j+1)-ent S (i+1) 0*ent S 0 (j+1):=w64 (by omega) (by omega)
  have w4:IntKind.i64.wrap (ent T i j)=ent T i j:=by
   have h1:(ent T i j).natAbs=(d*ent S (i+1) (j+1)-ent S (i+1) 0*ent S 0 (j+1)).natAbs/last.natAbs:=by rw [←hq];exact Int.natAbs_tdiv _ _
   have h2:=xI (d*ent S (i+1) (j+1)-ent S (i+1) 0*ent S 0 (j+1)).natAbs last.natAbs
   exact w64 (by omega) (by omega)
  simp only [r70_17,r70_18,SS,forall_const,reduceIte,qQ,qM,e3,e4,e5,e6,e7,e8,e48,qK,qD,go,gol,gog,h0,hl,l0,l1,g1,g2,g3,zax,w5,w1,w2,w3,hq,w4,gr,hrm,zdl]
  have hl0:=hF.last0
  refine ⟨⟨by omega,by omega⟩,by omega,⟨by omega,by omega⟩,by omega,⟨by omega,by omega⟩,⟨by omega,by omega⟩,⟨by omega,by omega⟩,by omega,hl0,⟨by omega,by omega⟩,by omega,rfl,?_⟩
  simp only [r70_19,SS,reduceIte,qQ,e48,w5,zgs]
  refine ⟨k,_,_,by omega,⟨j+1,r.set j (ent T i j),by omega,by simp [hrm],fun t ht=>?_,?_,?_,?_,?_,?_,?_,?_,?_,?_,?_,?_⟩,.refl⟩
  ·rw [qX]
   rcases (by omega:t<j∨t=j) with e | e
   ·rw [List.getElem?_set_ne (by omega),←qX];exact hr t e
   ·rw [e,qO (by omega)];rfl
  ·rw [List.set_set]
  all_goals simp only [zaa,qQ,reduceIte,if_false, *]
 ·have hjm:j=m:=by omega
  subst hjm
  exact hQ _ r hrm hr (by simp only [zaa,qQ,if_false,e3]) (by simp only [zaa,qQ,if_false,e4]) (by simp only [zaa,qQ,if_false,e5]) (by simp only [zaa,qQ,if_false,e6]) (by simp only [zaa,qQ,if_false,e31]) (by simp only [zaa,qQ,if_false,e32])
theorem qgu {i:Nat} (hi:i<T.length):T.take i++[T.getD i []]=T.take (i+1):=by
 rw [List.take_add_one,qX,qY hi];rfl
theorem qbh (hF:StF m S T sr sc d last) {E:Env} {Q:Post}
  (e3:E 3= .vec sr (m+1) sc) (e4:E 4= .int .i64 last) (e5:E 5= .int .i64 d) (e6:E 6= .sl 0 0 m 1 (some m)) (e31:E 31= .int .i64 (m:Nat)) (e32:E 32= .int .i64 0)
  (hQ:∀E',E' 3= .vec sr (m+1) sc→E' 4= .int .i64 last→E' 5= .int .i64 d→E' 6= .sl 0 0 m 1 (some m)→Q (.exit 2) E' (bH m m T)):
  W Tryz.prog G 0 118 (.loop l70_1) E (bH m m []) Q:=by
 refine zal (fun k E H=>∃i,i+k=m∧H=bH m m (T.take i)∧E 3= .vec sr (m+1) sc∧E 4= .int .i64 last∧E 5= .int .i64 d∧E 6= .sl 0 0 m 1 (some m)∧E 31= .int .i64 (m:Nat)∧E 32= .int .i64 (i:Nat)) (n:=m)
  ⟨0,by omega,rfl,e3,e4,e5,e6,e31,e32⟩ ?_
 clear e3 e4 e5 e6 e31 e32 E
 rintro k E H ⟨i,hik,rfl,e3,e4,e5,e6,e31,e32⟩
 refine zaf zah ?_
 simp only [l70_1,r70_11,SS,reduceIte,e31,e32]
 refine ⟨fun hlt=>?_,fun hge=>?_⟩
 ·obtain ⟨k,rfl⟩:∃k',k=k'+1:=⟨k-1,by omega⟩
  have hi:i<m:=by omega
  have hm2:=hF.m2
  have hTl:=hF.shT.len
  obtain ⟨ci,hei⟩:=hF.val (i+1) (by omega)
  have hl:=hF.len
  have htl:(T.take i).length=i:=by rw [List.length_take];omega
  have w5:IntKind.i64.wrap ((i:Int)+1)=((i+1:Nat):Int):=by rw [show (i:Int)+1=((i+1:Nat):Int) by omega];exact w64 (by omega) (by omega)
  have hbl:(bH m m (T.take i)).length=i+1:=by rw [zxu,htl]
  have go:getB (bH m m (T.take i)++[some (i64z (List.replicate m 0))]) 0=some (outS m m i):=by
   have:getB (bH m m (T.take i)) 0=some (outS m m i):=by rw [zdv,htl]
   exact this
  have gol:=zek (N:=m) (n:=m) (i:=i) (by omega)
  have hnew:=zxv (N:=m) (n:=m) (rows:=T.take i) (List.replicate m 0) (by omega)
  rw [htl] at hnew
  simp only [r70_12,r70_13,r70_14,SS,forall_const,reduceIte,qQ,qM,e3,e6,e32,qK,w5,hei,hl,hbl,zjs,go,gol]
  refine ⟨⟨by omega,by omega⟩,by omega,by decide,⟨by omega,by omega,by omega,by omega⟩,⟨by omega,by omega⟩,by omega,?_⟩
  rw [hnew]
  simp only [r70_15,SS,reduceIte,qQ,e6]
  refine qgt hF hi (ci:=ci) (rows:=T.take i++[List.replicate m 0]) (by simp;omega) ?_ (by simp only [zaa,qQ,if_false,e3]) (by simp only [zaa,qQ,if_false,e4]) (by simp only [zaa,qQ,if_false,e5]) (by simp only [zaa,qQ,if_false,e6]) (by simp only [zaa,qQ,reduceIte,if_false]) (by simp only [zaa,qQ,reduceIte,if_false]) (by simp only [zaa,qQ,if_false,e31]) (by simp only [zaa,qQ,if_false,e32]) (by simp only [zaa,qQ,reduceIte,if_false]) (by simp only [zaa,qQ,reduceIte,if_false]) ?_
  ·rw [qX,qH (by omega),htl,qT]
   simp
  intro E' r hrm hr f3 f4 f5 f6 f31 f32
  have er:r=T.getD i []:=by
   have hTi:=hF.shT.row i hi
   refine yV (by omega) fun t h1 h2=>?_
   have:=hr t (by omega)
   unfold ent at this
   rw [qX,qY h1,qX (l:=T.getD i []),qY h2] at this
   exact this
  have eset:(T.take i++[List.replicate m 0]).set i r=T.take (i+1):=by
   rw [xX _ _ (by omega),htl,qT,er]
   exact qgu (by omega)
  rw [eset]
  simp only [r70_20,SS,reduceIte,qQ,f32,w5]
  refine ⟨k,_,_,by omega,⟨i+1,by omega,rfl,?_,?_,?_,?_,?_,?_⟩,.refl⟩
  all_goals simp only [zaa,qQ,reduceIte,if_false, *]
 ·have him:i=m:=by omega
  have htl:T.take i=T:=qP (by rw [hF.shT.len];omega)
  rw [htl]
  exact hQ _ (by simp only [zaa,qQ,if_false,e3]) (by simp only [zaa,qQ,if_false,e4]) (by simp only [zaa,qQ,if_false,e5]) (by simp only [zaa,qQ,if_false,e6])
end
end Go.Proofs.YtpflahgcdgdkjaaGreatDoor
namespace Go.Det
open Nat renaming le_refl → qA, lt_or_ge → qL
open Int renaming mul_le_mul_of_nonneg_right → xJ
set_option linter.unusedSimpArgs false
set_option linter.unusedVariables false
structure Part (n:Nat) (a:Nat→Row) (k:Nat):Prop where
 pos:∀t,t<k→0<lead a (t+1)
 lt:∀t,t<k→lead a (t+1)<65536
 sized:∀t i,t<k→i<n→t<i→2*stg a t i t≤lead a (t+1)∧ -(2*stg a t i t)≤lead a (t+1)
 lov:∀t,t<k→3*(lead a (t+1)*lead a (t+1))≤4*(lead a t*lead a (t+2)+stg a t (t+1) t*stg a t (t+1) t)
theorem Part.zero {n:Nat} {a:Nat→Row}:Part n a 0:=⟨fun _ h=>absurd h (by omega),fun _ h=>absurd h (by omega),fun _ _ h=>absurd h (by omega),fun _ h=>absurd h (by omega)⟩
theorem Part.pos' {n k:Nat} {a:Nat→Row} (h:Part n a k):∀t,t≤k→0<lead a t:=by
 intro t ht
 cases t with
 | zero=>rw [zaz];decide
 | succ t=>exact h.pos t (by omega)
theorem Part.ne {n k:Nat} {a:Nat→Row} (h:Part n a k):∀t,t≤k→lead a t≠0:=fun t ht=>by have:=h.pos' t ht;omega
theorem Part.lt' {n k:Nat} {a:Nat→Row} (h:Part n a k):∀t,t≤k→lead a t<65536:=by
 intro t ht
 cases t with
 | zero=>rw [zaz];decide
 | succ t=>exact h.lt t (by omega)
theorem Part.next {n k:Nat} {a:Nat→Row} (h:Part n a k) (h1:0<lead a (k+1)) (h2:lead a (k+1)<65536) (h3:∀i,i<n→k<i→2*stg a k i k≤lead a (k+1)∧ -(2*stg a k i k)≤lead a (k+1))
  (h4:3*(lead a (k+1)*lead a (k+1))≤4*(lead a k*lead a (k+2)+stg a k (k+1) k*stg a k (k+1) k)):Part n a (k+1):=by
 have sp:∀t,t<k+1→t<k∨t=k:=fun t ht=>by omega
 refine ⟨fun t ht=>?_,fun t ht=>?_,fun t i ht hi hti=>?_,fun t ht=>?_⟩
 ·rcases sp t ht with e | e
  ·exact h.pos t e
  ·rw [e];exact h1
 ·rcases sp t ht with e | e
  ·exact h.lt t e
  ·rw [e];exact h2
 ·rcases sp t ht with e | e
  ·exact h.sized t i e hi hti
  ·subst e;exact h3 i hi hti
 ·rcases sp t ht with e | e
  ·exact h.lov t e
  ·subst e;exact h4
theorem Part.red {n:Nat} {a:Nat→Row} (h1:1≤n) (h8:n≤8) (hs:∀i j,i<n→j<n→a i j=a j i) (h:Part n a (n-1)) (hp:0<lead a n) (hd:lead a n≤10000):Red n a:=by
 refine ⟨h1,h8,hs,fun k hk=>?_,hd,fun i j hi hj=>h.sized j i (by omega) hi hj,fun i h0 hi=>?_⟩
 ·rcases qL k (n-1) with e | e
  ·exact h.pos k e
  ·have:k+1=n:=by omega
   rw [this];exact hp
 ·have:=h.lov (i-1) (by omega)
  have e1:i-1+1=i:=by omega
  have e2:i-1+2=i+1:=by omega
  rw [e1,e2] at this
  exact this
theorem Part.entry {n:Nat} {a:Nat→Row} (hs:∀i j,i<n→j<n→a i j=a j i) (hb:∀i j,i<n→j<n→a i j≤262144∧ -262144≤a i j):∀k,k<n→Part n a k→∀i j,i<n→j<n→k≤i→k≤j→
  stg a k i j≤lead a k*(262144+16384*(k:Int))∧ -(lead a k*(262144+16384*(k:Int)))≤stg a k i j:=by
 intro k
 induction k with
 | zero=>
  intro _ _ i j hi hj _ _
  rw [zdm,zaz]
  have:=hb i j hi hj
  omega
 | succ k ih=>
  intro hk h i j hi hj h1 h2
  have hpre:Part n a k:=⟨fun t ht=>h.pos t (by omega),fun t ht=>h.lt t (by omega),fun t i ht=>h.sized t i (by omega),fun t ht=>h.lov t (by omega)⟩
  obtain ⟨x1,x2⟩:=ih (by omega) hpre i j hi hj (by omega) (by omega)
  have hn:=hpre.ne
  have e:=zbs hn i j
  obtain ⟨u1,u2⟩:=h.sized k i (by omega) hi (by omega)
  obtain ⟨v1,v2⟩:=h.sized k j (by omega) hj (by omega)
  rw [zgm hs k (by omega) hn k j (by omega) hj (by omega) (by omega)] at e
  have p:=hpre.pos' k (qA _)
  have p1:=h.pos k (by omega)
  have q1:=h.lt k (by omega)
  have:=qvr (by omega) (by omega) (by omega) e x1 x2 u1 u2 v1 v2
  have c:(262144+16384*(k:Int)+16384)=262144+16384*((k+1:Nat):Int):=by omega
  rw [c] at this
  exact this
theorem Part.entry35 {n k:Nat} {a:Nat→Row} (h8:n≤8) (hs:∀i j,i<n→j<n→a i j=a j i) (hb:∀i j,i<n→j<n→a i j≤262144∧ -262144≤a i j) (hk:k<n) (h:Part n a k) {i j:Nat} (hi:i<n) (hj:j<n) (h1:k≤i) (h2:k≤j):
  stg a k i j≤34359738368∧ -34359738368≤stg a k i j:=by
 obtain ⟨e1,e2⟩:=Part.entry hs hb k hk h i j hi hj h1 h2
 have p:=h.pos' k (qA _)
 have q:=h.lt' k (qA _)
 have c:lead a k*(262144+16384*(k:Int))≤65536*524288:=by
  have m1:lead a k*(262144+16384*(k:Int))≤65536*(262144+16384*(k:Int)):=xJ (by omega) (by omega)
  have m2:(65536:Int)*(262144+16384*(k:Int))≤65536*524288:=by omega
  omega
 omega
theorem Red.part {n:Nat} {a:Nat→Row} (h:Red n a) {k:Nat} (hk:k+1<n):0<lead a (k+1)∧lead a (k+1)<65536∧(∀i,i<n→k<i→2*stg a k i k≤lead a (k+1)∧ -(2*stg a k i k)≤lead a (k+1))∧
  3*(lead a (k+1)*lead a (k+1))≤4*(lead a k*lead a (k+2)+stg a k (k+1) k*stg a k (k+1) k):=by
 have:=h.minor (k:=k+1) (by omega)
 refine ⟨h.pos k (by omega),by omega,fun i hi hki=>h.sized i k hi hki,?_⟩
 have:=h.lov (k+1) (by omega) hk
 exact this
theorem qgv {n k:Nat} {a:Nat→Row} (h:Part n a k) (i j:Nat):Int.tdiv (lead a (k+1)*stg a k i j-stg a k i k*stg a k k j) (lead a k)=stg a (k+1) i j:=by
 rw [←zbs h.ne i j,Int.mul_tdiv_cancel_left _ (h.ne k (qA _))]
end Go.Det
namespace Go.Proofs.YtpflahgcdgdkjaaGreatDoor
open Nat renaming reduceEqDiff → qQ, le_refl → qA, eq_zero_or_pos → qE, reduceLeDiff → qM
open List renaming getD_cons_succ → qZ
open Int renaming toNat_natCast → qK, toNat_zero → qD, mul_le_mul_of_nonneg_right → xJ
set_option linter.unusedSimpArgs false
set_option linter.unusedVariables false
open Go Go.AL Go.Proofs Go.Limb Go.Det
set_option maxRecDepth 100000
theorem qgw {n k:Nat} {M:List (List Int)} (hs:∀i j,i<n→j<n→rowF M i j=rowF M j i) (hP:Part n (rowF M) k) (hk:k+1<n) (hsh:zyl (n-k) (zbi n k M)):∀i,i<n-k→ -65536≤ent (zbi n k M) i 0∧ent (zbi n k M) i 0≤65536∧ -65536≤ent (zbi n k M) 0 i∧ent (zbi n k M) 0 i≤65536:=by
 intro i hi
 have e:ent (zbi n k M) 0 i=ent (zbi n k M) i 0:=by
  rw [zco (by omega) hi,zco hi (by omega)]
  exact zgm hs k (by omega) hP.ne _ _ (by omega) (by omega) (by omega) (by omega)
 rw [e]
 obtain ⟨h1,h2,h3⟩:=hsh
 rcases qE i with h0 | h0
 ·subst h0;omega
 ·have:=h3 i h0 hi
  omega
theorem zpd {n k:Nat} {a:Nat→Det.Row} (n8:n≤8) (hs:∀i j,i<n→j<n→a i j=a j i) (hb:∀i j,i<n→j<n→a i j≤262144∧ -262144≤a i j) (hP:Part n a k) (hk:k+1<n) (h1:0<lead a (k+1)) (h2:lead a (k+1)<65536)
  (h3:∀i,i<n→k<i→2*stg a k i k≤lead a (k+1)∧ -(2*stg a k i k)≤lead a (k+1)) {i j:Nat} (hi:i<n) (hj:j<n) (hki:k<i) (hkj:k<j):stg a (k+1) i j≤34359738368∧ -34359738368≤stg a (k+1) i j:=by
 obtain ⟨x1,x2⟩:=Part.entry hs hb k (by omega) hP i j hi hj (by omega) (by omega)
 have hn:=hP.ne
 have e:=zbs hn i j
 obtain ⟨u1,u2⟩:=h3 i hi hki
 obtain ⟨v1,v2⟩:=h3 j hj hkj
 rw [zgm hs k (by omega) hn k j (by omega) hj (by omega) (by omega)] at e
 have p:=hP.pos' k (qA _)
 obtain ⟨y1,y2⟩:=qvr (by omega) (by omega) (by omega) e x1 x2 u1 u2 v1 v2
 have c:lead a (k+1)*(262144+16384*(k:Int)+16384)≤65536*524288:=by
  have m1:lead a (k+1)*(262144+16384*(k:Int)+16384)≤65536*(262144+16384*(k:Int)+16384):=xJ (by omega) (by omega)
  omega
 omega
theorem qbi {M:List (List Int)} {a:AV} (h:ImV M a) (h62:M.length<4611686018427387904) (hr62:∀i,i<M.length→(M.getD i []).length<4611686018427387904) {b:Bool} (hb:b=true↔zjz M∧Red M.length (rowF M)):Ret Tryz.prog G 70 [a] [] (.bool b) []:=by
 have no:¬(zjz M∧Red M.length (rowF M))→b=false:=by
  intro hn
  cases b with
  | false=>rfl
  | true=>exact absurd (hb.1 rfl) hn
 refine zai zah Tryz.func70 comp70 _ 118 res70 nt70 (by simp) (by simp) ?_
 by_cases hS:zjz M
 rotate_left
 ·obtain rfl:=no (fun e=>hS e.1)
  have t1:=qoy h h62 hr62 (b:=false) ⟨fun e=>by simp at e,fun e=>absurd e hS⟩
  obtain ⟨rows,c,rfl,hl,hr⟩:=h.val
  simp only [c70,r70_0,r70_1,SS,reduceCtorEq,reduceIte]
  refine zab t1 ?_
  simp only [SS,forall_const,reduceIte,qQ]
  simp only [r70_2,SS]
  exact ⟨.inl trivial,_,rfl,.drop _ _ rfl (by intro i cs h;omega)⟩
 have t1:=qoy h h62 hr62 (b:=true) ⟨fun _=>hS,fun _=>rfl⟩
 have hf0:=h.fit
 have himv:=h
 obtain ⟨rows,c,rfl,hl,hr⟩:=h.val
 obtain ⟨n1,n8,hsh,hent⟩:=hS
 generalize hn:M.length=n at*
 have hsym:∀i j,i<n→j<n→rowF M i j=rowF M j i:=fun i j hi hj=>(hent i j hi hj).1
 have hbnd:∀i j,i<n→j<n→rowF M i j≤262144∧ -262144≤rowF M i j:=fun i j hi hj=>by have:=hent i j hi hj;show ent M i j≤_∧_≤ent M i j;omega
 simp only [c70,r70_0,r70_1,SS,reduceCtorEq,reduceIte]
 refine zab t1 ?_
 simp only [SS,forall_const,reduceIte,qQ]
 simp only [r70_3,r70_4,SS,reduceCtorEq,reduceIte,qQ]
 refine zal (fun q E H=>∃k sr sc,k+q+1=n∧Part n (rowF M) k∧ImV (zbi n k M) (.vec sr (n-k) sc)∧E 3= .vec sr (n-k) sc∧E 4= .int .i64 (lead (rowF M) k)∧H=[]) (n:=n-1)
  ⟨0,rows,c,by omega,Part.zero,by rw [qbg hsh];exact himv,by simp only [zaa,zac,qZ,qQ,reduceIte,if_false];rfl,by simp only [zaa,zac,qZ,qQ,reduceIte,if_false];rfl,rfl⟩ ?_
 rintro q E H ⟨k,sr,sc,hkq,hP,hV,e3,e4,rfl⟩
 refine zaf zah ?_
 have hsS:=znr n k M
 obtain ⟨srw,src,hse,hsl,hsr⟩:=hV.val
 rw [hsS.len] at hse hsl hsr
 injection hse with hs1 hs2 hs3
 subst hs1 hs3
 obtain ⟨c0,hc0⟩:=hsr 0 (by omega)
 have l0:=hsS.row 0 (by omega)
 have g00:(i64z ((zbi n k M).getD 0 [])).getD 0 .junk= .int .i64 (ent (zbi n k M) 0 0):=zbv _ 0 (by omega) _
 have e00:ent (zbi n k M) 0 0=lead (rowF M) (k+1):=by rw [zco (by omega) (by omega),zay];rfl
 simp only [l70_0,r70_5,SS,reduceCtorEq,reduceIte,qQ,e3]
 refine ⟨fun hgt=>?_,fun hle=>?_⟩
 ·obtain ⟨m,hm⟩:∃m,n-k=m+1:=⟨n-k-1,by omega⟩
  have hk1:k+1<n:=by omega
  have hbig:∀i j,i<n-k→j<n-k→ -34359738368≤ent (zbi n k M) i j∧ent (zbi n k M) i j≤34359738368:=by
   intro i j hi hj
   rw [zco hi hj]
   have:=hP.entry35 n8 hsym hbnd (by omega) (i:=k+i) (j:=k+j) (by omega) (by omega) (by omega) (by omega)
   omega
  simp only [r70_6,r70_7,SS,forall_const,reduceIte,qQ,e3,hc0,hsl,l0,g00,zax,qD]
  refine ⟨⟨by omega,by omega⟩,by omega,⟨by omega,by omega⟩,by omega,?_⟩
  by_cases hsp:zyl (n-k) (zbi n k M)
  rotate_left
  ·have hbf:=no (fun e=>hsp (by
    obtain ⟨r1,r2,r3,_⟩:=e.2.part hk1
    refine ⟨by rw [e00];exact r1,by rw [e00];exact r2,fun i h0 hi=>?_⟩
    rw [e00,zco hi (by omega)]
    exact r3 (k+i) (by omega) (by omega)))
   subst hbf
   have t2:=qoz hV hsS (by omega) (fun i hi=>by have:=hbig i 0 hi (by omega);omega) (b:=false) ⟨fun e=>by simp at e,fun e=>absurd e hsp⟩
   refine zab t2 ?_
   simp only [SS,forall_const,reduceIte,qQ]
   simp only [r70_8,SS]
   exact ⟨.inl trivial,_,rfl,.drop _ _ rfl (by intro i cs h;omega)⟩
  have t2:=qoz hV hsS (by omega) (fun i hi=>by have:=hbig i 0 hi (by omega);omega) (b:=true) ⟨fun _=>hsp,fun _=>rfl⟩
  refine zab t2 ?_
  simp only [SS,forall_const,reduceIte,qQ]
  have w1:IntKind.i64.wrap (((n-k:Nat):Int)-1)=(m:Nat):=by rw [show ((n-k:Nat):Int)-1=(m:Nat) by omega];exact w64 (by omega) (by omega)
  simp only [r70_9,SS,reduceIte,qQ,e3,w1,qK]
  refine ⟨by decide,⟨by omega,by omega,by omega,by omega⟩,?_⟩
  obtain ⟨sp1,sp2,sp3⟩:=hsp
  have hlow:=qgw hsym hP hk1 ⟨sp1,sp2,sp3⟩
  have sz:∀i,i<n→k<i→2*stg (rowF M) k i k≤lead (rowF M) (k+1)∧ -(2*stg (rowF M) k i k)≤lead (rowF M) (k+1):=by
   intro i hi hki
   have:=sp3 (i-k) (by omega) (by omega)
   rw [e00,zco (by omega) (by omega),show k+(i-k)=i by omega] at this
   exact this
  rw [e00] at sp1 sp2
  have hTs:Shp m (zbi n (k+1) M):=by
   have:=znr n (k+1) M
   rw [show n-(k+1)=m by omega] at this
   exact this
  have hq:∀i j,i<m→j<m→Int.tdiv (lead (rowF M) (k+1)*ent (zbi n k M) (i+1) (j+1)-ent (zbi n k M) (i+1) 0*ent (zbi n k M) 0 (j+1)) (lead (rowF M) k)=ent (zbi n (k+1) M) i j:=by
   intro i j hi hj
   rw [zco (by omega) (by omega),zco (by omega) (by omega),zco (by omega) (by omega),zco (by omega) (by omega)]
   rw [show k+(i+1)=k+1+i by omega,show k+(j+1)=k+1+j by omega]
   exact qgv hP _ _
  have hF:StF m (zbi n k M) (zbi n (k+1) M) sr sc (lead (rowF M) (k+1)) (lead (rowF M) k):=by
   refine ⟨by omega,by rw [←hm];exact hsS,hTs,fun i hi=>?_,by omega,e00.symm,⟨sp1,sp2⟩,hP.ne k (qA _),fun i j hi hj=>hbig i j (by omega) (by omega),fun i hi=>hlow i (by omega),hq⟩
   obtain ⟨c',hc'⟩:=hsr i (by omega)
   rw [hsS.row i (by omega),hm] at hc'
   exact ⟨c',hc'⟩
  simp only [r70_10,SS,reduceIte,qQ]
  have hb0:[some (List.replicate m (AV.vec [] 0 (some 0)))]=bH m m []:=rfl
  rw [hb0]
  refine qbh hF (by simp only [zaa,qQ,if_false,e3,hm]) (by simp only [zaa,qQ,if_false,e4]) (by simp only [zaa,qQ,reduceIte,if_false,e00]) (by simp only [zaa,qQ,reduceIte,if_false]) (by simp only [zaa,qQ,reduceIte,if_false]) (by simp only [zaa,qQ,reduceIte,if_false]) ?_
  intro E' f3 f4 f5 f6
  obtain ⟨c1,hc1⟩:=hF.val 1 (by omega)
  have l1:=hF.shS.row 1 (by omega)
  have g10:(i64z ((zbi n k M).getD 1 [])).getD 0 .junk= .int .i64 (ent (zbi n k M) 1 0):=zbv _ 0 (by omega) _
  have lT:=hTs.row 0 (by omega)
  have gT:(i64z ((zbi n (k+1) M).getD 0 [])).getD 0 .junk= .int .i64 (ent (zbi n (k+1) M) 0 0):=zbv _ 0 (by omega) _
  have eT:ent (zbi n (k+1) M) 0 0=lead (rowF M) (k+2):=by rw [zco (by omega) (by omega),zay (rowF M) (k+1)]
  have eL:ent (zbi n k M) 1 0=stg (rowF M) k (k+1) k:=by rw [zco (by omega) (by omega)];rfl
  have go:getB (bH m m (zbi n (k+1) M)) 0=some (outS m m m):=by rw [zdv,hTs.len]
  have gol:=zek (N:=m) (n:=m) (i:=m) (qA _)
  have gog:=zel (N:=m) (n:=m) (i:=m) (k:=0) (by omega)
  have gr:=zfl (N:=m) (n:=m) (i:=0) (rows:=zbi n (k+1) M) (by rw [hTs.len];omega)
  have nb:=zpd n8 hsym hbnd hP hk1 sp1 sp2 sz (i:=k+1) (j:=k+1) hk1 hk1 (by omega) (by omega)
  rw [←zay] at nb
  have lk:=hP.lt' k (qA _)
  have lk0:=hP.pos' k (qA _)
  have sl:=sz (k+1) hk1 (by omega)
  have p1:=zhl (x:=lead (rowF M) k) (y:=lead (rowF M) (k+2)) (a:=65536) (b:=34359738368) (by omega) (by omega) nb.1 nb.2
  have p2:=zhl (x:=stg (rowF M) k (k+1) k) (y:=stg (rowF M) k (k+1) k) (a:=65536) (b:=65536) (by omega) (by omega) (by omega) (by omega)
  have p3:=zhl (x:=3*lead (rowF M) (k+1)) (y:=lead (rowF M) (k+1)) (a:=262144) (b:=65536) (by omega) (by omega) (by omega) (by omega)
  have w2:IntKind.i64.wrap (lead (rowF M) k*lead (rowF M) (k+2))=lead (rowF M) k*lead (rowF M) (k+2):=w64 (by omega) (by omega)
  have w3:IntKind.i64.wrap (stg (rowF M) k (k+1) k*stg (rowF M) k (k+1) k)=stg (rowF M) k (k+1) k*stg (rowF M) k (k+1) k:=w64 (by omega) (by omega)
  have w4:IntKind.i64.wrap (lead (rowF M) k*lead (rowF M) (k+2)+stg (rowF M) k (k+1) k*stg (rowF M) k (k+1) k)=lead (rowF M) k*lead (rowF M) (k+2)+stg (rowF M) k (k+1) k*stg (rowF M) k (k+1) k:=w64 (by omega) (by omega)
  have w5:IntKind.i64.wrap (4*(lead (rowF M) k*lead (rowF M) (k+2)+stg (rowF M) k (k+1) k*stg (rowF M) k (k+1) k))=4*(lead (rowF M) k*lead (rowF M) (k+2)+stg (rowF M) k (k+1) k*stg (rowF M) k (k+1) k):=w64 (by omega) (by omega)
  have w6:IntKind.i64.wrap (3*lead (rowF M) (k+1))=3*lead (rowF M) (k+1):=w64 (by omega) (by omega)
  have w7:IntKind.i64.wrap (3*lead (rowF M) (k+1)*lead (rowF M) (k+1))=3*lead (rowF M) (k+1)*lead (rowF M) (k+1):=w64 (by omega) (by omega)
  have hlenS:=hF.len
  simp only [SS,forall_const,reduceCtorEq,reduceIte,Nat.reduceAdd,qQ,qM,r70_21,r70_22,f3,f4,f5,f6,hc1,hlenS,l1,g10,zax,qD,Int.toNat_one,go,gol,gog,gr,lT,gT,eT,eL,w2,w3,w4,w5,w6,w7]
  have assoc:3*lead (rowF M) (k+1)*lead (rowF M) (k+1)=3*(lead (rowF M) (k+1)*lead (rowF M) (k+1)):=Int.mul_assoc _ _ _
  refine ⟨⟨by omega,by omega⟩,by omega,⟨by omega,by omega⟩,⟨by omega,by omega⟩,by omega,⟨by omega,by omega⟩,by omega,fun hno=>?_,fun hyes=>?_⟩
  ·have hbf:=no (fun e=>by
    obtain ⟨_,_,_,r4⟩:=e.2.part hk1
    omega)
   subst hbf
   simp only [r70_23,SS]
   exact ⟨.inl trivial,_,rfl,.drop _ _ rfl (by intro i cs h;omega)⟩
  ·obtain ⟨q,rfl⟩:∃q',q=q'+1:=⟨q-1,by omega⟩
   have hP':=hP.next sp1 sp2 sz (by omega)
   have hnk:n-(k+1)=m:=by omega
   have key3:∀E:Env,E 3= .sl 0 0 m 1 (some m)→frzE 0 3 (bH m m (zbi n (k+1) M)) E 3= .vec (zcp m (zbi n (k+1) M)) (n-(k+1)) (some m):=by
    intro E h
    unfold frzE
    rw [h,if_neg (by simp [AV.under]),qft hTs.len hTs.row,hnk]
    rfl
   have key4:∀(E:Env) (z:Int),E 4= .int .i64 z→frzE 0 3 (bH m m (zbi n (k+1) M)) E 4= .int .i64 z:=by
    intro E z h
    unfold frzE
    rw [h]
    rfl
   have hfit:∀i j,In64 (ent (zbi n (k+1) M) i j):=by
    intro i j
    by_cases hij:i<m∧j<m
    ·rw [zco (by omega) (by omega)]
     have:=zpd n8 hsym hbnd hP hk1 sp1 sp2 sz (i:=k+1+i) (j:=k+1+j) (by omega) (by omega) (by omega) (by omega)
     unfold In64;omega
    ·rw [hTs.out (by omega)]
     unfold In64;omega
   have hV':=zlt (N:=m) (n:=m) (c:=some m) hTs.len hTs.row hfit
   simp only [r70_24,SS,reduceIte,qQ,f5,f6]
   refine ⟨q,frzE 0 3 (bH m m (zbi n (k+1) M)) _,List.take 0 (bH m m (zbi n (k+1) M)),by omega,⟨k+1,zcp m (zbi n (k+1) M),some m,by omega,hP',by rw [hnk];exact hV',key3 _ (by simp only [zaa,qQ,reduceIte,if_false]),key4 _ _ (by simp only [zaa,qQ,reduceIte,if_false]),rfl⟩,zqh 0 3 (qA _) (Nat.zero_le _) (fun i cs h=>absurd h (by omega))⟩
 ·have hkn:k+1=n:=by omega
  have eN:ent (zbi n k M) 0 0=lead (rowF M) n:=by rw [e00,hkn]
  have hfit0:=hV.fit 0 0
  simp only [r70_25,SS,forall_const,reduceIte,qQ,e3,hc0,hsl,l0,g00,zax,qD,eN]
  have hkk:k=n-1:=by omega
  rw [hkk] at hP
  refine ⟨⟨by omega,by omega⟩,by omega,⟨by omega,by omega⟩,by omega,fun hpos=>⟨⟨by omega,by omega⟩,by omega,⟨by omega,by omega⟩,by omega,?_⟩,fun hneg=>?_⟩
  ·have hbv:b=decide (lead (rowF M) n≤10000):=by
    by_cases hd:lead (rowF M) n≤10000
    ·rw [decide_eq_true hd]
     exact hb.2 ⟨by unfold zjz;rw [hn];exact ⟨n1,n8,hsh,hent⟩,hP.red n1 n8 hsym hpos hd⟩
    ·rw [decide_eq_false hd]
     exact no (fun e=>hd e.2.small)
   subst hbv
   exact ⟨.inl trivial,_,rfl,.drop _ _ rfl (by intro i cs h;omega)⟩
  ·have hbf:=no (fun e=>by have:=e.2.pos' n (qA _);omega)
   subst hbf
   have d0:decide (0<lead (rowF M) n)=false:=decide_eq_false hneg
   simp only [d0]
   exact ⟨.inl trivial,_,rfl,.drop _ _ rfl (by intro i cs h;omega)⟩
end Go.Proofs.YtpflahgcdgdkjaaGreatDoor
namespace Go.Proofs.YtpflahgcdgdkjaaGreatDoor
set_option linter.unusedSimpArgs false
set_option linter.unusedVariables false
open Go Go.AL Go.Proofs Go.Det
set_option maxRecDepth 100000
theorem ztq {n:Nat} {M:List (List Int)} (hS:Shp n M) (h:Red n (rowF M)) (i j:Nat):ent M i j≤180224∧ -180224≤ent M i j:=by
 by_cases hi:i<n∧j<n
 ·exact h.entry hi.1 hi.2
 ·rw [hS.out (by omega)];omega
theorem qmo {n:Nat} {M:List (List Int)} (hS:Shp n M) (h:Red n (rowF M)) (i j:Nat):In64 (ent M i j):=by
 have:=ztq hS h i j
 unfold In64;omega
theorem qgx {n:Nat} {M:List (List Int)} (hS:Shp n M) (h:Red n (rowF M)):zjz M:=by
 have hl:=hS.len
 refine ⟨by rw [hl];exact h.n1,by rw [hl];exact h.n8,by rw [hl];exact hS,fun i j hi hj=>?_⟩
 rw [hl] at hi hj
 have:=ztq hS h i j
 exact ⟨h.sym i j hi hj,by omega,by omega⟩
end Go.Proofs.YtpflahgcdgdkjaaGreatDoor
namespace Go.Limb
open Nat renaming mod_lt → qB, pow_lt_pow_right → qI, pow_succ → qR, div_div_eq_div_mul → xQ, mul_assoc → xW, pow_add → xD, mul_comm → xH, mod_mul_right_mod → xL, pow_zero → yX, pow_mul → yU
open List renaming getD_cons_succ → qZ, getD_cons_zero → qU
set_option linter.unusedSimpArgs false
set_option linter.unusedVariables false
def dblL:List Nat→Nat→List Nat
 | [],b=>[b]
 | x::r,b=>(2*x%4294967296+b)::dblL r (x/2147483648)
theorem zym:∀(l:List Nat) (b:Nat),(dblL l b).length=l.length+1:=by
 intro l
 induction l with
 | nil=>intro b;rfl
 | cons x r ih=>intro b;simp [dblL,ih]
theorem qmp:∀(l:List Nat) (b:Nat),val (dblL l b)=2*val l+b:=by
 intro l
 induction l with
 | nil=>intro b;simp [dblL,val]
 | cons x r ih=>
  intro b
  simp only [dblL,val,ih]
  omega
theorem qmq:∀(l:List Nat) (b:Nat),Dig l→b≤1→Dig (dblL l b):=by
 intro l
 induction l with
 | nil=>intro b _ hb;exact Dig.cons (by omega) Dig.nil
 | cons x r ih=>
  intro b h hb
  have hx:=h.head
  exact Dig.cons (by omega) (ih _ h.tail (by omega))
theorem ztr:∀(l:List Nat) (w:Nat),Dig l→l.getD w 0=val l/4294967296^w%4294967296:=by
 intro l
 induction l with
 | nil=>intro w _;simp [val]
 | cons x r ih=>
  intro w h
  have hx:=h.head
  cases w with
  | zero=>simp only [val,qU,yX,Nat.div_one];omega
  | succ w=>
   rw [qZ,ih w h.tail,val,qR,xH (4294967296^w),←xQ]
   congr 2
   omega
theorem qsw (l:List Nat) (i:Nat) (h:Dig l):l.getD (i/32) 0/2^(i%32)%2=val l/2^i%2:=by
 rw [ztr l _ h]
 have e:4294967296^(i/32)=2^(32*(i/32)):=by rw [yU]
 have hi:i=32*(i/32)+i%32:=by omega
 have e2:val l/2^i=val l/2^(32*(i/32))/2^(i%32):=by
  rw [xQ,←xD,←hi]
 rw [e,e2]
 generalize val l/2^(32*(i/32))=x
 have hs:i%32<32:=qB _ (by decide)
 generalize i%32=s at hs
 have e3:(4294967296:Nat)=2^s*(2*2^(31-s)):=by
  rw [←Nat.pow_succ',←xD]
  have:s+(31-s+1)=32:=by omega
  rw [this]
 rw [e3,Nat.mod_mul_right_div_self,xL]
theorem zyn {V n Q r b:Nat} (hb:b<2) (hV:V/2=Q*n+r) (hr:r<n) (hbit:V%2=b):
  (2*r+b<n→V=2*Q*n+(2*r+b))∧(n≤2*r+b→V=(2*Q+1)*n+(2*r+b-n)∧2*r+b-n<n):=by
 have hV2:V=2*(V/2)+V%2:=by omega
 have e1:2*Q*n=2*(Q*n):=xW _ _ _
 have e2:(2*Q+1)*n=2*(Q*n)+n:=by rw [Nat.add_mul,xW,Nat.one_mul]
 constructor
 ·intro _;omega
 ·intro h;omega
theorem qgy {a s:Nat} (h:a%2^(s+1)=0):a ||| 2^s=a+2^s:=by
 have e:a=2^(s+1)*(a/2^(s+1)):=by
  have:=Nat.div_add_mod a (2^(s+1))
  omega
 have hlt:2^s<2^(s+1):=qI (by decide) (by omega)
 have:=Nat.two_pow_add_eq_or_of_lt hlt (a/2^(s+1))
 rw [←e] at this
 exact this.symm
end Go.Limb
namespace Go.Proofs.YtpflahgcdgdkjaaGreatDoor
open Nat renaming reduceEqDiff → qQ, mod_lt → qB, lt_or_ge → qL, reduceLeDiff → qM, mod_eq_of_lt → xK, or_lt_two_pow → yZ
open List renaming getD_eq_getElem?_getD → qX, getD_cons_succ → qZ, getElem?_eq_getElem → qY, getD_cons_zero → qU, append_assoc → qS
open Int renaming toNat_natCast → qK, fdiv_eq_ediv_of_nonneg → xA
set_option linter.unusedSimpArgs false
set_option linter.unusedVariables false
open Go Go.AL Go.Proofs Go.Limb
set_option maxRecDepth 100000
theorem or32 {a b:Nat} (ha:a<4294967296) (hb:b<4294967296):IntKind.u32.wrap (((BitVec.ofInt IntKind.u32.bits (a:Int) ||| BitVec.ofInt IntKind.u32.bits (b:Int)).toNat:Nat):Int)=((a ||| b:Nat):Int):=by
 have h:(BitVec.ofInt IntKind.u32.bits (a:Int) ||| BitVec.ofInt IntKind.u32.bits (b:Int)).toNat=a ||| b:=by
  show (BitVec.ofInt 32 (a:Int) ||| BitVec.ofInt 32 (b:Int)).toNat=a ||| b
  rw [BitVec.toNat_or,BitVec.ofInt_natCast,BitVec.ofInt_natCast,BitVec.toNat_ofNat,BitVec.toNat_ofNat,xK ha,xK hb]
 rw [h]
 exact qlg (yZ (n:=32) ha hb)
theorem shl1 (x:Nat):IntKind.u32.wrap ((x:Int)*2^min (Int.toNat 1) IntKind.u32.bits)=((2*x%4294967296:Nat):Int):=by
 have e:(2:Int)^min (Int.toNat 1) IntKind.u32.bits=2:=rfl
 rw [e,show (x:Int)*2=((2*x:Nat):Int) by omega,wu32]
theorem qxr (x:Nat):Int.fdiv (x:Int) (2^min (Int.toNat 31) IntKind.u32.bits)=((x/2147483648:Nat):Int):=by
 have e:(2:Int)^min (Int.toNat 31) IntKind.u32.bits=((2147483648:Nat):Int):=rfl
 rw [e,xA _ (by omega)]
 rfl
theorem qvz {x b:Nat} (hb:b≤1):2*x%4294967296 ||| b=2*x%4294967296+b:=by
 rcases qL b 1 with h | h
 ·obtain rfl:b=0:=by omega
  rw [Nat.or_zero];omega
 ·obtain rfl:b=1:=by omega
  exact qgy (s:=0) (by omega)
theorem qsx (m:List Nat) (c:Option Nat) (b:Nat) (dm:Dig m) (hb:b≤1) (hm:m.length<1048576):∃c',Ret Tryz.prog G 214 [.vec (u32s m) m.length c,.int .u32 (b:Nat)] [] (.vec (u32s (dblL m b)) (dblL m b).length c') []:=by
 refine ⟨none,?_⟩
 refine zai zah Tryz.func214 comp214 _ 28 res214 nt214 (by simp) (by simp) ?_
 generalize hfin:dblL m b=fin
 have hfl:fin.length=m.length+1:=by rw [←hfin,zym]
 simp only [c214,r214_0,r214_1,r214_2,SS,reduceCtorEq,reduceIte]
 refine zal (fun k E H=>∃i b out a,k+i=m.length∧out.length=i∧b≤1∧out++dblL (m.drop i) b=fin∧E 1= .int .u32 (b:Nat)∧E 5=a∧E 8= .vec (u32s m) m.length c∧E 9= .int .i64 (m.length:Nat)∧E 10= .int .i64 (i:Nat)∧zvo [] 1 i (u32s out) a H) (n:=m.length)
  ⟨0,b,[],_,by omega,rfl,hb,by simpa using hfin,?_,rfl,?_,?_,?_,.inl ⟨rfl,rfl,?_,0,rfl⟩⟩ ?_
 ·simp only [zaa,zac,qU,qZ,qQ,if_false]
 ·simp only [zaa,zac,qZ,qQ,reduceIte,if_false]
 ·simp only [zaa,zac,qZ,qQ,reduceIte,if_false]
 ·simp only [zaa,zac,qZ,qQ,reduceIte,if_false];rfl
 ·simp only [zaa,zac,qZ,qQ,reduceIte,if_false]
 rintro k E H ⟨i,b,out,a,hki,hol,hb,hf,h1,h5,h8,h9,h10,hO⟩
 refine zaf zah ?_
 simp only [l214_0,r214_3,SS,reduceCtorEq,reduceIte,h9,h10]
 refine ⟨fun hlt=>?_,fun hge=>?_⟩
 ·obtain ⟨k,rfl⟩:∃k',k=k'+1:=⟨k-1,by omega⟩
  have hi:i<m.length:=by omega
  have bm:=dm.getD i
  have g:=zcl m i hi AV.junk
  have hd:m.drop i=m.getD i 0::m.drop (i+1):=by
   rw [List.drop_eq_getElem_cons hi,qX,qY hi];rfl
  obtain ⟨e,rd,H4,H5,hap,hH4,hg,hw,hO'⟩:=zmz (bytes:=4) (xs:=[.int .u32 ((2*m.getD i 0%4294967296+b:Nat):Int)]) hO rfl rfl (by omega) (by omega)
  have w5:IntKind.i64.wrap ((i:Int)+1)=((i+1:Nat):Int):=by rw [show (i:Int)+1=((i+1:Nat):Int) by omega];exact w64 (by omega) (by omega)
  have b2:2*m.getD i 0%4294967296<4294967296:=qB _ (by omega)
  have wo:=or32 b2 (show b<4294967296 by omega)
  rw [qvz hb] at wo
  have e1:u32s out++[.int .u32 ((2*m.getD i 0%4294967296+b:Nat):Int)]=u32s (out++[2*m.getD i 0%4294967296+b]):=by simp [u32s]
  rw [e1] at hO'
  rw [hd,dblL] at hf
  simp only [r214_4,r214_5,SS,forall_const,reduceIte,qQ,qM,h1,h5,h8,h10,qK,g,zbl,shl1,wo,zdc,hap]
  refine ⟨⟨by omega,by omega⟩,by omega,by omega,?_⟩
  simp only [r214_6,r214_7,SS,reduceIte,qQ,h10,w5,qxr]
  rw [hH4]
  refine ⟨by omega,k,_,H5,by omega,⟨i+1,m.getD i 0/2147483648,out++[2*m.getD i 0%4294967296+b],.sl (H.length+1) 0 (i+1) 1 none,by omega,by simp [hol],by omega,by rw [qS];exact hf,?_,rfl,?_,?_,?_,?_⟩,hw _ _ _ (by simp)⟩
  ·simp only [zaa,qQ,reduceIte,if_false]
  all_goals first | exact hO' | simp only [zaa,qQ,reduceIte,if_false, *]
 ·have hi:i=m.length:=by omega
  subst hi
  rw [List.drop_length,dblL] at hf
  obtain ⟨e,rd,H4,H5,hap,hH4,hg,hw,hO'⟩:=zmz (bytes:=4) (xs:=[.int .u32 (b:Nat)]) hO rfl rfl (by omega) (by omega)
  simp only [r214_8,SS,reduceIte,qQ,qM,h1,h5,zdc,hap]
  refine ⟨.inl trivial,_,rfl,?_⟩
  have e1:u32s out++[.int .u32 (b:Nat)]=u32s fin:=by rw [←hf];simp [u32s]
  rw [e1] at hg
  rw [hfl]
  refine zqm ?_ hfl.symm
  rw [hH4]
  exact hg
end Go.Proofs.YtpflahgcdgdkjaaGreatDoor
namespace Go.Limb
open Nat renaming mod_lt → qB, pow_lt_pow_right → qI, pow_succ → qR, div_div_eq_div_mul → xQ, mod_eq_of_lt → xK, mul_assoc → xW, pow_add → xD, mul_comm → xH, mod_mul_right_mod → xL, pow_zero → yX, or_lt_two_pow → yZ, div_eq_of_lt → yY, pow_mul → yU
set_option linter.unusedSimpArgs false
set_option linter.unusedVariables false
def zns (l:List Nat) (i:Nat):List Nat:=l.set (i/32) (l.getD (i/32) 0 ||| 2^(i%32))
theorem qbj (l:List Nat) (i:Nat):(zns l i).length=l.length:=by simp [zns]
theorem qsy (w:Nat):(4294967296:Nat)^w=2^(32*w):=by rw [yU]
theorem qmr {l:List Nat} {i:Nat} (h:Dig l) (h0:val l%2^(i+1)=0):l.getD (i/32) 0%2^(i%32+1)=0:=by
 rw [ztr l _ h,qsy]
 have hs:i%32<32:=qB _ (by decide)
 have hi:i+1=32*(i/32)+(i%32+1):=by omega
 obtain ⟨t,ht⟩:2^(i+1)∣val l:=Nat.dvd_of_mod_eq_zero h0
 rw [ht]
 have hp:2^(i+1)=2^(32*(i/32))*2^(i%32+1):=by rw [←xD,←hi]
 rw [hp,xW,Nat.mul_div_cancel_left _ (Nat.pow_pos (by decide))]
 generalize i%32=s at*
 have e3:(4294967296:Nat)=2^(s+1)*2^(31-s):=by
  rw [←xD,show s+1+(31-s)=32 by omega]
 rw [e3,xL,Nat.mul_mod_right]
theorem zwg {l:List Nat} {i:Nat} (h:Dig l) (hi:i/32<l.length) (h0:val l%2^(i+1)=0):val (zns l i)=val l+2^i∧Dig (zns l i):=by
 have hz:=qmr h h0
 have hs:i%32<32:=qB _ (by decide)
 have hb:=h.getD (i/32)
 have hpl:2^(i%32)<4294967296:=by
  have:2^(i%32)<2^32:=qI (by decide) hs
  exact this
 have hor:l.getD (i/32) 0 ||| 2^(i%32)<4294967296:=yZ (n:=32) hb hpl
 refine ⟨?_,h.set hor⟩
 have hv:=zvj (l:=l) (i:=i/32) (v:=l.getD (i/32) 0 ||| 2^(i%32)) hi
 rw [qgy hz,Nat.mul_add] at hv
 have e:4294967296^(i/32)*2^(i%32)=2^i:=by
  rw [qsy,←xD]
  congr 1
  omega
 rw [e] at hv
 unfold zns
 rw [qgy hz]
 omega
structure DivS (m n:List Nat) (k:Nat) (qs r:List Nat):Prop where
 len:qs.length=m.length
 dig:Dig qs
 canon:zcg r
 lt:val r<val n
 ex:∃Q,val qs=Q*2^k∧val m/2^k=Q*val n+val r
theorem DivS.start {m n:List Nat} (hm:Dig m) (hn:val n≠0):DivS m n (32*m.length) (List.replicate m.length 0) []:=by
 have hr:∀k,val (List.replicate k 0)=0:=by
  intro k
  induction k with
  | zero=>rfl
  | succ k ih=>rw [List.replicate_succ,val,ih]
 refine ⟨by simp,?_,zcg.nil,by show 0<val n;omega,0,by rw [hr];omega,?_⟩
 ·intro d hd
  rw [List.eq_of_mem_replicate hd];decide
 ·have:=zjh hm
  rw [qsy] at this
  rw [yY this]
  show 0=0*val n+0
  omega
theorem zyo {m:List Nat} {k:Nat}:val m/2^(k+1)=val m/2^k/2:=by
 rw [xQ,qR]
theorem zyp (Q k:Nat):Q*2^(k+1)=2*Q*2^k:=by
 rw [qR,←xW,xH _ 2,xW]
theorem DivS.low {m n qs r r2:List Nat} {k:Nat} (h:DivS m n (k+1) qs r) (c2:zcg r2) (hv:val r2=2*val r+val m/2^k%2) (hlt:val r2<val n):DivS m n k qs r2:=by
 obtain ⟨Q,e1,e2⟩:=h.ex
 rw [zyo] at e2
 have:=(zyn (V:=val m/2^k) (b:=val m/2^k%2) (qB _ (by decide)) e2 h.lt rfl).1 (by omega)
 exact ⟨h.len,h.dig,c2,hlt,2*Q,by rw [e1,zyp],by rw [hv];exact this⟩
theorem DivS.high {m n qs r r2:List Nat} {k:Nat} (h:DivS m n (k+1) qs r) (hk:k<32*m.length) (c2:zcg r2) (hge:val n≤2*val r+val m/2^k%2) (hv:val r2+val n=2*val r+val m/2^k%2):DivS m n k (zns qs k) r2:=by
 obtain ⟨Q,e1,e2⟩:=h.ex
 rw [zyo] at e2
 have h2:=(zyn (V:=val m/2^k) (b:=val m/2^k%2) (qB _ (by decide)) e2 h.lt rfl).2 hge
 have hs:=zwg (i:=k) h.dig (by rw [h.len];omega) (by rw [e1];exact Nat.mul_mod_left _ _)
 refine ⟨by rw [qbj,h.len],hs.2,c2,by omega,2*Q+1,?_,?_⟩
 ·rw [hs.1,e1,zyp,Nat.add_mul,Nat.one_mul]
 ·have e:val r2=2*val r+val m/2^k%2-val n:=by omega
  rw [e];exact h2.1
theorem DivS.done {m n qs r:List Nat} (h:DivS m n 0 qs r):val qs=val m/val n∧val r=val m%val n:=by
 obtain ⟨Q,e1,e2⟩:=h.ex
 simp only [yX,Nat.mul_one,Nat.div_one] at e1 e2
 have hlt:=h.lt
 rw [e1,e2]
 constructor
 ·rw [xH,Nat.mul_add_div (by omega),yY hlt];omega
 ·rw [xH,Nat.mul_add_mod,xK hlt]
end Go.Limb
namespace Go.Proofs.YtpflahgcdgdkjaaGreatDoor
open Nat renaming reduceEqDiff → qQ, le_refl → qA, mod_lt → qB, pow_le_pow_right → qC, eq_zero_or_pos → qE, pow_lt_pow_right → qI, lt_or_ge → qL, mod_eq_of_lt → xK, div_le_self → xI
open List renaming getD_cons_succ → qZ, getElem?_cons_zero → qW, getElem?_cons_succ → qV, getD_cons_zero → qU
open Go.AL.AV.closed renaming closedL → qJ
open Int renaming toNat_natCast → qK, toNat_zero → qD, fdiv_eq_ediv_of_nonneg → xA
open Bool renaming and_self → qG
set_option linter.unusedSimpArgs false
set_option linter.unusedVariables false
open Go Go.AL Go.Proofs Go.Limb
set_option maxRecDepth 100000
theorem canon_len {m n:List Nat} (hm:zcg m) (hn:zcg n) (h:val m≤val n):m.length≤n.length:=by
 rcases qL n.length m.length with h1 | h1
 ·have h2:=zjh hn.1
  have h3:=zkp hm.2 (by intro e;rw [e] at h1;simp at h1)
  have h4:4294967296^n.length≤4294967296^(m.length-1):=qC (by decide) (by omega)
  omega
 ·exact h1
theorem and1 {x:Nat} (hx:x<4294967296):IntKind.u32.wrap (((BitVec.ofInt IntKind.u32.bits (x:Int) &&& BitVec.ofInt IntKind.u32.bits 1).toNat:Nat):Int)=((x%2:Nat):Int):=by
 have h:(BitVec.ofInt IntKind.u32.bits (x:Int) &&& BitVec.ofInt IntKind.u32.bits 1).toNat=x%2:=by
  show (BitVec.ofInt 32 (x:Int) &&& BitVec.ofInt 32 ((1:Nat):Int)).toNat=x%2
  rw [BitVec.toNat_and,BitVec.ofInt_natCast,BitVec.ofInt_natCast,BitVec.toNat_ofNat,BitVec.toNat_ofNat,xK hx]
  exact Nat.and_one_is_mod x
 rw [h]
 exact qlg (by omega)
theorem shrN {x s:Nat} (hs:s<32):Int.fdiv (x:Int) (2^min s IntKind.u32.bits)=((x/2^s:Nat):Int):=by
 have e:min s IntKind.u32.bits=s:=by show min s 32=s;omega
 rw [e]
 have e2:(2:Int)^s=((2^s:Nat):Int):=by simp
 rw [e2,xA _ (Int.natCast_nonneg _)]
 rfl
theorem shlN {s:Nat} (hs:s<32):IntKind.u32.wrap ((1:Int)*2^min s IntKind.u32.bits)=((2^s:Nat):Int):=by
 have e:min s IntKind.u32.bits=s:=by show min s 32=s;omega
 rw [e,Int.one_mul]
 have e2:(2:Int)^s=((2^s:Nat):Int):=by simp
 rw [e2]
 refine qlg ?_
 have:2^s<2^32:=qI (by decide) hs
 exact this
theorem zts {m n:List Nat} {c d:Option Nat} (cm:zcg m) (cn:zcg n) (lm:m.length≤1100) (ln:n.length≤1100) (hn0:val n≠0) {E:Env} {Q:Post} (e0:E 0= .vec (u32s m) m.length c) (e1:E 1= .vec (u32s n) n.length d)
  (e4:E 4= .sl 0 0 m.length 1 (some m.length)) (e5:E 5= .vec [] 0 (some 0)) (e8:E 8= .int .i64 (((32*m.length:Nat):Int)-1))
  (hQ:∀E' qs r cr,DivS m n 0 qs r→E' 4= .sl 0 0 m.length 1 (some m.length)→E' 5= .vec (u32s r) r.length cr→Q (.exit 0) E' [some (u32s qs)]):
  W Tryz.prog G 0 75 (.loop l211_0) E [some (u32s (List.replicate m.length 0))] Q:=by
 refine zal (fun k E H=>∃qs r cr,DivS m n k qs r∧k≤32*m.length∧E 0= .vec (u32s m) m.length c∧E 1= .vec (u32s n) n.length d∧E 4= .sl 0 0 m.length 1 (some m.length)∧E 5= .vec (u32s r) r.length cr∧E 8= .int .i64 ((k:Int)-1)∧H=[some (u32s qs)])
  (n:=32*m.length) ⟨_,[],some 0,DivS.start cm.1 hn0,qA _,e0,e1,e4,e5,e8,rfl⟩ ?_
 clear e0 e1 e4 e5 e8
 rintro k E H ⟨qs,r,cr,hD,hk,e0,e1,e4,e5,e8,rfl⟩
 refine zaf zah ?_
 simp only [l211_0,r211_6,SS,reduceIte,qQ,e8]
 refine ⟨fun hge=>?_,fun hlt=>?_⟩
 ·obtain ⟨k,rfl⟩:∃k',k=k'+1:=⟨k-1,by omega⟩
  have e5k:((k+1:Nat):Int)-1=(k:Nat):=by omega
  rw [e5k] at e8
  have hw:k/32<m.length:=by omega
  have hs:k%32<32:=qB _ (by decide)
  have g1:=zcl m (k/32) hw AV.junk
  have bm:=cm.1.getD (k/32)
  have lr:=canon_len hD.canon cn (Nat.le_of_lt hD.lt)
  have hb1:m.getD (k/32) 0/2^(k%32)<4294967296:=Nat.lt_of_le_of_lt (xI _ _) bm
  have hbit:=qsw m k cm.1
  have hbl:m.getD (k/32) 0/2^(k%32)%2≤1:=by omega
  obtain ⟨c1,t1⟩:=qsx r cr (m.getD (k/32) 0/2^(k%32)%2) hD.canon.1 hbl (by omega)
  have dd:=qmq r _ hD.canon.1 hbl
  have dl:=zym r (m.getD (k/32) 0/2^(k%32)%2)
  have dv:=qmp r (m.getD (k/32) 0/2^(k%32)%2)
  generalize hdb:dblL r (m.getD (k/32) 0/2^(k%32)%2)=db at*
  obtain ⟨c2,t2⟩:=zlj db c1 (by omega)
  have kc:=zbk dd
  have kv:=zck db
  have kl:=zjj db
  generalize zbg db=r1 at*
  rw [dv,hbit] at kv
  have t3:=zcmp r1 n c2 d (by omega) (by omega)
  rw [zhc kc cn] at t3
  have w3:IntKind.i64.wrap ((k:Int)-1)=(k:Int)-1:=w64 (by omega) (by omega)
  have q1:Int.tdiv (k:Int) 32=((k/32:Nat):Int):=rfl
  have q2:Int.tmod (k:Int) 32=((k%32:Nat):Int):=rfl
  have q3:IntKind.i64.wrap ((k/32:Nat):Int)=((k/32:Nat):Int):=w64 (by omega) (by omega)
  have q4:IntKind.i64.wrap ((k%32:Nat):Int)=((k%32:Nat):Int):=w64 (by omega) (by omega)
  simp only [r211_7,SS,forall_const,reduceCtorEq,reduceIte,qQ,e0,e5,e8,q1,q2,q3,qK,g1,zbl,shrN hs,and1 hb1]
  refine ⟨by omega,⟨by omega,by omega⟩,by omega,by omega,by omega,?_⟩
  refine zab t1 ?_
  simp only [SS,reduceIte,qQ]
  refine zab t2 ?_
  simp only [SS,reduceIte,qQ]
  simp only [r211_8,SS,reduceIte,qQ,e1]
  refine zab t3 ?_
  simp only [SS,reduceIte,qQ]
  refine ⟨fun hc=>?_,fun hc=>?_⟩
  ·have hle:val n≤val r1:=by
    unfold sgn at hc
    split at hc
    ·omega
    ·split at hc<;>omega
   have hl2:=canon_len cn kc hle
   obtain ⟨c3,t4⟩:=ziu r1 n c2 d (by omega) hl2 kc.1 cn.1
   obtain ⟨v1,v2,v3⟩:=zmv r1 n kc.1 cn.1 hl2 hle r1.length 0 0 [] (by decide) rfl Dig.nil (by omega) (by simp [Limb.val])
   generalize difL r1 n r1.length 0 0 []=r2 at*
   obtain ⟨c4,t5⟩:=zlj r2 c3 (by omega)
   have mc:=zbk v2
   have mv:=zck r2
   generalize zbg r2=r3 at*
   have hD2:=hD.high (r2:=r3) (by omega) mc (by rw [←kv];exact hle) (by rw [mv,v1,kv])
   have bq:=hD.dig.getD (k/32)
   have g2:=zcl qs (k/32) (by rw [hD.len];exact hw) AV.junk
   have hpl:2^(k%32)<4294967296:=by
    have:2^(k%32)<2^32:=qI (by decide) hs
    exact this
   have wo:=or32 bq hpl
   simp only [r211_9,SS,reduceIte,qQ,e1]
   refine zab t4 ?_
   simp only [SS,reduceIte,qQ]
   refine zab t5 ?_
   simp only [SS,reduceIte,qQ]
   simp only [r211_10,SS,forall_const,reduceIte,qQ,e4,e8,q1,q2,q3,qK,g2,zbl,hD.len,shlN hs,wo,zql]
   refine ⟨by omega,⟨by omega,by omega⟩,by omega,by omega,by omega,⟨by omega,by omega⟩,by omega,rfl,?_⟩
   simp only [r211_11,SS,reduceIte,qQ,e8,w3]
   refine ⟨k,_,_,by omega,⟨zns qs k,r3,c4,hD2,by omega,?_,?_,?_,?_,?_,rfl⟩,.refl⟩<;>simp only [zaa,qQ,reduceIte,if_false, *]
  ·have hle:val r1<val n:=by
    unfold sgn at hc
    split at hc
    ·assumption
    ·exfalso
     split at hc<;>omega
   have hD2:=hD.low (r2:=r1) kc kv hle
   simp only [r211_11,SS,reduceIte,qQ,e8,w3]
   refine ⟨k,_,_,by omega,⟨qs,r1,c2,hD2,by omega,?_,?_,?_,?_,?_,rfl⟩,.refl⟩<;>simp only [zaa,qQ,reduceIte,if_false, *]
 ·have hk0:k=0:=by omega
  subst hk0
  exact hQ _ qs r cr hD (by simp only [zaa,qQ,if_false,e4]) (by simp only [zaa,qQ,if_false,e5])
theorem qsz (m n:List Nat) (c d:Option Nat) (cm:zcg m) (cn:zcg n) (lm:m.length≤1100) (ln:n.length≤1100) (hn0:val n≠0):DivC m n c d:=by
 by_cases hsm:m.length≤2∧n.length≤2
 ·have p2:∀l:List Nat,Dig l→l.length≤2→val l<18446744073709551616:=by
   intro l hl h
   have h1:=zjh hl
   have h2:4294967296^l.length≤4294967296^2:=qC (by decide) h
   omega
  exact zqp m n c d cm cn (p2 m cm.1 hsm.1) (p2 n cn.1 hsm.2) hn0
 have dq:val m/val n≤val m:=xI _ _
 have dr:val m%val n≤val m:=Nat.mod_le _ _
 have lq:=canon_len (zcc (val m/val n)) cm (by rw [zcx];exact dq)
 have lr:=canon_len (zcc (val m%val n)) cm (by rw [zcx];exact dr)
 refine ⟨zci (val m/val n),zci (val m%val n),none,none,zcc _,zcc _,by omega,by omega,zcx _,zcx _,?_⟩
 have w1:IntKind.i64.wrap (32*(m.length:Int))=((32*m.length:Nat):Int):=by rw [show 32*(m.length:Int)=((32*m.length:Nat):Int) by omega];exact w64 (by omega) (by omega)
 have w2:IntKind.i64.wrap (((32*m.length:Nat):Int)-1)=((32*m.length:Nat):Int)-1:=w64 (by omega) (by omega)
 have hrep:List.replicate m.length (AV.int IntKind.u32 0)=u32s (List.replicate m.length 0):=by simp [u32s]
 refine zes zah Tryz.func211 comp211 _ 75 res211 nt211 (by simp) (by simp) ?_
 have fin:∀E' qs r cr,DivS m n 0 qs r→E' 4= .sl 0 0 m.length 1 (some m.length)→E' 5= .vec (u32s r) r.length cr→
   wpC Tryz.prog G 0 75 (.seq (.reg r211_12 none) .ret) E' [some (u32s qs)] (fun x E' H'=>(x= .ret∨x= .normal)∧∃v' v'',resA Tryz.prog [(.tmp 4),(.tmp 5)] E' H'=some v'∧AL.Fin 0 v' H' v'' []∧v''.wk=(.tup [.vec (u32s (zci (val m/val n))) (zci (val m/val n)).length none,.vec (u32s (zci (val m%val n))) (zci (val m%val n)).length none])):=by
  intro E' qs r cr hD e4 e5
  obtain ⟨v1,v2⟩:=hD.done
  obtain ⟨c3,t1⟩:=zlj qs (some m.length) (by rw [hD.len];omega)
  have eq:zbg qs=zci (val m/val n):=zji (zbk hD.dig) (zcc _) (by rw [zck,v1,zcx])
  have er:r=zci (val m%val n):=zji hD.canon (zcc _) (by rw [v2,zcx])
  rw [eq] at t1
  subst er
  simp only [r211_12,SS,reduceCtorEq,reduceIte,e4]
  refine zmu (id:=0) (cs:=u32s qs) (d:=2) (args0:=[.sl 0 0 m.length 1 (some m.length)]) (args':=[.vec (u32s qs) qs.length (some m.length)]) t1 rfl ?_ rfl ?_ rfl (zmx _) rfl
  ·have:=qfa (l:=qs) (n:=m.length) (c:=some m.length) hD.len.symm
   rw [List.mapM_cons,this]
   simp [hD.len]
  simp only [zba,zag,List.replicate_zero,List.append_nil,SS,reduceIte,qQ,e5]
  refine ⟨.inl trivial,_,_,rfl,.drop _ _ rfl (by intro i cs h;omega),?_⟩
  simp only [AV.wk,AV.wk.wkL,qfe,zaa,qQ,reduceIte,if_false]
 rcases qL 2 m.length with h2 | h2
 ·have d1:decide ((m.length:Int)≤2)=false:=decide_eq_false (by omega)
  simp only [c211,r211_0,r211_1,SS,forall_const,reduceCtorEq,reduceIte,qQ,d1]
  simp only [r211_4,r211_5,SS,reduceCtorEq,reduceIte,qQ,qK,w1,w2,hrep]
  refine ⟨by omega,⟨by omega,by omega,by omega,by omega⟩,?_⟩
  refine zts (c:=c) (d:=d) cm cn lm ln hn0 (by simp only [zaa,zac,qU,qQ,if_false]) (by simp only [zaa,zac,qU,qZ,qQ,if_false]) (by simp only [zaa,zac,qZ,qQ,reduceIte,if_false]) (by simp only [zaa,zac,qZ,qQ,reduceIte,if_false]) (by simp only [zaa,zac,qZ,qQ,reduceIte,if_false]) ?_
  intro E' qs r cr hD f4 f5
  have:=fin E' qs r cr hD f4 f5
  simp only [SS,reduceCtorEq,reduceIte] at this ⊢
  exact this
 ·have d1:decide ((m.length:Int)≤2)=true:=decide_eq_true (by omega)
  have d2:decide ((n.length:Int)≤2)=false:=decide_eq_false (by omega)
  simp only [c211,r211_0,r211_1,SS,forall_const,reduceCtorEq,reduceIte,qQ,d1,d2]
  simp only [r211_4,r211_5,SS,reduceCtorEq,reduceIte,qQ,qK,w1,w2,hrep]
  refine ⟨by omega,⟨by omega,by omega,by omega,by omega⟩,?_⟩
  refine zts (c:=c) (d:=d) cm cn lm ln hn0 (by simp only [zaa,zac,qU,qQ,if_false]) (by simp only [zaa,zac,qU,qZ,qQ,if_false]) (by simp only [zaa,zac,qZ,qQ,reduceIte,if_false]) (by simp only [zaa,zac,qZ,qQ,reduceIte,if_false]) (by simp only [zaa,zac,qZ,qQ,reduceIte,if_false]) ?_
  intro E' qs r cr hD f4 f5
  have:=fin E' qs r cr hD f4 f5
  simp only [SS,reduceCtorEq,reduceIte] at this ⊢
  exact this
theorem zdq:DivB BIG:=⟨qA _,fun x y _ _ h0 m n c d cm cn lm ln _ hn=>qsz m n c d cm cn lm ln (by omega)⟩
open Go.Det
theorem qxs:FitN 8 BIG 9223372036854775808:=⟨by decide,by decide +kernel⟩
theorem zyq {M:List (List Int)} (h:∀i j,In64 (ent M i j)):Bnd 9223372036854775808 M:=by
 intro i j
 have:=h i j
 unfold In64 at this
 omega
def zwh (M:List (List Int)) (i:Nat):Prop:=1≤(M.getD i []).length∧(M.getD i []).length≤16∧(M.getD i []).length=(M.getD 0 []).length
theorem ztt {M:List (List Int)} {a:AV} (h:ImV M a) (hlen:M.length≤16) (hr62:∀i,i<M.length→(M.getD i []).length<4611686018427387904) (hbad:M.length=0∨¬ ∀i,i<M.length→zwh M i):Ret Tryz.prog G 64 [a] [] (.tup [.vec [] 0 (some 0),.bool false]) []:=by
 obtain ⟨rows,c,rfl,hl,hr⟩:=h.val
 refine zai zah Tryz.func64 comp64 _ 78 res64 nt64 (by simp) (by simp) ?_
 rcases qE M.length with h0 | h0
 ·rw [h0]
  have d1:decide (((0:Nat):Int)<1)=true:=by decide
  simp only [c64,r64_0,r64_1,r64_2,SS,forall_const,reduceCtorEq,reduceIte,qQ,d1]
  exact ⟨.inl trivial,_,rfl,.keep _ _⟩
 have hbad:¬ ∀i,i<M.length→zwh M i:=by
  rcases hbad with e | e
  ·omega
  ·exact e
 have d1:decide ((M.length:Int)<1)=false:=decide_eq_false (by omega)
 have d2:decide ((16:Int)<(M.length:Nat))=false:=decide_eq_false (by omega)
 obtain ⟨c0,e0⟩:=hr 0 (by omega)
 simp only [c64,r64_0,r64_1,SS,forall_const,reduceCtorEq,reduceIte,qQ,d1,d2]
 simp only [r64_3,SS,reduceCtorEq,reduceIte,qQ]
 refine zal (fun k E H=>∃i,i+k=M.length∧E 0= .vec rows M.length c∧E 17= .vec rows M.length c∧E 18= .int .i64 (M.length:Nat)∧E 19= .int .i64 (i:Nat)∧H=[]∧∀t,t<i→zwh M t) (n:=M.length) ⟨0,by omega,by simp only [zaa,zac,qU,qQ,if_false],by simp only [zaa,zac,qZ,qQ,reduceIte,if_false],by simp only [zaa,zac,qZ,qQ,reduceIte,if_false],by simp only [zaa,zac,qZ,qQ,reduceIte,if_false];rfl,rfl,fun t ht=>absurd ht (by omega)⟩ ?_
 rintro k E H ⟨i,hik,h0',h17,h18,h19,rfl,hgood⟩
 refine zaf zah ?_
 simp only [l64_0,r64_4,SS,reduceCtorEq,reduceIte,h18,h19]
 refine ⟨fun hlt=>?_,fun hge=>absurd (fun t ht=>hgood t (by omega)) hbad⟩
 obtain ⟨k,rfl⟩:∃k',k=k'+1:=⟨k-1,by omega⟩
 obtain ⟨ci,ei⟩:=hr i (by omega)
 have hr2:=hr62 i (by omega)
 have w5:IntKind.i64.wrap ((i:Int)+1)=((i+1:Nat):Int):=by rw [show (i:Int)+1=((i+1:Nat):Int) by omega];exact w64 (by omega) (by omega)
 simp only [r64_5,SS,forall_const,reduceIte,qQ,h17,h19,qK,ei,hl]
 refine ⟨⟨by omega,by omega⟩,by omega,?_⟩
 rcases qE (M.getD i []).length with g0 | g1
 ·have d3:decide (((M.getD i []).length:Int)<1)=true:=decide_eq_true (by omega)
  simp only [r64_6,r64_7,SS,forall_const,reduceCtorEq,reduceIte,qQ,d3]
  exact ⟨.inl trivial,_,rfl,.keep _ _⟩
 have d3:decide (((M.getD i []).length:Int)<1)=false:=decide_eq_false (by omega)
 rcases qL 16 (M.getD i []).length with g2 | g2
 ·have d4:decide ((16:Int)<((M.getD i []).length:Nat))=true:=decide_eq_true (by omega)
  simp only [r64_6,r64_7,SS,forall_const,reduceCtorEq,reduceIte,qQ,d3,d4]
  exact ⟨.inl trivial,_,rfl,.keep _ _⟩
 have d4:decide ((16:Int)<((M.getD i []).length:Nat))=false:=decide_eq_false (by omega)
 by_cases g3:(M.getD i []).length=(M.getD 0 []).length
 ·have d5:decide (((M.getD i []).length:Int)≠((M.getD 0 []).length:Nat))=false:=decide_eq_false (by omega)
  simp only [r64_6,r64_8,SS,forall_const,reduceCtorEq,reduceIte,qQ,h0',h19,qD,e0,hl,d3,d4,d5,w5]
  refine ⟨⟨by omega,by omega⟩,by omega,?_⟩
  refine ⟨k,_,_,by omega,⟨i+1,by omega,?_,?_,?_,?_,rfl,fun t ht=>?_⟩,.refl⟩
  ·simp only [zaa,qQ,if_false, *]
  ·simp only [zaa,qQ,if_false, *]
  ·simp only [zaa,qQ,if_false, *]
  ·simp only [zaa,qQ,reduceIte,if_false, *]
  ·rcases (by omega:t<i∨t=i) with e | e
   ·exact hgood t e
   ·subst e;exact ⟨g1,g2,g3⟩
 ·have d5:decide (((M.getD i []).length:Int)≠((M.getD 0 []).length:Nat))=true:=decide_eq_true (by omega)
  simp only [r64_6,r64_7,SS,forall_const,reduceCtorEq,reduceIte,qQ,h0',qD,e0,hl,d3,d4,d5]
  refine ⟨⟨by omega,by omega⟩,by omega,?_⟩
  exact ⟨.inl trivial,_,rfl,.keep _ _⟩
theorem zrn {M:List (List Int)} {a:AV} (h:MatV M a) (hs:zqq M) (hne:M.length≠(M.getD 0 []).length):Ret Tryz.prog G 56 [a] [] (.int .i64 3) []:=by
 have hcl:a.closed=true:=by obtain ⟨rows,c,rfl,_⟩:=h;rfl
 have t:=zsx h hs
 have c1:qJ [a]=true:=by simp only [qJ,hcl,qG]
 have d1:decide (((M.length:Nat):Int)≠((M.getD 0 []).length:Nat))=true:=decide_eq_true (by omega)
 have t2:Ret Tryz.prog G 118 [a] [] (.tup [.int .i64 0,.bool false]) []:=by
  refine zai zah Tryz.func118 comp118 _ 21 res118 nt118 (by simp) (by simp) ?_
  simp only [c118,r118_0,r118_1,SS,reduceCtorEq,reduceIte]
  refine zab t ?_ c1
  simp only [SS,reduceIte,qQ,qW,qV]
  simp only [r118_2,r118_3,SS,forall_const,reduceIte,qQ,d1]
  exact ⟨.inl trivial,_,rfl,.drop _ _ rfl (by intro i cs h;omega)⟩
 refine zai zah Tryz.func56 comp56 _ 25 res56 nt56 (by simp) (by simp) ?_
 simp only [c56,r56_0,r56_1,SS,reduceCtorEq,reduceIte]
 refine zab t2 ?_ c1
 simp only [SS,reduceIte,qQ,qW,qV]
 simp only [r56_2,r56_3,SS,forall_const,reduceIte,qQ]
 exact ⟨.inl trivial,_,rfl,.drop _ _ rfl (by intro i cs h;omega)⟩
theorem zro {M:List (List Int)} {a:AV} (h:ImV M a) (h8:M.length≤8) (hr8:∀i,i<M.length→(M.getD i []).length≤8) {b:Bool} (hb:b=true↔zjz M∧Red M.length (rowF M)):Ret Tryz.prog G 29 [a] [] (.bool b) []:=by
 have no:¬Shp M.length M∨M.length=0→b=false:=by
  intro hn
  cases b with
  | false=>rfl
  | true=>
   obtain ⟨n1,_,hs,_⟩:=(hb.1 rfl).1
   rcases hn with hn | hn
   ·exact absurd hs hn
   ·omega
 have hca:a.closed=true:=h.closed
 have c1:qJ [a]=true:=by simp only [qJ,hca,qG]
 by_cases hg:M.length=0∨¬ ∀i,i<M.length→zwh M i
 ·have t0:=ztt h (by omega) (fun i hi=>by have:=hr8 i hi;omega) hg
  obtain rfl:b=false:=no (by
   rcases hg with e | e
   ·exact .inr e
   ·refine .inl fun hs=>e fun i hi=>?_
    have l1:=hs.row i hi
    have l0:=hs.row 0 (by omega)
    unfold zwh
    omega)
  refine zai zah Tryz.func29 comp29 _ 24 res29 nt29 (by simp) (by simp) ?_
  simp only [c29,r29_0,r29_1,SS,reduceCtorEq,reduceIte]
  refine zab t0 ?_ c1
  simp only [SS,reduceIte,qQ,qW,qV]
  simp only [r29_2,SS,forall_const,reduceIte,qQ]
  exact ⟨.inl trivial,_,rfl,.drop _ _ rfl (by intro i cs h;omega)⟩
 ·have h0:M.length≠0:=fun e=>hg (.inl e)
  have hgood:∀i,i<M.length→zwh M i:=Classical.byContradiction fun e=>hg (.inr e)
  by_cases hsq:M.length=(M.getD 0 []).length
  ·have hS:Shp M.length M:=⟨rfl,fun i hi=>by have:=hgood i hi;unfold zwh at this;omega⟩
   refine qbf (N:=8) zdq h hS ⟨by omega,h8⟩ h8 qxs (zyq h.fit) ?_
   rw [hb]
   exact ⟨fun e=>e.2,fun e=>⟨qgx hS e,e⟩⟩
  ·obtain rfl:b=false:=no (.inl fun hs=>hsq (hs.row 0 (by omega)).symm)
   have hc:∀i,i<M.length→(M.getD i []).length=(M.getD 0 []).length:=fun i hi=>(hgood i hi).2.2
   have g0:=hgood 0 (by omega)
   have t0:=zng h (n:=(M.getD 0 []).length) ⟨g0.1,g0.2.1⟩ ⟨by omega,by omega⟩ hc
   have hfit:=zrl (zyq h.fit) (show 9223372036854775808<BIG from zhz (by decide))
   have hM:=zne hfit
   have hSh:zqq M:=⟨by omega,by omega,fun i hi=>hgood i hi⟩
   have t1:=zrn hM hSh hsq
   have hcl:(matC M).closed=true:=by obtain ⟨rows,c,e,_⟩:=hM;rw [e];rfl
   have c2:qJ [matC M]=true:=by simp only [qJ,hcl,qG]
   have d3:decide ((3:Int)=0)=false:=rfl
   refine zai zah Tryz.func29 comp29 _ 24 res29 nt29 (by simp) (by simp) ?_
   simp only [c29,r29_0,r29_1,SS,reduceCtorEq,reduceIte]
   refine zab t0 ?_ c1
   simp only [SS,reduceIte,qQ,qW,qV]
   simp only [r29_2,SS,forall_const,reduceIte,qQ]
   refine zab t1 ?_ c2
   simp only [SS,forall_const,reduceIte,qQ,d3]
   exact ⟨.inl trivial,_,rfl,.drop _ _ rfl (by intro i cs h;omega)⟩
end Go.Proofs.YtpflahgcdgdkjaaGreatDoor
