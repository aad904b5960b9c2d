/- A part of the proof. -/
import Derived.Test.YtenboapacjlmoaaGreatDoorPB
import Derived.Test.YtenboapacjlmoaaGreatDoorAL1
namespace Go.Proofs.YtenboapacjlmoaaGreatDoor
open Nat renaming reduceEqDiff → qQ, reduceLeDiff → qY, le_refl → qA, lt_or_ge → qC, lt_of_lt_of_le → qR, reduceAdd → qS, not_lt_zero → xJ, zero_add → xK, sub_self → xB, mul_one → xE, mul_le_mul → xH, one_ne_zero → yI
open List renaming getD_eq_getElem?_getD → qX, getElem?_eq_getElem → qZ, getD_cons_succ → qJ, take_of_length_le → qW, append_assoc → qU, getD_cons_zero → qB, nil_append → qD, getElem?_append_right → qE, getElem?_append_left → qM, getElem?_map → qN, getElem?_cons_succ → qP, length_append → xQ, getElem_mem → xX, drop_zero → xZ, getElem?_cons_zero → xW, getElem?_eq_none → xY, mapM_cons → xA, range_succ → xD, getElem?_replicate → xG, length_singleton → xL, append_nil → xM, replicate_zero → xN, getElem_range → xP, all_eq_true → xT, getElem_map → yX, ext_getElem → yZ, length_map → yK, map_append → yW, length_set → yV, set_append_right → yY, mem_of_getElem? → yU, replicate_succ → yA, getElem?_range → yB, mem_cons → yC, take_add_one → yE, take_length → yG
open Go.AL.AV.closed renaming closedL → qK
open Option renaming bind_some → qV, bind_eq_some_iff → qG, getD_some → yQ, map_some → yL
open Int renaming toNat_natCast → qH
open Option.some renaming injEq → qO
open Bool renaming and_self → qT
set_option linter.unusedSimpArgs false
set_option linter.unusedVariables false
open Go Go.AL Go.Proofs Go.Limb
set_option maxRecDepth 100000
def cellsV:List Int→List AV
 | []=>[]
 | z::r=> .bool (decide (z<0)):: .vec (u32s (limbsOf z.natAbs)) (limbsOf z.natAbs).length none::cellsV r
def rowV (r:List Int):AV:= .vec (cellsV r) r.length none
def matC (M:List (List Int)):AV:= .vec (M.map rowV) M.length none
theorem rowC_wk:∀{r:List Int} {cs:List AV},RowC r cs→AV.wk.wkL cs=cellsV r:=by
 intro r
 induction r with
 | nil=>
  intro cs h
  cases cs with
  | nil=>rfl
  | cons _ _=>exact h.elim
 | cons z r ih=>
  intro cs h
  match cs,h with
  | u::v::cs,h=>
   have hw:=h.1.wk
   simp only [AV.wk,AV.wk.wkL,intV,AV.agg.injEq,List.cons.injEq,and_true] at hw
   show u.wk::v.wk::AV.wk.wkL cs=_
   rw [ih h.2,hw.1,hw.2];rfl
theorem isRowV_wk {r:List Int} {a:AV} (h:IsRowV r a):a.wk=rowV r:=by
 obtain ⟨cs,c,rfl,hc⟩:=h
 simp only [AV.wk,rowC_wk hc,rowV]
def FitsR (r:List Int):Prop:= ∀z∈r,z.natAbs<BIG
theorem cellsV_ok:∀{r:List Int},FitsR r→RowC r (cellsV r)
 | [],_=>trivial
 | z::r,h=>⟨intV_isInt (h z (by simp)),cellsV_ok (fun y hy=>h y (by simp [hy]))⟩
theorem rowV_ok {r:List Int} (h:FitsR r):IsRowV r (rowV r):=⟨_,_,rfl,cellsV_ok h⟩
theorem rowC_fits:∀{r:List Int} {cs:List AV},RowC r cs→FitsR r:=by
 intro r
 induction r with
 | nil=>intro cs _ z hz;simp at hz
 | cons z r ih=>
  intro cs h y hy
  match cs,h with
  | u::v::cs,h=>
   rcases List.mem_cons.1 hy with e | e
   ·rw [e];exact h.1.fits
   ·exact ih h.2 y e
def FitsM (M:List (List Int)):Prop:= ∀r∈M,FitsR r
theorem matV_fits {M:List (List Int)} {a:AV} (h:MatV M a):FitsM M:=by
 obtain ⟨rows,c,_,_,hr⟩:=h
 intro r hr'
 obtain ⟨i,hi,rfl⟩:=List.mem_iff_getElem.1 hr'
 obtain ⟨cs,c,_,h2⟩:=hr i hi
 rw [qX,qZ hi] at h2
 exact rowC_fits h2
theorem matC_ok {M:List (List Int)} (h:FitsM M):MatV M (matC M):=by
 refine ⟨M.map rowV,none,rfl,by simp,fun i hi=>?_⟩
 rw [qX,qX,qN,qZ hi]
 exact rowV_ok (h _ (xX _))
theorem matV_wk {M:List (List Int)} {a:AV} (h:MatV M a):a.wk=matC M:=by
 obtain ⟨rows,c,rfl,hl,hr⟩:=h
 simp only [AV.wk,matC,wkL_map]
 congr 1
 refine List.ext_getElem? (fun i=>?_)
 rw [qN,qN]
 rcases qC i M.length with hi | hi
 ·have:=isRowV_wk (hr i hi)
  rw [qX,qX,qZ hi,qZ (by omega)] at this
  rw [qZ hi,qZ (by omega)]
  simpa using this
 ·rw [xY hi,xY (by omega)];rfl
def Grow (H:Heap) (sz n:Nat) (cs:List AV) (a:AV) (bad:List Nat):Prop:=
 (n=0∧cs=[]∧a= .vec [] 0 (some 0))∨(0<n∧cs.length=n*sz∧∃id,a= .sl id 0 n sz none∧getB H id=some cs∧id∉bad)
theorem Grow.mono {H H':Heap} {sz n:Nat} {cs:List AV} {a:AV} {bad bad':List Nat} (h:Grow H sz n cs a bad) (hH:∀id,getB H id=some cs→a= .sl id 0 n sz none→getB H' id=some cs) (hb:∀id,a= .sl id 0 n sz none→id∉bad→id∉bad'):Grow H' sz n cs a bad':=by
 rcases h with h | ⟨h1,h2,id,h3,h4,h5⟩
 ·exact .inl h
 ·exact .inr ⟨h1,h2,id,h3,hH id h4 h3,hb id h3 h5⟩
theorem app_gen {H:Heap} {sz n:Nat} {cs xs:List AV} {a:AV} {bad:List Nat} {bytes:Nat} (h:Grow H sz n cs a bad) (hx:xs.length=sz) (hs:AV.scalL xs=true) (hb:bytes≤64) (hn:n<1100) (hfr:H.length+1∉bad):
  ∃e rd,(∀n0,appendA n0 (H.length+1) (H++[some xs]) sz bytes a (.sl H.length 0 1 sz (some 1))=some (.sl (H.length+1) 0 (n+1) sz none,e,rd))∧Grow (applyE e (H++[some xs]++[none])) sz (n+1) (cs++xs) (.sl (H.length+1) 0 (n+1) sz none) bad∧
   (applyE e (H++[some xs]++[none])).length=H.length+2∧(∀i,i<H.length→(∀m c,a≠ .sl i 0 m sz c)→getB (applyE e (H++[some xs]++[none])) i=getB H i)∧(∀i∈keys e,i=H.length+1∨∃m,a= .sl i 0 m sz none)∧(∀i∈rd,i=H.length∨∃m,a= .sl i 0 m sz none):=by
 have hg:getB (H++[some xs]) H.length=some xs:=getB_snoc0
 have b1:4*(n+1)*bytes≤2^48:=by
  have:4*(n+1)*bytes≤4*1100*64:=xH (by omega) hb
  have:(2:Nat)^48=281474976710656:=rfl
  omega
 have b2:n+1<2^62:=by
  have:(2:Nat)^62=4611686018427387904:=rfl
  omega
 have hel:elems (H++[some xs]) sz 1 (.sl H.length 0 1 sz (some 1))=some (xs,[H.length]):=by
  simp only [elems,hg,need,qA,xK,Nat.one_mul,hx,and_self,if_true]
  rw [xZ,qW (by omega)]
 rcases h with ⟨rfl,rfl,rfl⟩ | ⟨h0,hl,id,rfl,hc,hnb⟩
 ·refine ⟨[(H.length+1,some xs)],[H.length],fun n0=>?_,.inr ⟨by omega,by simp;omega,H.length+1,rfl,?_,hfr⟩,by simp [applyE],?_,?_,?_⟩
  ·simp only [appendA,lenA,qV,hel]
   have b1':4*(0+1)*bytes≤2^48:=b1
   simp only [need,yI,if_false,Nat.zero_mul,Nat.zero_le,b1',b2,and_self,if_true,List.take_zero,qD]
  ·simp only [applyE]
   rw [getB_set_eq (by simp)];rfl
  ·intro i hi _
   simp only [applyE]
   rw [getB_set_ne (by omega),qU,getB_app hi]
  ·intro i hi;simp [keys] at hi;exact .inl hi
  ·intro i hi;simp at hi;exact .inl hi
 ·have hid:=getB_lt' hc
  have hc2:getB (H++[some xs]) id=some cs:=by rw [getB_app hid];exact hc
  refine ⟨[(id,none),(H.length+1,some (cs++xs))],[id,H.length],fun n0=>?_,.inr ⟨by omega,by rw [xQ,hl,hx,Nat.add_mul,Nat.one_mul],H.length+1,rfl,?_,hfr⟩,by simp [applyE],?_,?_,?_⟩
  ·simp only [appendA,lenA,qV,hel,hc2]
   have e1:¬((none:Option Nat)=some n):=by simp
   have e2:id≠H.length+1:=by omega
   simp only [need,yI,if_false,hl,qA,b1,b2,and_self,if_true,e1,Nat.zero_le,hs,e2,ne_eq,not_false_eq_true]
   rw [qW (by omega)]
  ·simp only [applyE]
   rw [getB_set_eq (by simp)]
  ·intro i hi ha
   simp only [applyE]
   rw [getB_set_ne (by omega),getB_set_ne (fun e=>ha n none (by rw [e])),qU,getB_app hi]
  ·intro i hi
   simp [keys] at hi
   rcases hi with e | e
   ·exact .inr ⟨n,by rw [e]⟩
   ·exact .inl e
  ·intro i hi
   simp at hi
   rcases hi with e | e
   ·exact .inr ⟨n,by rw [e]⟩
   ·exact .inl e
def i64n (l:List Nat):List AV:=l.map fun (n:Nat)=>AV.int .i64 (n:Int)
theorem i64n_len (l:List Nat):(i64n l).length=l.length:=by simp [i64n]
theorem i64n_getD (l:List Nat) (i:Nat) (h:i<l.length) (d:AV):(i64n l).getD i d= .int .i64 ((l.getD i 0:Nat):Int):=by simp [i64n,h]
theorem i64n_frz (l:List Nat) (m d:Nat) (H:Heap):(i64n l).mapM (frzI m H (d+1))=some (i64n l):=by
 refine frz_flat (fun a ha=>?_)
 simp only [i64n,List.mem_map] at ha
 obtain ⟨n,_,rfl⟩:=ha
 rfl
theorem fin_i64n {H:Heap} {id n:Nat} {c:Option Nat} {l:List Nat} (hb:getB H id=some (i64n l)) (hn:n=l.length):AL.Fin 0 (.sl id 0 n 1 c) H (.vec (i64n l) n c) []:=by
 refine .freeze 2 _ _ _ ?_ (by intro i cs h;omega)
 have e:=i64n_frz l 0 0 H
 rw [frzI]
 simp only [xJ,if_false,hb,need,xK,xE,hn,i64n_len,qA,if_true,xZ]
 rw [qW (by rw [i64n_len];omega),e]
 rfl
theorem eFirst (k more:Nat) (hk:k≤16):Ret Tryz.prog G 125 [.int .i64 (k:Nat),.int .i64 (more:Nat)] [] (.vec (i64n (List.range k++[more])) (k+1) none) []:=by
 refine Ret_of mixed Tryz.func125 comp125 _ 20 res125 nt125 (by simp) (by simp) ?_
 simp only [c125,r125_0,r125_1,r125_2,SS,reduceCtorEq]
 refine W_loop (fun m E H=>∃i a,i+m=k∧E 0= .int .i64 (k:Nat)∧E 1= .int .i64 (more:Nat)∧E 5=a∧E 6= .int .i64 (i:Nat)∧Grow H 1 i (i64n (List.range i)) a []) (n:=k) ⟨0,_,by omega,by simp only [upd_app,argsE_app,qB,qQ,if_false],by simp only [upd_app,argsE_app,qB,qJ,qQ,if_false],rfl,by simp only [upd_app,argsE_app,qJ,qQ,reduceIte,if_false];rfl,.inl ⟨rfl,rfl,by simp only [upd_app,argsE_app,qJ,qQ,reduceIte,if_false]⟩⟩ ?_
 rintro m E H ⟨i,a,him,e0,e1,e5,e6,hG⟩
 refine wpC_sound mixed ?_
 simp only [l125_0,r125_3,SS,reduceCtorEq,reduceIte,qQ,e0,e6]
 refine ⟨fun hlt=>?_,fun hge=>?_⟩
 ·obtain ⟨m,rfl⟩:∃m',m=m'+1:=⟨m-1,by omega⟩
  have w5:IntKind.i64.wrap ((i:Int)+1)=((i+1:Nat):Int):=by rw [show (i:Int)+1=((i+1:Nat):Int) by omega];exact w64 (by omega) (by omega)
  obtain ⟨e,rd,hap,hG2,hl2,hk2,_,_⟩:=app_gen (bytes:=8) (xs:=[.int .i64 (i:Nat)]) hG rfl rfl (by omega) (by omega) (by simp)
  simp only [r125_4,r125_5,SS,reduceIte,qQ,qY,e5,e6,len_snoc,hap,w5]
  refine ⟨m,_,_,by omega,⟨i+1,_,by omega,?_,?_,rfl,?_,?_⟩,.refl⟩
  ·simp only [upd_app,qQ,if_false,e0]
  ·simp only [upd_app,qQ,if_false,e1]
  ·simp only [upd_app,qQ,reduceIte,if_false]
  ·have:i64n (List.range i)++[.int .i64 ((i:Nat):Int)]=i64n (List.range (i+1)):=by simp [i64n,xD]
   rw [this] at hG2
   simp only [upd_app,qQ,reduceIte,if_false]
   exact hG2
 ·have hm:i=k:=by omega
  subst hm
  obtain ⟨e,rd,hap,hG2,hl2,hk2,_,_⟩:=app_gen (bytes:=8) (xs:=[.int .i64 (more:Nat)]) hG rfl rfl (by omega) (by omega) (by simp)
  simp only [r125_6,SS,reduceIte,qQ,qY,e5,e1,len_snoc,hap]
  refine ⟨.inl trivial,_,rfl,?_⟩
  rcases hG2 with ⟨h,_⟩ | ⟨_,_,id,h1,h2,_⟩
  ·omega
  ·have:i64n (List.range i)++[.int .i64 ((more:Nat):Int)]=i64n (List.range i++[more]):=by simp [i64n]
   rw [this] at h2
   injection h1 with h1
   rw [h1]
   exact fin_i64n h2 (by simp)
def RowsAt (H:Heap) (n:Nat) (ps:List (Nat×Option Nat)) (M:List (List Int)):Prop:=ps.length=M.length∧∀i,i<M.length→(M.getD i []).length=n∧∃cs,getB H (pid ps i)=some cs∧RowC (M.getD i []) cs
theorem growRow {H:Heap} {r:List Int} {cs:List AV} {a:AV} {bad:List Nat} (h:Grow H 2 r.length cs a bad) (hr:RowC r cs) (h0:r≠[]):∃id,a= .sl id 0 r.length 2 none∧getB H id=some cs∧id∉bad:=by
 rcases h with ⟨h,_⟩ | ⟨_,_,id,h1,h2,h3⟩
 ·exact absurd (List.length_eq_zero_iff.1 h) h0
 ·exact ⟨id,h1,h2,h3⟩
theorem rows_frz {H:Heap} {n:Nat} {ps:List (Nat×Option Nat)} {M:List (List Int)} (h:RowsAt H n ps M):∃vs,(ps.map (slRow n)).mapM (frzI 0 H 2)=some vs∧vs.length=M.length∧∀i,i<M.length→IsRowV (M.getD i []) (vs.getD i .junk):=by
 obtain ⟨hl,hr⟩:=h
 have key:∀(qs:List (Nat×Option Nat)) (N:List (List Int)),qs.length=N.length→(∀i,i<N.length→(N.getD i []).length=n∧∃cs,getB H (pid qs i)=some cs∧RowC (N.getD i []) cs)→
   ∃vs,(qs.map (slRow n)).mapM (frzI 0 H 2)=some vs∧vs.length=N.length∧∀i,i<N.length→IsRowV (N.getD i []) (vs.getD i .junk):=by
  intro qs
  induction qs with
  | nil=>
   intro N hN _
   exact ⟨[],rfl,hN,fun i hi=>absurd hi (by rw [←hN];simp)⟩
  | cons q qs ih=>
   intro N hN hr
   match N,hN with
   | r::N,hN=>
    obtain ⟨vs,h1,h2,h3⟩:=ih N (by simpa using hN) (fun i hi=>by
     have:=hr (i+1) (by simpa using hi)
     simpa [pid] using this)
    obtain ⟨hn,cs,hb,hc⟩:=hr 0 (by simp)
    have hb:getB H q.1=some cs:=hb
    have hn:r.length=n:=hn
    have hc:RowC r cs:=hc
    have hcl:=rowC_len hc
    have e1:frzI 0 H 2 (slRow n q)=some (.vec cs n q.2):=by
     have e:=rowC_frz hc 0 0 H
     unfold slRow
     rw [frzI]
     simp only [xJ,if_false,hb,need,xK,hcl,hn,qA,if_true,xZ]
     rw [qW (by omega),e]
     rfl
    refine ⟨.vec cs n q.2::vs,?_,by simp [h2],?_⟩
    ·rw [List.map_cons,xA,e1,h1];rfl
    ·intro i hi
     cases i with
     | zero=>exact ⟨cs,q.2,by rw [←hn];rfl,hc⟩
     | succ i=>simpa using h3 i (by simpa using hi)
 exact key ps M hl hr
theorem fin_rows {H:Heap} {n:Nat} {ps:List (Nat×Option Nat)} {M:List (List Int)} {o:Nat} (ho:getB H o=some (ps.map (slRow n))) (h:RowsAt H n ps M):∃v,AL.Fin 0 (.sl o 0 M.length 1 none) H v []∧v.wk=matC M:=by
 obtain ⟨vs,h1,h2,h3⟩:=rows_frz h
 have hl:=h.1
 refine ⟨.vec vs M.length none,.freeze 3 _ _ _ ?_ (by intro i cs h;omega),matV_wk ⟨vs,none,rfl,h2,h3⟩⟩
 rw [frzI]
 simp only [xJ,if_false,ho,need,xK,xE,yK,hl,qA,if_true,xZ]
 rw [qW (by simp [hl]),h1]
 rfl
theorem grow_ne {H:Heap} {sz n:Nat} {cs:List AV} {a:AV} {bad:List Nat} (h:Grow H sz n cs a bad) {x:Nat} (hx:x∈bad):∀m c,a≠ .sl x 0 m sz c:=by
 intro m c e
 rcases h with ⟨_,_,h⟩ | ⟨_,_,id,h1,_,h3⟩
 ·rw [h] at e;simp at e
 ·rw [h1] at e
  injection e with e1
  exact h3 (e1 ▸ hx)
theorem mSel_in {M:List (List Int)} {n:Nat} {rows:List AV} {c c2:Option Nat} {ks:List Nat} (hl:rows.length=M.length) (hr:∀i,i<M.length→IsRowV (M.getD i []) (rows.getD i .junk)) (hc:∀i,i<M.length→(M.getD i []).length=n) {i:Nat} (hi:i<M.length) (hks:∀k∈ks,k<n) (hkl:ks.length≤16) (hn:n≤16) (hN:M.length≤16)
  {v7 v13 v14 v15:AV} {bad:List Nat} {H0:Heap} (hbad:∀x∈bad,x<H0.length) {E:Env} {Q:Post} (e0:E 0= .vec rows M.length c) (e2:E 2= .vec (i64n ks) ks.length c2) (e7:E 7=v7) (e9:E 9= .int .i64 (i:Nat)) (e10:E 10= .vec [] 0 (some 0)) (e13:E 13=v13) (e14:E 14=v14) (e15:E 15=v15)
  (e19:E 19= .vec (i64n ks) ks.length c2) (e20:E 20= .int .i64 (ks.length:Nat)) (e21:E 21= .int .i64 0)
  (hQ:∀E' H' cs,E' 0= .vec rows M.length c→E' 2= .vec (i64n ks) ks.length c2→E' 7=v7→E' 13=v13→E' 14=v14→E' 15=v15→RowC (selR M i ks) cs→Grow H' 2 ks.length cs (E' 10) bad→(∀x∈bad,getB H' x=getB H0 x)→H0.length≤H'.length→Q (.exit 2) E' H'):
  W Tryz.prog G 0 42 (.loop l124_1) E H0 Q:=by
 refine W_loop (fun m E H=>∃j cs,j+m=ks.length∧E 0= .vec rows M.length c∧E 2= .vec (i64n ks) ks.length c2∧E 7=v7∧E 9= .int .i64 (i:Nat)∧E 13=v13∧E 14=v14∧E 15=v15∧E 19= .vec (i64n ks) ks.length c2∧E 20= .int .i64 (ks.length:Nat)∧E 21= .int .i64 (j:Nat)∧
  RowC (selR M i (ks.take j)) cs∧Grow H 2 j cs (E 10) bad∧(∀x∈bad,getB H x=getB H0 x)∧H0.length≤H.length) (n:=ks.length) ⟨0,[],by omega,e0,e2,e7,e9,e13,e14,e15,e19,e20,e21,trivial,.inl ⟨rfl,rfl,e10⟩,fun _ _=>rfl,qA _⟩ ?_
 clear e0 e2 e7 e9 e10 e13 e14 e15 e19 e20 e21 E
 rintro m E H ⟨j,cs,hjm,e0,e2,e7,e9,e13,e14,e15,e19,e20,e21,hrc,hG,hkeep,hlen⟩
 refine wpC_sound mixed ?_
 simp only [l124_1,r124_7,SS,reduceIte,e20,e21]
 refine ⟨fun hlt=>?_,fun hge=>?_⟩
 ·obtain ⟨m,rfl⟩:∃m',m=m'+1:=⟨m-1,by omega⟩
  have hj:j<ks.length:=by omega
  have gk:=i64n_getD ks j hj AV.junk
  have hkj:ks.getD j 0<n:=by
   rw [qX,qZ hj];exact hks _ (xX _)
  obtain ⟨csi,ci,hei,hci⟩:=hr i hi
  have hcl:=rowC_len hci
  obtain ⟨u,v,hu,hz⟩:=rowC_get hci (ks.getD j 0) (by rw [hc i hi];exact hkj)
  have w5:IntKind.i64.wrap ((j:Int)+1)=((j+1:Nat):Int):=by rw [show (j:Int)+1=((j+1:Nat):Int) by omega];exact w64 (by omega) (by omega)
  have hs:=rowC_scal (r:=[(M.getD i []).getD (ks.getD j 0) 0]) (cs:=[u,v]) ⟨hz,trivial⟩
  obtain ⟨e,rd,hap,hG2,hl2,hk2,_,_⟩:=app_gen (bytes:=32) (xs:=[u,v]) hG rfl hs (by omega) (by omega) (by intro hm;have:=hbad _ hm;omega)
  obtain ⟨lz,cz,hz1,hz2⟩:=intCells hz
  subst hz1 hz2
  simp only [r124_8,r124_9,r124_10,SS,forall_const,reduceCtorEq,reduceIte,qS,qQ,qY,e0,e9,e19,e21,qH,gk,i64n_len,hl,hei,hcl,hc i hi,hu,len_snoc,hap,w5]
  refine ⟨⟨by omega,by omega⟩,by omega,⟨by omega,by omega⟩,by omega,⟨by omega,by omega⟩,by omega,?_⟩
  have htk:ks.take (j+1)=ks.take j++[ks.getD j 0]:=by
   rw [yE,qX,qZ hj];rfl
  refine ⟨m,_,_,by omega,⟨j+1,cs++[AV.bool (decide ((M.getD i []).getD (ks.getD j 0) 0<0)),AV.vec (u32s lz) lz.length cz],by omega,?_,?_,?_,?_,?_,?_,?_,?_,?_,?_,?_,?_,?_,?_⟩,.refl⟩
  ·simp only [upd_app,qQ,if_false,e0]
  ·simp only [upd_app,qQ,if_false,e2]
  ·simp only [upd_app,qQ,if_false,e7]
  ·simp only [upd_app,qQ,if_false,e9]
  ·simp only [upd_app,qQ,if_false,e13]
  ·simp only [upd_app,qQ,if_false,e14]
  ·simp only [upd_app,qQ,if_false,e15]
  ·simp only [upd_app,qQ,if_false,e19]
  ·simp only [upd_app,qQ,if_false,e20]
  ·simp only [upd_app,qQ,reduceIte,if_false]
  ·rw [htk]
   unfold selR
   rw [yW]
   exact rowC_snoc hrc _ _ _ hz
  ·simp only [upd_app,qQ,reduceIte,if_false]
   exact hG2
  ·intro x hx
   have hxl:=hbad x hx
   rw [hk2 x (by omega) (grow_ne hG hx)]
   exact hkeep x hx
  ·omega
 ·have hm:j=ks.length:=by omega
  subst hm
  rw [yG] at hrc
  exact hQ _ _ cs (by simp only [upd_app,qQ,if_false,e0]) (by simp only [upd_app,qQ,if_false,e2]) (by simp only [upd_app,qQ,if_false,e7]) (by simp only [upd_app,qQ,if_false,e13]) (by simp only [upd_app,qQ,if_false,e14]) (by simp only [upd_app,qQ,if_false,e15]) hrc (by simp only [upd_app,qQ,if_false];exact hG) hkeep hlen
theorem mSelect {M:List (List Int)} {a:AV} {n:Nat} {rs ks:List Nat} {c1 c2:Option Nat} (h:MatV M a) (hN:M.length≤16) (hn:n≤16) (hc:∀i,i<M.length→(M.getD i []).length=n) (hrs:∀i∈rs,i<M.length) (hrl:1≤rs.length∧rs.length≤16) (hks:∀k∈ks,k<n) (hkl:1≤ks.length∧ks.length≤16):
  Ret Tryz.prog G 124 [a,.vec (i64n rs) rs.length c1,.vec (i64n ks) ks.length c2] [] (matC (selM M rs ks)) []:=by
 obtain ⟨rows,c,rfl,hl,hr⟩:=h
 refine Ret_ofw mixed Tryz.func124 comp124 _ 42 res124 nt124 (by simp) (by simp) ?_
 simp only [c124,r124_0,r124_1,r124_2,SS,reduceCtorEq,reduceIte,qQ]
 refine W_loop (fun m E H=>∃i ps,i+m=rs.length∧E 0= .vec rows M.length c∧E 2= .vec (i64n ks) ks.length c2∧E 13= .vec (i64n rs) rs.length c1∧E 14= .int .i64 (rs.length:Nat)∧E 15= .int .i64 (i:Nat)∧
  Grow H 1 i (ps.map (slRow ks.length)) (E 7) (ps.map (·.1))∧RowsAt H ks.length ps (selM M (rs.take i) ks)∧∀x∈ps.map (·.1),x<H.length) (n:=rs.length) ⟨0,[],by omega,?_,?_,?_,?_,?_,.inl ⟨rfl,rfl,?_⟩,⟨rfl,fun i hi=>absurd hi (by simp [selM])⟩,by simp⟩ ?_
 ·simp only [upd_app,argsE_app,qB,qQ,if_false]
 ·simp only [upd_app,argsE_app,qB,qJ,qQ,if_false]
 ·simp only [upd_app,argsE_app,qJ,qQ,reduceIte,if_false]
 ·simp only [upd_app,argsE_app,qJ,qQ,reduceIte,if_false]
 ·simp only [upd_app,argsE_app,qJ,qQ,reduceIte,if_false];rfl
 ·simp only [upd_app,argsE_app,qJ,qQ,reduceIte,if_false]
 rintro m E H ⟨i,ps,him,e0,e2,e13,e14,e15,hG,hR,hlt⟩
 refine wpC_sound mixed ?_
 simp only [l124_0,r124_3,SS,reduceCtorEq,reduceIte,e14,e15]
 refine ⟨fun hlt2=>?_,fun hge=>?_⟩
 ·obtain ⟨m,rfl⟩:∃m',m=m'+1:=⟨m-1,by omega⟩
  have hi:i<rs.length:=by omega
  have gr:=i64n_getD rs i hi AV.junk
  have hri:rs.getD i 0<M.length:=by
   rw [qX,qZ hi];exact hrs _ (xX _)
  have w5:IntKind.i64.wrap ((i:Int)+1)=((i+1:Nat):Int):=by rw [show (i:Int)+1=((i+1:Nat):Int) by omega];exact w64 (by omega) (by omega)
  simp only [r124_4,r124_5,r124_6,SS,forall_const,reduceIte,qQ,e2,e13,e15,qH,gr,i64n_len]
  refine ⟨⟨by omega,by omega⟩,by omega,?_⟩
  have hbad:∃bad:List Nat,(∀x∈bad,x<H.length)∧(∀x∈ps.map (·.1),x∈bad)∧(∀id,E 7= .sl id 0 i 1 none→id∈bad):=by
   rcases hG with ⟨_,_,h7⟩ | ⟨_,_,id,h7,hb,_⟩
   ·exact ⟨ps.map (·.1),hlt,fun x hx=>hx,fun id hid=>by rw [h7] at hid;simp at hid⟩
   ·refine ⟨id::ps.map (·.1),?_,fun x hx=>by simp only [yC];exact .inr hx,fun id' hid=>?_⟩
    ·intro x hx
     rcases List.mem_cons.1 hx with e | e
     ·rw [e];exact getB_lt' hb
     ·exact hlt x e
    ·rw [h7] at hid
     injection hid with hid
     rw [←hid];simp
  obtain ⟨bad,hb1,hb2,hb3⟩:=hbad
  refine mSel_in (c:=c) (c2:=c2) (bad:=bad) (v7:=E 7) (v13:= .vec (i64n rs) rs.length c1) (v14:= .int .i64 (rs.length:Nat)) (v15:= .int .i64 (i:Nat)) hl hr hc hri hks hkl.2 hn hN hb1 ?_ ?_ ?_ ?_ ?_ ?_ ?_ ?_ ?_ ?_ ?_ (fun E1 H1 cs f0 f2 f7 f13 f14 f15 hrc hG1 hkeep hlen=>?rest)
  case rest=>
   have hsl:(selR M (rs.getD i 0) ks).length=ks.length:=by simp [selR]
   rw [←hsl] at hG1
   obtain ⟨id,hid,hgb,hnb⟩:=growRow hG1 hrc (by intro e;rw [e] at hsl;simp at hsl;omega)
   rw [hsl] at hid
   have hidlt:=getB_lt' hgb
   have hG7:Grow H1 1 i (ps.map (slRow ks.length)) (E1 7) (id::ps.map (·.1)):=by
    rw [f7]
    refine hG.mono (fun id' h1 h2=>by rw [hkeep id' (hb3 id' h2)];exact h1) (fun id' h2 h3=>?_)
    intro hm
    rcases List.mem_cons.1 hm with e | e
    ·exact hnb (e ▸ hb3 id' h2)
    ·exact h3 e
   obtain ⟨e,rd,hap,hG2,hl2,hk2,_,_⟩:=app_gen (bytes:=24) (xs:=[.sl id 0 ks.length 2 none]) hG7 rfl rfl (by omega) (by omega) (by
    intro hm
    rcases List.mem_cons.1 hm with e | e
    ·omega
    ·have:=hlt _ e;omega)
   simp only [r124_11,r124_12,SS,reduceCtorEq,reduceIte,qQ,qY,hid,f15,len_snoc,hap,w5]
   refine ⟨m,_,_,by omega,⟨i+1,ps++[(id,none)],by omega,?_,?_,?_,?_,?_,?_,?_,?_⟩,.refl⟩
   ·simp only [upd_app,qQ,if_false,f0]
   ·simp only [upd_app,qQ,if_false,f2]
   ·simp only [upd_app,qQ,if_false,f13]
   ·simp only [upd_app,qQ,if_false,f14]
   ·simp only [upd_app,qQ,reduceIte,if_false]
   ·simp only [upd_app,qQ,reduceIte,if_false]
    have e3:(ps++[(id,none)]).map (slRow ks.length)=ps.map (slRow ks.length)++[.sl id 0 ks.length 2 none]:=by simp [slRow]
    rw [e3]
    refine hG2.mono (fun _ h _=>h) (fun id' _ h3 hm=>h3 ?_)
    rw [yW] at hm
    rcases List.mem_append.1 hm with e | e
    ·simp only [yC];exact .inr e
    ·simp at e;simp [e]
   ·have hps:=hR.1
    have htk:rs.take (i+1)=rs.take i++[rs.getD i 0]:=by
     rw [yE,qX,qZ hi];rfl
    have hml:(selM M (rs.take i) ks).length=i:=by simp [selM];omega
    refine ⟨by rw [htk];simp [selM] at hps ⊢;omega,fun i' hi'=>?_⟩
    rw [htk] at hi' ⊢
    have hsm:selM M (rs.take i++[rs.getD i 0]) ks=selM M (rs.take i) ks++[selR M (rs.getD i 0) ks]:=by simp [selM]
    rw [hsm] at hi' ⊢
    rw [xQ,xL,hml] at hi'
    rcases qC i' i with hii | hii
    ·have e4:(selM M (rs.take i) ks++[selR M (rs.getD i 0) ks]).getD i' []=(selM M (rs.take i) ks).getD i' []:=by
      rw [qX,qM (by omega),←qX]
     have e5:pid (ps++[(id,none)]) i'=pid ps i':=by
      unfold pid
      rw [qX,qM (by omega),←qX]
     rw [e4,e5]
     obtain ⟨g1,cs',g2,g3⟩:=hR.2 i' (by omega)
     have hpm:=pid_mem (ps:=ps) (i:=i') (by omega)
     refine ⟨g1,cs',?_,g3⟩
     rw [hk2 _ (by have:=hlt _ hpm;omega) (grow_ne hG7 (by simp only [yC];exact .inr hpm)),hkeep _ (hb2 _ hpm)]
     exact g2
    ·have e4:(selM M (rs.take i) ks++[selR M (rs.getD i 0) ks]).getD i' []=selR M (rs.getD i 0) ks:=by
      rw [qX,qE (by omega),show i'-(selM M (rs.take i) ks).length=0 by omega];rfl
     have e5:pid (ps++[(id,none)]) i'=id:=by
      unfold pid
      rw [qX,qE (by omega),show i'-ps.length=0 by omega];rfl
     rw [e4,e5]
     refine ⟨hsl,cs,?_,hrc⟩
     rw [hk2 _ hidlt (grow_ne hG7 (by simp))]
     exact hgb
   ·intro x hx
    rw [yW] at hx
    rcases List.mem_append.1 hx with e | e
    ·have:=hlt x e;omega
    ·simp at e;omega
  all_goals simp only [upd_app,qQ,reduceIte,if_false, *]
 ·have hm:i=rs.length:=by omega
  subst hm
  rw [yG] at hR
  simp only [r124_13,SS,reduceIte,qQ]
  rcases hG with ⟨h0,_⟩ | ⟨_,_,id,h7,hb,_⟩
  ·omega
  ·obtain ⟨v,hv1,hv2⟩:=fin_rows hb hR
   have hml:(selM M rs ks).length=rs.length:=by simp [selM]
   rw [hml] at hv1
   exact ⟨.inl trivial,_,v,rfl,by rw [h7];exact hv1,hv2⟩
structure Sq (n:Nat) (M:List (List Int)) (a:AV):Prop where
 mat:MatV M a
 len:M.length=n
 cols:∀i,i<n→(M.getD i []).length=n
 lo:1≤n
 hi:n≤8
theorem Sq.shape {n:Nat} {M:List (List Int)} {a:AV} (h:Sq n M a):ShapeOK M:=by
 refine ⟨by rw [h.len];exact h.lo,by rw [h.len];have:=h.hi;omega,fun i hi=>?_⟩
 rw [h.len] at hi
 rw [h.cols i hi,h.cols 0 h.lo]
 have:=h.lo;have:=h.hi
 omega
theorem Sq.closed {n:Nat} {M:List (List Int)} {a:AV} (h:Sq n M a):a.closed=true:=by
 obtain ⟨rows,c,rfl,_⟩:=h.mat;rfl
theorem mSquare {n:Nat} {M:List (List Int)} {a:AV} (h:Sq n M a):Ret Tryz.prog G 71 [a] [] (.tup [.int .i64 (n:Nat),.bool true]) []:=by
 have t:=mShape h.mat h.shape
 rw [h.len,h.cols 0 h.lo] at t
 have c1:qK [a]=true:=by simp only [qK,h.closed,qT]
 refine Ret_of mixed Tryz.func71 comp71 _ 21 res71 nt71 (by simp) (by simp) ?_
 simp only [c71,r71_0,r71_1,SS,reduceCtorEq,reduceIte]
 refine callA_pure t ?_ c1
 simp only [SS,reduceIte,qQ,xW,qP]
 have d1:decide (((n:Nat):Int)≠(n:Nat))=false:=by simp
 simp only [r71_2,SS,forall_const,reduceIte,qQ,d1]
 simp only [r71_4,SS,reduceIte,qQ]
 exact ⟨.inl trivial,_,rfl,.drop _ _ rfl (by intro i cs h;omega)⟩
theorem minK_sq {n:Nat} {M:List (List Int)} {a:AV} (h:Sq n M a) {k:Nat} (hk:k<n):Sq (k+1) (minK M k) (matC (minK M k))∧(minK M k).length=k+1:=by
 have hl:(minK M k).length=k+1:=by simp [minK,selM]
 have hf:=matV_fits h.mat
 have hent:∀i j,i<n→j<n→(ent M i j).natAbs<BIG:=by
  intro i j hi hj
  have hc:=h.cols i hi
  unfold ent
  rw [qX (l:=M.getD i []),qZ (by omega)]
  have hm:M.getD i []∈M:=by rw [qX,qZ (by rw [h.len];exact hi)];exact xX _
  exact hf _ hm _ (xX _)
 refine ⟨⟨matC_ok ?_,hl,?_,by omega,by have:=h.hi;omega⟩,hl⟩
 ·intro r hr z hz
  obtain ⟨i,hi,rfl⟩:=List.mem_map.1 hr
  obtain ⟨j,hj,rfl⟩:=List.mem_map.1 hz
  have hb:∀x∈List.range k++[k],x<n:=by
   intro x hx
   rcases List.mem_append.1 hx with e | e
   ·have:=List.mem_range.1 e;omega
   ·simp at e;omega
  exact hent i j (hb i hi) (hb j hj)
 ·intro i hi
  unfold minK selM
  rw [qX,qN,qZ (by simp;omega)]
  simp [selR]
theorem cells_intV (z:Int):(intV z).cells=[.bool (decide (z<0)),.vec (u32s (limbsOf z.natAbs)) (limbsOf z.natAbs).length none]:=rfl
theorem fin_rowT {H:Heap} {id n:Nat} {r:List Int} {cs:List AV} {b:Bool} (hb:getB H id=some cs) (hr:RowC r cs) (hn:n=r.length):AL.Fin 0 (.tup [.sl id 0 n 2 none,.bool b]) H (.tup [.vec cs n none,.bool b]) []:=by
 refine .freeze 3 _ _ _ ?_ (by intro i cs h;omega)
 have e:=rowC_frz hr 0 0 H
 have hl:=rowC_len hr
 have e1:frzI 0 H 2 (.sl id 0 n 2 none)=some (.vec cs n none):=by
  rw [frzI]
  simp only [xJ,if_false,hb,need,xK,hn,hl,qA,if_true,xZ]
  rw [qW (by omega),e]
  rfl
 rw [frzI]
 simp only [xA,List.mapM_nil,e1]
 rfl
theorem eLeading {B n:Nat} {M:List (List Int)} {a:AV} {ds:List Int} (hB:DivB B) (h:Sq n M a) (hd:leadO B M=some ds):Ret Tryz.prog G 78 [a] [] (.tup [rowV ds,.bool true]) []:=by
 have hl:ds.length=n:=by rw [←h.len];exact leadL_len hd
 have ts:=mSquare h
 have c1:qK [a]=true:=by simp only [qK,h.closed,qT]
 have hn8:=h.hi
 have hn1:=h.lo
 refine Ret_ofw mixed Tryz.func78 comp78 _ 33 res78 nt78 (by simp) (by simp) ?_
 simp only [c78,r78_0,r78_1,SS,reduceCtorEq,reduceIte]
 refine callA_pure ts ?_ c1
 simp only [SS,reduceIte,qQ,xW,qP]
 simp only [r78_2,SS,forall_const,reduceIte,qQ]
 simp only [r78_4,r78_5,SS]
 refine W_loop (fun m E H=>∃k cs,k+m=n∧E 0=a∧E 4= .int .i64 (n:Nat)∧E 7= .int .i64 (k:Nat)∧RowC (ds.take k) cs∧Grow H 2 k cs (E 6) []) (n:=n) ⟨0,[],by omega,?_,?_,?_,trivial,.inl ⟨rfl,rfl,?_⟩⟩ ?_
 ·simp only [upd_app,argsE_app,qB,qQ,if_false]
 ·simp only [upd_app,argsE_app,qJ,qQ,reduceIte,if_false]
 ·simp only [upd_app,argsE_app,qJ,qQ,reduceIte,if_false];rfl
 ·simp only [upd_app,argsE_app,qJ,qQ,reduceIte,if_false]
 rintro m E H ⟨k,cs,hkm,e0,e4,e7,hrc,hG⟩
 refine wpC_sound mixed ?_
 simp only [l78_0,r78_6,SS,reduceCtorEq,reduceIte,qQ,e4,e7]
 refine ⟨fun hlt=>?_,fun hge=>?_⟩
 ·obtain ⟨m,rfl⟩:∃m',m=m'+1:=⟨m-1,by omega⟩
  have hk:k<n:=by omega
  have hpre:leadL B M (k+1)=some (ds.take (k+1)):=by
   have:leadL B M ((k+1)+m)=some ds:=by rw [show (k+1)+m=M.length by rw [h.len];omega];exact hd
   exact leadL_pre this
  have hpre0:leadL B M k=some (ds.take k):=by
   have:leadL B M (k+(m+1))=some ds:=by rw [show k+(m+1)=M.length by rw [h.len];omega];exact hd
   exact leadL_pre this
  simp only [leadL,hpre0,qV,qG,qO] at hpre
  obtain ⟨d,hdet,d',hck,htake⟩:=hpre
  obtain ⟨rfl,hfit⟩:=ck_some hck
  obtain ⟨hsq,hml⟩:=minK_sq h hk
  have hrl:(List.range k++[k]).length=k+1:=by simp
  have tf:=eFirst k k (by omega)
  rw [←hrl] at tf
  have hb:∀x∈List.range k++[k],x<n:=by
   intro x hx
   rcases List.mem_append.1 hx with e | e
   ·have:=List.mem_range.1 e;omega
   ·simp at e;omega
  have tsel:=mSelect (n:=n) (rs:=List.range k++[k]) (ks:=List.range k++[k]) (c1:=none) (c2:=none) h.mat (by rw [h.len];omega) (by omega) (fun i hi=>h.cols i (by rw [←h.len];exact hi)) (fun x hx=>by rw [h.len];exact hb x hx) (by omega) hb (by omega)
  have tdet:=mDet hB hsq.mat (by rw [hml];omega) (fun i hi=>by rw [hml] at hi ⊢;exact hsq.cols i hi) hdet
  have c2:qK [a,.vec (i64n (List.range k++[k])) (List.range k++[k]).length none,.vec (i64n (List.range k++[k])) (List.range k++[k]).length none]=true:=by simp only [qK,h.closed,AV.closed,qT]
  have hz:IsInt d' (intV d'):=intV_isInt (qR hfit hB.1)
  have w5:IntKind.i64.wrap ((k:Int)+1)=((k+1:Nat):Int):=by rw [show (k:Int)+1=((k+1:Nat):Int) by omega];exact w64 (by omega) (by omega)
  obtain ⟨e,rd,hap,hG2,hl2,hk2,_,_⟩:=app_gen (bytes:=32) (xs:=[.bool (decide (d'<0)),.vec (u32s (limbsOf d'.natAbs)) (limbsOf d'.natAbs).length none]) hG rfl rfl (by omega) (by omega) (by simp)
  simp only [r78_7,SS,reduceCtorEq,reduceIte,qQ,e0,e7]
  refine callA_pure tf ?_
  simp only [SS,reduceIte,qQ,e7]
  refine callA_pure tf ?_
  simp only [SS,reduceIte,qQ]
  refine callA_pure tsel ?_ c2
  simp only [SS,reduceIte,qQ]
  refine callA_pure tdet ?_
  simp only [SS,reduceIte,qS,qQ,qY,cells_intV,show (intV d').firm=true from rfl]
  simp only [SS,len_snoc,hap]
  simp only [r78_8,SS,reduceIte,qQ,e7,w5]
  refine ⟨m,_,_,by omega,⟨k+1,cs++[.bool (decide (d'<0)),.vec (u32s (limbsOf d'.natAbs)) (limbsOf d'.natAbs).length none],by omega,?_,?_,?_,?_,?_⟩,.refl⟩
  ·simp only [upd_app,qQ,if_false,e0]
  ·simp only [upd_app,qQ,if_false,e4]
  ·simp only [upd_app,qQ,reduceIte,if_false]
  ·rw [←htake]
   exact rowC_snoc hrc _ _ _ hz
  ·simp only [upd_app,qQ,reduceIte,if_false]
   exact hG2
 ·have hm:k=n:=by omega
  subst hm
  rw [qW (by omega)] at hrc
  simp only [r78_9,SS,reduceIte,qQ]
  rcases hG with ⟨h0,_⟩ | ⟨_,_,id,h7,hb,_⟩
  ·omega
  ·refine ⟨.inl trivial,_,.tup [.vec cs k none,.bool true],rfl,?_,?_⟩
   ·simp only [upd_app,qQ,reduceIte,if_false,h7]
    exact fin_rowT hb hrc hl.symm
   ·simp only [AV.wk,AV.wk.wkL,rowC_wk hrc,rowV,hl]
theorem mat_at {n:Nat} {M:List (List Int)} {rows:List AV} (hr:∀i,i<M.length→IsRowV (M.getD i []) (rows.getD i .junk)) (hlen:M.length=n) (hc:∀i,i<n→(M.getD i []).length=n) {i:Nat} (hi:i<n):∃cs c,rows.getD i .junk= .vec cs n c∧cs.length=n*2∧
  ∀j,j<n→∃u v,(cs.drop (j*2)).take 2=[u,v]∧IsInt (ent M i j) (.agg [u,v]):=by
 obtain ⟨cs,c,h1,h2⟩:=hr i (by omega)
 have hl:=rowC_len h2
 rw [hc i hi] at h1 hl
 exact ⟨cs,c,h1,hl,fun j hj=>rowC_get h2 j (by rw [hc i hi];exact hj)⟩
theorem eSymmetric {n:Nat} {M:List (List Int)} {a:AV} (h:Sq n M a):Ret Tryz.prog G 72 [a] [] (.bool (symB M)) []:=by
 obtain ⟨⟨rows,c,rfl,hl,hr⟩,hlen,hc,hlo,hhi⟩:=h
 refine Ret_of mixed Tryz.func72 comp72 _ 32 res72 nt72 (by simp) (by simp) ?_
 simp only [c72,r72_0,r72_1,SS,reduceCtorEq,reduceIte]
 rw [hlen]
 refine W_loop (fun m E H=>∃i,i+m=n∧E 0= .vec rows n c∧E 6= .int .i64 (n:Nat)∧E 7= .int .i64 (i:Nat)∧H=[]∧∀i',i'<i→∀j,j<i'→ent M i' j=ent M j i') (n:=n) ⟨0,by omega,?_,?_,?_,rfl,fun i' h=>absurd h (by omega)⟩ ?_
 ·simp only [upd_app,argsE_app,qB,qQ,if_false]
 ·simp only [upd_app,argsE_app,qJ,qQ,reduceIte,if_false]
 ·simp only [upd_app,argsE_app,qJ,qQ,reduceIte,if_false];rfl
 rintro m E H ⟨i,him,e0,e6,e7,rfl,hsym⟩
 refine wpC_sound mixed ?_
 simp only [l72_0,r72_2,SS,reduceCtorEq,reduceIte,e6,e7]
 refine ⟨fun hlt=>?_,fun hge=>?_⟩
 ·obtain ⟨m,rfl⟩:∃m',m=m'+1:=⟨m-1,by omega⟩
  have hi:i<n:=by omega
  have w5:IntKind.i64.wrap ((i:Int)+1)=((i+1:Nat):Int):=by rw [show (i:Int)+1=((i+1:Nat):Int) by omega];exact w64 (by omega) (by omega)
  simp only [r72_3,r72_4,SS,reduceIte,qQ,e7]
  refine W_loop (fun m2 E H=>∃j,j+m2=i∧E 0= .vec rows n c∧E 3= .int .i64 (i:Nat)∧E 4= .int .i64 (j:Nat)∧E 6= .int .i64 (n:Nat)∧E 7= .int .i64 (i:Nat)∧H=[]∧∀j',j'<j→ent M i j'=ent M j' i) (n:=i) ⟨0,by omega,?_,?_,?_,?_,?_,rfl,fun j' h=>absurd h (by omega)⟩ ?_
  ·simp only [upd_app,qQ,if_false,e0]
  ·simp only [upd_app,qQ,reduceIte,if_false]
  ·simp only [upd_app,qQ,reduceIte,if_false];rfl
  ·simp only [upd_app,qQ,if_false,e6]
  ·simp only [upd_app,qQ,if_false,e7]
  rintro m2 E2 H2 ⟨j,hjm,f0,f3,f4,f6,f7,rfl,hsj⟩
  refine wpC_sound mixed ?_
  simp only [l72_1,r72_5,SS,reduceCtorEq,reduceIte,qQ,f3,f4]
  refine ⟨fun hlt3=>?_,fun hge3=>?_⟩
  ·obtain ⟨m2,rfl⟩:∃m',m2=m'+1:=⟨m2-1,by omega⟩
   have hj:j<i:=by omega
   obtain ⟨ci,cci,gi,li,fi⟩:=mat_at hr hlen hc (i:=i) hi
   obtain ⟨cj,ccj,gj,lj,fj⟩:=mat_at hr hlen hc (i:=j) (by omega)
   obtain ⟨u1,v1,x1,y1⟩:=fi j (by omega)
   obtain ⟨u2,v2,x2,y2⟩:=fj i hi
   have t:=zCmp y1 y2
   have c1:qK [.agg [u1,v1],.agg [u2,v2]]=true:=by simp only [qK,y1.closed,y2.closed,qT]
   have w6:IntKind.i64.wrap ((j:Int)+1)=((j+1:Nat):Int):=by rw [show (j:Int)+1=((j+1:Nat):Int) by omega];exact w64 (by omega) (by omega)
   have hl':rows.length=n:=by omega
   simp only [r72_6,SS,forall_const,reduceCtorEq,reduceIte,qQ,f0,f3,f4,qH,gi,gj,li,lj,hl',x1,x2]
   refine ⟨⟨by omega,by omega⟩,by omega,⟨by omega,by omega⟩,by omega,⟨by omega,by omega⟩,by omega,⟨by omega,by omega⟩,by omega,?_⟩
   refine callA_pure t ?_ c1
   simp only [SS,reduceIte,qQ]
   refine ⟨rfl,fun hne=>?_,fun heq=>?_⟩
   ·have hne2:ent M i j≠ent M j i:=by
     intro e;rw [if_neg (by omega),if_pos e] at hne;exact hne rfl
    have hb:symB M=false:=by
     cases hx:symB M with
     | false=>rfl
     | true=>exact absurd (symB_true.1 hx i (by omega) j hj) hne2
    rw [hb]
    simp only [r72_7,SS]
    exact ⟨.inl trivial,_,rfl,.drop _ _ rfl (by intro i cs h;omega)⟩
   ·have heq2:ent M i j=ent M j i:=by
     have heq:(if ent M i j<ent M j i then (-1:Int) else if ent M i j=ent M j i then 0 else 1)=0:=by simpa using heq
     split at heq
     ·omega
     ·split at heq
      ·assumption
      ·omega
    simp only [r72_8,SS,reduceIte,qQ,f4,w6]
    refine ⟨m2,_,_,by omega,⟨j+1,by omega,?_,?_,?_,?_,?_,rfl,?_⟩,.refl⟩
    ·simp only [upd_app,qQ,if_false,f0]
    ·simp only [upd_app,qQ,if_false,f3]
    ·simp only [upd_app,qQ,reduceIte,if_false]
    ·simp only [upd_app,qQ,if_false,f6]
    ·simp only [upd_app,qQ,if_false,f7]
    ·intro j' hj'
     rcases qC j' j with h | h
     ·exact hsj j' h
     ·rw [show j'=j by omega];exact heq2
  ·simp only [r72_9,SS,reduceIte,qQ,f7,w5]
   refine ⟨m,_,_,by omega,⟨i+1,by omega,?_,?_,?_,rfl,?_⟩,.refl⟩
   ·simp only [upd_app,qQ,if_false,f0]
   ·simp only [upd_app,qQ,if_false,f6]
   ·simp only [upd_app,qQ,reduceIte,if_false]
   ·intro i' hi' j' hj'
    rcases qC i' i with h | h
    ·exact hsym i' h j' hj'
    ·have:i'=i:=by omega
     subst this
     exact hsj j' (by omega)
 ·have hb:symB M=true:=symB_true.2 (fun i' hi' j hj=>hsym i' (by omega) j hj)
  rw [hb]
  simp only [r72_10,SS]
  exact ⟨.inl trivial,_,rfl,.drop _ _ rfl (by intro i cs h;omega)⟩
theorem eDefinite {B n:Nat} {M:List (List Int)} {a:AV} {ds:List Int} (hB:DivB B) (h:Sq n M a) (hd:leadO B M=some ds):Ret Tryz.prog G 73 [a] [] (.bool (defB M ds)) []:=by
 have hl:ds.length=n:=by rw [←h.len];exact leadL_len hd
 have hfit:FitsR ds:=fun z hz=>qR (leadL_fits hd z hz) hB.1
 have t1:=eLeading hB h hd
 have t2:=eSymmetric h
 have c1:qK [a]=true:=by simp only [qK,h.closed,qT]
 have hrc:=cellsV_ok hfit
 have hcl:=rowC_len hrc
 have hn8:=h.hi
 refine Ret_of mixed Tryz.func73 comp73 _ 29 res73 nt73 (by simp) (by simp) ?_
 simp only [c73,r73_0,r73_1,SS,reduceCtorEq,reduceIte]
 refine callA_pure t1 ?_ c1
 simp only [SS,reduceIte,qQ,xW,qP]
 simp only [r73_2,SS,forall_const,reduceCtorEq,reduceIte,qQ]
 refine callA_pure t2 ?_ c1
 simp only [SS,forall_const,reduceIte,qQ]
 refine ⟨fun hs=>?_,fun hs=>?_⟩
 ·have hs:symB M=false:=by simpa using hs
  have hb:defB M ds=false:=by unfold defB;rw [hs];rfl
  rw [hb]
  simp only [r73_3,SS]
  exact ⟨.inl trivial,_,rfl,.drop _ _ rfl (by intro i cs h;omega)⟩
 ·have hs:symB M=true:=by simpa using hs
  simp only [r73_4,SS,reduceIte,qQ,rowV]
  rw [hl]
  refine W_loop (fun m E H=>∃i,i+m=n∧E 19= .vec (cellsV ds) n none∧E 20= .int .i64 (n:Nat)∧E 21= .int .i64 (i:Nat)∧∀i',i'<i→0<ds.getD i' 0) (n:=n) ⟨0,by omega,?_,?_,?_,fun i' h=>absurd h (by omega)⟩ ?_
  ·simp only [upd_app,argsE_app,qJ,qQ,reduceIte,if_false]
  ·simp only [upd_app,argsE_app,qJ,qQ,reduceIte,if_false]
  ·simp only [upd_app,argsE_app,qJ,qQ,reduceIte,if_false];rfl
  rintro m E H ⟨i,him,e19,e20,e21,hpos⟩
  refine wpC_sound mixed ?_
  simp only [l73_0,r73_5,SS,reduceCtorEq,reduceIte,e20,e21]
  refine ⟨fun hlt=>?_,fun hge=>?_⟩
  ·obtain ⟨m,rfl⟩:∃m',m=m'+1:=⟨m-1,by omega⟩
   obtain ⟨u,v,hx,hy⟩:=rowC_get hrc i (by omega)
   have hs2:=rowC_scal (r:=[ds.getD i 0]) (cs:=[u,v]) ⟨hy,trivial⟩
   have t3:=zSign hy
   obtain ⟨lz,cz,hz1,hz2⟩:=intCells hy
   subst hz1 hz2
   have w5:IntKind.i64.wrap ((i:Int)+1)=((i+1:Nat):Int):=by rw [show (i:Int)+1=((i+1:Nat):Int) by omega];exact w64 (by omega) (by omega)
   simp only [r73_6,SS,reduceIte,qS,qQ,qY,e19,e21,qH,hcl,hl,hx,getB_snoc0,set_snoc]
   refine ⟨⟨by omega,by omega⟩,by omega,?_⟩
   simp only [r73_7,SS,reduceIte,qS,qQ,qY,getB_snoc0]
   refine callA_pure t3 ?_
   simp only [SS,reduceIte,qQ]
   refine ⟨fun hle=>?_,fun hle=>?_⟩
   ·have hle2:ds.getD i 0≤0:=by
     rcases Int.lt_or_le 0 (ds.getD i 0) with h' | h'
     ·rw [Int.sign_eq_one_of_pos h'] at hle;omega
     ·exact h'
    have hb:defB M ds=false:=by
     unfold defB
     rw [hs,Bool.true_and]
     cases hx:ds.all fun d=>decide (0<d) with
     | false=>rfl
     | true=>
      rw [xT] at hx
      have:=hx (ds.getD i 0) (by rw [qX,qZ (by omega)];exact xX _)
      simp at this
      simp [qX] at hle2
      omega
    rw [hb]
    simp only [r73_8,SS]
    exact ⟨.inl trivial,_,rfl,.drop _ _ rfl (by intro i cs h;omega)⟩
   ·have hpos2:0<ds.getD i 0:=by
     rcases Int.lt_or_le 0 (ds.getD i 0) with h' | h'
     ·exact h'
     ·exfalso
      apply hle
      rcases Int.lt_or_eq_of_le h' with h2 | h2
      ·rw [Int.sign_eq_neg_one_of_neg h2];omega
      ·rw [h2];decide
    simp only [r73_9,SS,reduceIte,qQ,e21,w5]
    refine ⟨m,_,_,by omega,⟨i+1,by omega,?_,?_,?_,fun i' hi'=>?_⟩,.refl⟩
    ·simp only [upd_app,qQ,if_false,e19]
    ·simp only [upd_app,qQ,if_false,e20]
    ·simp only [upd_app,qQ,reduceIte,if_false]
    ·rcases qC i' i with h' | h'
     ·exact hpos i' h'
     ·rw [show i'=i by omega];exact hpos2
  ·have hb:defB M ds=true:=by
    unfold defB
    rw [hs,Bool.true_and,xT]
    intro z hz
    obtain ⟨i',hi',rfl⟩:=List.mem_iff_getElem.1 hz
    have:=hpos i' (by omega)
    rw [qX,qZ hi'] at this
    simpa using this
   rw [hb]
   simp only [r73_10,SS]
   exact ⟨.inl trivial,_,rfl,.drop _ _ rfl (by intro i cs h;omega)⟩
theorem gValidate {B n:Nat} {M:List (List Int)} {a:AV} {ds:List Int} (hB:DivB B) (h:Sq n M a) (hd:leadO B M=some ds):Ret Tryz.prog G 32 [a] [] (.int .i64 (valZ M ds)) []:=by
 have t0:=mSquare h
 have t1:=eDefinite hB h hd
 have t2:=eSymmetric h
 have c1:qK [a]=true:=by simp only [qK,h.closed,qT]
 have d1:decide ((8:Int)<(n:Nat))=false:=decide_eq_false (by have:=h.hi;omega)
 refine Ret_of mixed Tryz.func32 comp32 _ 25 res32 nt32 (by simp) (by simp) ?_
 simp only [c32,r32_0,r32_1,SS,reduceCtorEq,reduceIte]
 refine callA_pure t0 ?_ c1
 simp only [SS,reduceIte,qQ,xW,qP]
 simp only [r32_2,SS,forall_const,reduceIte,qQ,d1]
 simp only [r32_4,SS,reduceCtorEq,reduceIte,qQ]
 refine callA_pure t2 ?_ c1
 simp only [SS,reduceIte,qQ]
 refine ⟨fun hs=>?_,fun hs=>?_⟩
 ·have hs:symB M=false:=by simpa using hs
  have hv:valZ M ds=4:=by unfold valZ;rw [if_pos hs]
  rw [hv]
  simp only [r32_5,SS]
  exact ⟨.inl trivial,_,rfl,.drop _ _ rfl (by intro i cs h;omega)⟩
 ·have hs:symB M=true:=by simpa using hs
  simp only [r32_6,SS,reduceCtorEq,reduceIte,qQ]
  refine callA_pure t1 ?_ c1
  simp only [SS,reduceIte,qQ]
  refine ⟨fun hd=>?_,fun hd=>?_⟩
  ·have hd:defB M ds=false:=by simpa using hd
   have hv:valZ M ds=5:=by unfold valZ;rw [if_neg (by rw [hs];simp),if_pos hd]
   rw [hv]
   simp only [r32_7,SS]
   exact ⟨.inl trivial,_,rfl,.drop _ _ rfl (by intro i cs h;omega)⟩
  ·have hd:defB M ds=true:=by simpa using hd
   have hv:valZ M ds=0:=by unfold valZ;rw [if_neg (by rw [hs];simp),if_neg (by rw [hd];simp)]
   rw [hv]
   simp only [r32_8,SS]
   exact ⟨.inl trivial,_,rfl,.drop _ _ rfl (by intro i cs h;omega)⟩
theorem rSmall {B n:Nat} {M:List (List Int)} {a:AV} {d:Int} (hB:DivB B) (h:Sq n M a) (hd:detO B M=some d) (hfit:d.natAbs<B):Ret Tryz.prog G 33 [a] [] (.bool (decide (d≤10000))) []:=by
 have t1:=mDet hB h.mat (by rw [h.len];have:=h.lo;have:=h.hi;omega) (fun i hi=>by rw [h.len] at hi ⊢;exact h.cols i hi) hd
 obtain ⟨v,hv,t2⟩:=zSmall 10000 (by omega) (by omega)
 have hz:IsInt d (intV d):=intV_isInt (qR hfit hB.1)
 have t3:=zCmp hz hv
 have c1:qK [a]=true:=by simp only [qK,h.closed,qT]
 have c2:qK [intV d,v]=true:=by simp only [qK,hz.closed,hv.closed,qT]
 refine Ret_of mixed Tryz.func33 comp33 _ 8 res33 nt33 (by simp) (by simp) ?_
 simp only [c33,r33_0,r33_1,SS,reduceCtorEq,reduceIte]
 refine callA_pure t1 ?_ c1
 simp only [SS]
 refine callA_pure t2 ?_ rfl hv.closed
 simp only [SS,reduceIte,qQ]
 refine callA_pure t3 ?_ c2
 simp only [SS,reduceIte,qQ]
 have e:decide ((if d<10000 then (-1:Int) else if d=10000 then 0 else 1)≤0)=decide (d≤10000):=by
  rw [decide_eq_decide]
  split
  ·omega
  ·split<;>omega
 rw [e]
 exact ⟨.inl trivial,_,rfl,.drop _ _ rfl (by intro i cs h;omega)⟩
theorem rMinor {ds:List Int} {cs:List AV} {c:Option Nat} {k:Nat} (hrc:RowC ds cs) (hk:k≤ds.length) (hl:ds.length≤16):Ret Tryz.prog G 83 [.vec cs ds.length c,.int .i64 (k:Nat)] [] (intV (minorZ ds k)) []:=by
 have hcl:=rowC_len hrc
 refine Ret_ofw mixed Tryz.func83 comp83 _ 13 res83 nt83 (by simp) (by simp) ?_
 simp only [c83,r83_0,r83_1,SS,reduceCtorEq,reduceIte,qQ]
 refine ⟨fun h0=>?_,fun h0=>?_⟩
 ·have h0:k=0:=by omega
  obtain ⟨v,hv,t⟩:=zSmall 1 (by omega) (by omega)
  have hv0:=hv
  obtain ⟨l1,c1,_,_,_,rfl⟩:=hv0
  simp only [r83_2,SS]
  refine callA_pure t ?_
  simp only [SS,reduceIte,qS,qQ,qY]
  refine ⟨.inl trivial,_,_,resA_int (id:=0) (by simp only [upd_app,argsE_app,qJ,qQ,reduceIte,if_false]) rfl,.drop _ _ rfl (by intro i cs h;omega),?_⟩
  rw [show minorZ ds k=1 by unfold minorZ;rw [if_pos h0]]
  exact hv.wk
 ·have h0:k≠0:=by omega
  obtain ⟨u,v,hx,hy⟩:=rowC_get hrc (k-1) (by omega)
  have w1:IntKind.i64.wrap ((k:Int)-1)=((k-1:Nat):Int):=by rw [show (k:Int)-1=((k-1:Nat):Int) by omega];exact w64 (by omega) (by omega)
  have hyw:=hy
  obtain ⟨lz,cz,hz1,hz2⟩:=intCells hy
  subst hz1 hz2
  simp only [r83_3,SS,reduceCtorEq,reduceIte,qS,qQ,qY,w1,qH,hcl,hx]
  refine ⟨⟨by omega,by omega⟩,by omega,?_⟩
  refine ⟨.inl trivial,_,_,resA_int (id:=0) (by simp only [upd_app,argsE_app,qJ,qQ,reduceIte,if_false]) rfl,.drop _ _ rfl (by intro i cs h;omega),?_⟩
  rw [show minorZ ds k=ds.getD (k-1) 0 by unfold minorZ;rw [if_neg h0]]
  exact hyw.wk
theorem callA_frz2 {f:FuncId} {a v:AV} {l1 l2:List Nat} {n1 n2 i1 i2:Nat} {c1 c2:Option Nat} {H:Heap} {K:AV→Eff→List Nat→Nat→Prop} (h:Ret Tryz.prog G f [a,.vec (i64n l1) n1 c1,.vec (i64n l2) n2 c2] [] v []) (hn1:n1=l1.length) (hn2:n2=l2.length)
  (h1:getB H i1=some (i64n l1)) (h2:getB H i2=some (i64n l2)) (hne:i1≠i2) (ha:a.closed=true) (hfa:∀H0,frzI 0 H0 2 a=some a) (hv:v.closed=true) (hk:K v [(i1,none),(i2,none)] [i1,i2] 0):callA Tryz.prog G f [a,.sl i1 0 n1 1 c1,.sl i2 0 n2 1 c2] H K:=by
 have hc:∀l:List Nat,qK (i64n l)=true:=by
  intro l
  induction l with
  | nil=>rfl
  | cons d l ih=>exact ih
 have g:∀{i:Nat} {cs:List AV},getB H i=some cs→H[i]?=some (some cs):=by
  intro i cs h
  unfold getB at h
  split at h
  ·rename_i e;simp at h;rw [e,h]
  ·simp at h
 have e0:names [i1,i2] H.length 0=i1:=by simp [names]
 have e1:names [i1,i2] H.length 1=i2:=by simp [names]
 have hfr:([a,.sl 0 0 n1 1 c1,.sl 1 0 n2 1 c2]:List AV).mapM (frzI 0 [some (i64n l1),some (i64n l2)] 2)=some [a,.vec (i64n l1) n1 c1,.vec (i64n l2) n2 c2]:=by
  have f1:frzI 0 [some (i64n l1),some (i64n l2)] 2 (.sl 0 0 n1 1 c1)=some (.vec (i64n l1) n1 c1):=by
   have e:=i64n_frz l1 0 0 [some (i64n l1),some (i64n l2)]
   rw [frzI]
   simp only [xJ,if_false,getB_zero,need,xK,xE,hn1,i64n_len,qA,if_true,xZ]
   rw [qW (by rw [i64n_len];omega),e];rfl
  have f2:frzI 0 [some (i64n l1),some (i64n l2)] 2 (.sl 1 0 n2 1 c2)=some (.vec (i64n l2) n2 c2):=by
   have e:=i64n_frz l2 0 0 [some (i64n l1),some (i64n l2)]
   rw [frzI]
   have hg:getB [some (i64n l1),some (i64n l2)] 1=some (i64n l2):=rfl
   simp only [xJ,if_false,hg,need,xK,xE,hn2,i64n_len,qA,if_true,xZ]
   rw [qW (by rw [i64n_len];omega),e];rfl
  rw [xA,xA,xA,hfa,f1,f2];rfl
 have hH1:=getB_lt' h1
 have hH2:=getB_lt' h2
 have:=CallR0.mk (P:= Tryz.prog) (Γ:=G) (f:=f) (args:=[a,.sl i1 0 n1 1 c1,.sl i2 0 n2 1 c2]) (k:=H.length) (H:=H++List.replicate 0 none) [i1,i2] [a,.sl 0 0 n1 1 c1,.sl 1 0 n2 1 c2] [some (i64n l1),some (i64n l2)] v [none,none] (Ret_frz h hfr) rfl (by simp [hne]) (by
   intro i hi
   rcases List.mem_cons.1 hi with e | e
   ·rw [e];exact hH1
   ·simp at e;rw [e];exact hH2) (by simp [AV.ren,e0,e1,ren_closed _ a ha]) (by simp [AV.under.underL,AV.under,under_closed 2 a ha]) (by
   intro i c hi
   match i,hi with
   | 0,hi=>
    simp at hi;subst hi
    refine ⟨_,rfl,underL_closed _ _ (hc l1),?_⟩
    rw [e0]
    simp only [renB,map_ren_closed _ _ (hc l1)]
    simpa using g h1
   | 1,hi=>
    simp at hi;subst hi
    refine ⟨_,rfl,underL_closed _ _ (hc l2),?_⟩
    rw [e1]
    simp only [renB,map_ren_closed _ _ (hc l2)]
    simpa using g h2
   | i+2,hi=>simp at hi)
 refine ⟨v,_,_,0,?_,hk⟩
 rw [ren_closed _ v hv] at this
 refine .base ?_
 simpa [effs,e0,e1,renB] using this
theorem lam_sq {n:Nat} {M:List (List Int)} {a:AV} (h:Sq n M a) {i j:Nat} (hi:i<n) (hj:j<n):Sq (j+1) (lamM M i j) (matC (lamM M i j))∧(lamM M i j).length=j+1:=by
 have hl:(lamM M i j).length=j+1:=by simp [lamM,selM]
 have hf:=matV_fits h.mat
 have hent:∀i j,i<n→j<n→(ent M i j).natAbs<BIG:=by
  intro i j hi hj
  have hc:=h.cols i hi
  unfold ent
  rw [qX (l:=M.getD i []),qZ (by omega)]
  have hm:M.getD i []∈M:=by rw [qX,qZ (by rw [h.len];exact hi)];exact xX _
  exact hf _ hm _ (xX _)
 have hb:∀x y,y<n→x∈List.range j++[y]→x<n:=by
  intro x y hy hx
  rcases List.mem_append.1 hx with e | e
  ·have:=List.mem_range.1 e;omega
  ·simp at e;omega
 refine ⟨⟨matC_ok ?_,hl,?_,by omega,by have:=h.hi;omega⟩,hl⟩
 ·intro r hr z hz
  obtain ⟨x,hx,rfl⟩:=List.mem_map.1 hr
  obtain ⟨y,hy,rfl⟩:=List.mem_map.1 hz
  exact hent x y (hb x i hi hx) (hb y j hj hy)
 ·intro x hx
  unfold lamM selM
  rw [qX,qN,qZ (by simp;omega)]
  simp [selR]
theorem rLambda {B n:Nat} {M:List (List Int)} {a:AV} {i j:Nat} {d:Int} (hB:DivB B) (h:Sq n M a) (hi:i<n) (hj:j<n) (hd:detO B (lamM M i j)=some d) (hfit:d.natAbs<B):
  Ret Tryz.prog G 82 [a,.int .i64 (i:Nat),.int .i64 (j:Nat)] [] (intV d) []:=by
 have hn8:=h.hi
 obtain ⟨hsq,hml⟩:=lam_sq h hi hj
 have tdet:=mDet hB hsq.mat (by rw [hml];omega) (fun x hx=>by rw [hml] at hx ⊢;exact hsq.cols x hx) hd
 have hb:∀x y,y<n→x∈List.range j++[y]→x<n:=by
  intro x y hy hx
  rcases List.mem_append.1 hx with e | e
  ·have:=List.mem_range.1 e;omega
  ·simp at e;omega
 have tsel:=mSelect (n:=n) (rs:=List.range j++[i]) (ks:=List.range j++[j]) (c1:=none) (c2:=none) h.mat (by rw [h.len];omega) (by omega) (fun x hx=>h.cols x (by rw [←h.len];exact hx)) (fun x hx=>by rw [h.len];exact hb x i hi hx) (by simp;omega) (fun x hx=>hb x j hj hx) (by simp;omega)
 have l1:(List.range j++[i]).length=j+1:=by simp
 have l2:(List.range j++[j]).length=j+1:=by simp
 rw [l1,l2] at tsel
 have hfa:∀H0,frzI 0 H0 2 a=some a:=by
  intro H0
  obtain ⟨rows,c,rfl,_⟩:=h.mat;rfl
 have hz:IsInt d (intV d):=intV_isInt (qR hfit hB.1)
 refine Ret_of mixed Tryz.func82 comp82 _ 34 res82 nt82 (by simp) (by simp) ?_
 simp only [c82,r82_0,r82_1,r82_2,SS,reduceCtorEq]
 refine W_loop (fun m E H=>∃k,k+m=j∧E 0=a∧E 1= .int .i64 (i:Nat)∧E 2= .int .i64 (j:Nat)∧E 6= .ptr 0 0∧E 9= .int .i64 (k:Nat)∧Grow H 1 k (i64n (List.range k)) (E 7) [0]∧Grow H 1 k (i64n (List.range k)) (E 8) [0]∧
  (∀x m1 m2 c1 c2,E 7= .sl x 0 m1 1 c1→E 8≠ .sl x 0 m2 1 c2)∧∃u v,getB H 0=some [u,v]) (n:=j) ⟨0,by omega,?_,?_,?_,?_,?_,.inl ⟨rfl,rfl,?_⟩,.inl ⟨rfl,rfl,?_⟩,?_,⟨_,_,rfl⟩⟩ ?_
 ·simp only [upd_app,argsE_app,qB,qQ,if_false]
 ·simp only [upd_app,argsE_app,qB,qJ,qQ,if_false]
 ·simp only [upd_app,argsE_app,qB,qJ,qQ,if_false]
 ·simp only [upd_app,argsE_app,qJ,qQ,reduceIte,if_false]
 ·simp only [upd_app,argsE_app,qJ,qQ,reduceIte,if_false];rfl
 ·simp only [upd_app,argsE_app,qJ,qQ,reduceIte,if_false]
 ·simp only [upd_app,argsE_app,qJ,qQ,reduceIte,if_false]
 ·intro x m1 m2 c1 c2 e;simp only [upd_app,argsE_app,qJ,qQ,reduceIte,if_false] at e;simp at e
 rintro m E H ⟨k,hkm,e0,e1,e2,e6,e9,hG7,hG8,hdis,ru,rv,hres⟩
 refine wpC_sound mixed ?_
 simp only [l82_0,r82_3,SS,reduceCtorEq,reduceIte,qQ,e2,e9]
 have h0lt:=getB_lt' hres
 refine ⟨fun hlt=>?_,fun hge=>?_⟩
 ·obtain ⟨m,rfl⟩:∃m',m=m'+1:=⟨m-1,by omega⟩
  have w5:IntKind.i64.wrap ((k:Int)+1)=((k+1:Nat):Int):=by rw [show (k:Int)+1=((k+1:Nat):Int) by omega];exact w64 (by omega) (by omega)
  obtain ⟨ea,rda,hapa,hGa,hla,hka,_,_⟩:=app_gen (bytes:=8) (xs:=[.int .i64 (k:Nat)]) hG7 rfl rfl (by omega) (by omega) (by simp)
  generalize hH1:applyE ea (H++[some [.int .i64 ((k:Nat):Int)]]++[none])=H1 at*
  have hG8':Grow H1 1 k (i64n (List.range k)) (E 8) [0]:=by
   refine hG8.mono (fun id h1 h2=>?_) (fun _ _ h=>h)
   rw [hka id (getB_lt' h1) (fun m1 c1 e=>hdis id m1 k c1 none e h2)]
   exact h1
  obtain ⟨eb,rdb,hapb,hGb,hlb,hkb,_,_⟩:=app_gen (bytes:=8) (xs:=[.int .i64 (k:Nat)]) hG8' rfl rfl (by omega) (by omega) (by simp)
  generalize hH2:applyE eb (H1++[some [.int .i64 ((k:Nat):Int)]]++[none])=H2 at*
  have hrg:i64n (List.range k)++[.int .i64 ((k:Nat):Int)]=i64n (List.range (k+1)):=by simp [i64n,xD]
  rw [hrg] at hGa hGb
  have hold8:∀x m2 c2,E 8= .sl x 0 m2 1 c2→x<H.length:=by
   intro x m2 c2 e
   rcases hG8 with ⟨_,_,h8⟩ | ⟨_,_,id,h8,hb8,_⟩
   ·rw [h8] at e;simp at e
   ·rw [h8] at e;injection e with e;rw [←e];exact getB_lt' hb8
  simp only [r82_4,SS,reduceIte,qQ,qY,e9,len_snoc,hapa,hH1]
  simp only [r82_5,SS,reduceIte,qQ,qY,e9,len_snoc,hapb,hH2]
  simp only [r82_6,SS,reduceIte,qQ,e9,w5]
  refine ⟨m,_,_,by omega,⟨k+1,by omega,?_,?_,?_,?_,?_,?_,?_,?_,⟨ru,rv,?_⟩⟩,.refl⟩
  ·simp only [upd_app,qQ,if_false,e0]
  ·simp only [upd_app,qQ,if_false,e1]
  ·simp only [upd_app,qQ,if_false,e2]
  ·simp only [upd_app,qQ,if_false,e6]
  ·simp only [upd_app,qQ,reduceIte,if_false]
  ·simp only [upd_app,qQ,reduceIte,if_false]
   refine hGa.mono (fun id h1 h2=>?_) (fun _ _ h=>h)
   rw [hkb id (getB_lt' h1) (fun m1 c1 e=>?_)]
   ·exact h1
   ·injection h2 with h2
    have:=hold8 _ _ _ e
    omega
  ·simp only [upd_app,qQ,reduceIte,if_false]
   exact hGb
  ·intro x m1 m2 c1 c2 h1 h2
   simp only [upd_app,qQ,reduceIte,if_false] at h1 h2
   injection h1 with h1
   injection h2 with h2
   omega
  ·rw [hkb 0 (by omega) (grow_ne hG8' (by simp)),hka 0 h0lt (grow_ne hG7 (by simp))]
   exact hres
 ·have hm:k=j:=by omega
  subst hm
  obtain ⟨ea,rda,hapa,hGa,hla,hka,_,_⟩:=app_gen (bytes:=8) (xs:=[.int .i64 (i:Nat)]) hG7 rfl rfl (by omega) (by omega) (by simp)
  generalize hH1:applyE ea (H++[some [.int .i64 ((i:Nat):Int)]]++[none])=H1 at*
  have hG8':Grow H1 1 k (i64n (List.range k)) (E 8) [0]:=by
   refine hG8.mono (fun id h1 h2=>?_) (fun _ _ h=>h)
   rw [hka id (getB_lt' h1) (fun m1 c1 e=>hdis id m1 k c1 none e h2)]
   exact h1
  obtain ⟨eb,rdb,hapb,hGb,hlb,hkb,_,_⟩:=app_gen (bytes:=8) (xs:=[.int .i64 (k:Nat)]) hG8' rfl rfl (by omega) (by omega) (by simp)
  generalize hH2:applyE eb (H1++[some [.int .i64 ((k:Nat):Int)]]++[none])=H2 at*
  have hrg1:i64n (List.range k)++[.int .i64 ((i:Nat):Int)]=i64n (List.range k++[i]):=by simp [i64n]
  have hrg2:i64n (List.range k)++[.int .i64 ((k:Nat):Int)]=i64n (List.range k++[k]):=by simp [i64n]
  rw [hrg1] at hGa
  rw [hrg2] at hGb
  have hold8:∀x m2 c2,E 8= .sl x 0 m2 1 c2→x<H.length:=by
   intro x m2 c2 e
   rcases hG8 with ⟨_,_,h8⟩ | ⟨_,_,id,h8,hb8,_⟩
   ·rw [h8] at e;simp at e
   ·rw [h8] at e;injection e with e;rw [←e];exact getB_lt' hb8
  have ga:getB H1 (H.length+1)=some (i64n (List.range k++[i])):=by
   rcases hGa with ⟨h,_⟩ | ⟨_,_,id,h1,h2,_⟩
   ·omega
   ·injection h1 with h1;rw [h1];exact h2
  have ga2:getB H2 (H.length+1)=some (i64n (List.range k++[i])):=by
   rw [hkb _ (getB_lt' ga) (fun m1 c1 e=>by have:=hold8 _ _ _ e;omega)]
   exact ga
  have gb:getB H2 (H1.length+1)=some (i64n (List.range k++[k])):=by
   rcases hGb with ⟨h,_⟩ | ⟨_,_,id,h1,h2,_⟩
   ·omega
   ·injection h1 with h1;rw [h1];exact h2
  have g0:getB H2 0=some [ru,rv]:=by
   rw [hkb 0 (by omega) (grow_ne hG8' (by simp)),hka 0 h0lt (grow_ne hG7 (by simp))]
   exact hres
  simp only [r82_7,SS,reduceCtorEq,reduceIte,qQ,qY,e0,e1,e2,len_snoc,hapa,hH1,hapb,hH2]
  refine callA_frz2 tsel l1.symm l2.symm ga2 gb (by omega) h.closed hfa rfl ?_
  simp only [restA,applyE,xN,xM,SS,reduceIte,qQ]
  refine callA_pure tdet ?_
  have g1:getB ((H2.set (H.length+1) none).set (H1.length+1) none) 0=some [ru,rv]:=by
   rw [getB_set_ne (by omega),getB_set_ne (by omega)];exact g0
  simp only [SS,reduceIte,qS,qQ,qY,e6,g1,cells_intV,show (intV d).firm=true from rfl]
  refine ⟨.inl trivial,_,resA_int (id:=0) (by simp only [upd_app,qQ,if_false,e6]) (getB_set_eq (getB_lt' g1)),.drop _ _ rfl (by intro i cs h;omega)⟩
structure Lead (B n:Nat) (M:List (List Int)) (ds:List Int):Prop where
 eq:leadO B M=some ds
 len:ds.length=n
 fits:∀z∈ds,z.natAbs<B
theorem lead_mk {B n:Nat} {M:List (List Int)} {a:AV} {ds:List Int} (h:Sq n M a) (hd:leadO B M=some ds):Lead B n M ds:=⟨hd,by rw [←h.len];exact leadL_len hd,leadL_fits hd⟩
theorem minor_fits {B n:Nat} {M:List (List Int)} {ds:List Int} (hB:DivB B) (h:Lead B n M ds) (k:Nat):(minorZ ds k).natAbs<BIG:=by
 unfold minorZ
 split
 ·exact small_fits (by decide)
 ·rw [qX]
  cases e:ds[k-1]? with
  | none=>exact small_fits (by decide)
  | some z=>exact qR (h.fits z (yU e)) hB.1
theorem tMinor {B n:Nat} {M:List (List Int)} {ds:List Int} (hB:DivB B) (h:Lead B n M ds) (hn:n≤8) {k:Nat} (hk:k≤n):Ret Tryz.prog G 83 [rowV ds,.int .i64 (k:Nat)] [] (intV (minorZ ds k)) []:=
 rMinor (cellsV_ok (fun z hz=>qR (h.fits z hz) hB.1)) (by rw [h.len];exact hk) (by rw [h.len];omega)
theorem rSized {B n:Nat} {M:List (List Int)} {a:AV} {ds:List Int} {i j:Nat} {b:Bool} (hB:DivB B) (h:Sq n M a) (hd:Lead B n M ds) (hi:i<n) (hj:j<n) (hb:sizedO B M ds i j=some b):
  Ret Tryz.prog G 79 [a,rowV ds,.int .i64 (i:Nat),.int .i64 (j:Nat)] [] (.bool b) []:=by
 unfold sizedO at hb
 simp only [qG,qO] at hb
 obtain ⟨l,hl,x,hx,rfl⟩:=hb
 obtain ⟨hdet,hlf⟩:=lamO_some hl
 obtain ⟨rfl,hxf⟩:=ck_some hx
 have hn8:=h.hi
 have t1:=rLambda hB h hi hj hdet hlf
 have hz:IsInt l (intV l):=intV_isInt (qR hlf hB.1)
 obtain ⟨v2,hv2,t2⟩:=zSmall 2 (by omega) (by omega)
 obtain ⟨va,hva,t3⟩:=zAbs hz
 have hf:(2*(l.natAbs:Int)).natAbs<BIG:=by have:=hB.1;omega
 obtain ⟨vm,hvm,t4⟩:=zMul hv2 hva hf
 have t5:=tMinor hB hd hn8 (k:=j+1) (by omega)
 have hm:IsInt (minorZ ds (j+1)) (intV (minorZ ds (j+1))):=intV_isInt (minor_fits hB hd _)
 have t6:=zCmp hvm hm
 have w5:IntKind.i64.wrap ((j:Int)+1)=((j+1:Nat):Int):=by rw [show (j:Int)+1=((j+1:Nat):Int) by omega];exact w64 (by omega) (by omega)
 have c1:qK [a,.int .i64 (i:Nat),.int .i64 (j:Nat)]=true:=by simp only [qK,h.closed,AV.closed,qT]
 have c2:qK [v2,va]=true:=by simp only [qK,hv2.closed,hva.closed,qT]
 have c3:qK [vm,intV (minorZ ds (j+1))]=true:=by simp only [qK,hvm.closed,hm.closed,qT]
 refine Ret_of mixed Tryz.func79 comp79 _ 22 res79 nt79 (by simp) (by simp) ?_
 simp only [c79,r79_0,r79_1,SS,reduceCtorEq]
 refine callA_pure t2 ?_ rfl hv2.closed
 simp only [SS,reduceCtorEq,reduceIte,qQ]
 refine callA_pure t1 ?_ c1
 simp only [SS,reduceIte,qQ]
 refine callA_pure t3 ?_ rfl hva.closed
 simp only [SS,reduceIte,qQ]
 refine callA_pure t4 ?_ c2 hvm.closed
 simp only [SS,reduceIte,qQ,w5]
 refine callA_pure t5 ?_
 simp only [SS,reduceIte,qQ]
 refine callA_pure t6 ?_ c3
 simp only [SS,reduceIte,qQ]
 have e:decide ((if 2*(l.natAbs:Int)<minorZ ds (j+1) then (-1:Int) else if 2*(l.natAbs:Int)=minorZ ds (j+1) then 0 else 1)≤0)=decide (2*(l.natAbs:Int)≤minorZ ds (j+1)):=by
  rw [decide_eq_decide]
  split
  ·omega
  ·split<;>omega
 rw [e]
 exact ⟨.inl trivial,_,rfl,.drop _ _ rfl (by intro i cs h;omega)⟩
theorem rLovasz {B n:Nat} {M:List (List Int)} {a:AV} {ds:List Int} {i:Nat} {b:Bool} (hB:DivB B) (h:Sq n M a) (hd:Lead B n M ds) (h0:0<i) (hi:i<n) (hb:lovO B M ds i=some b):
  Ret Tryz.prog G 84 [a,rowV ds,.int .i64 (i:Nat)] [] (.bool b) []:=by
 unfold lovO at hb
 simp only [qG,qO] at hb
 obtain ⟨l,hl,p,hp,q,hq,s,hs,x,hx,r,hr,y,hy,rfl⟩:=hb
 obtain ⟨hdet,hlf⟩:=lamO_some hl
 obtain ⟨rfl,hpf⟩:=ck_some hp
 obtain ⟨rfl,hqf⟩:=ck_some hq
 obtain ⟨rfl,hsf⟩:=ck_some hs
 obtain ⟨rfl,hxf⟩:=ck_some hx
 obtain ⟨rfl,hrf⟩:=ck_some hr
 obtain ⟨rfl,hyf⟩:=ck_some hy
 have hn8:=h.hi
 have up:∀{z:Nat},z<B→z<BIG:=fun h=>qR h hB.1
 have t1:=rLambda hB h hi (show i-1<n by omega) hdet hlf
 have hz:IsInt l (intV l):=intV_isInt (up hlf)
 have mi:=fun k=>(intV_isInt (minor_fits hB hd k):IsInt (minorZ ds k) (intV (minorZ ds k)))
 obtain ⟨v4,hv4,t2⟩:=zSmall 4 (by omega) (by omega)
 obtain ⟨v3,hv3,t3⟩:=zSmall 3 (by omega) (by omega)
 have t4:=tMinor hB hd hn8 (k:=i-1) (by omega)
 have t5:=tMinor hB hd hn8 (k:=i+1) (by omega)
 have t6:=tMinor hB hd hn8 (k:=i) (by omega)
 obtain ⟨vp,hvp,t7⟩:=zMul (mi (i-1)) (mi (i+1)) (up hpf)
 obtain ⟨vq,hvq,t8⟩:=zMul hz hz (up hqf)
 obtain ⟨vs,hvs,t9⟩:=zAdd hvp hvq (up hsf)
 obtain ⟨vx,hvx,t10⟩:=zMul hv4 hvs (up hxf)
 obtain ⟨vr,hvr,t11⟩:=zMul (mi i) (mi i) (up hrf)
 obtain ⟨vy,hvy,t12⟩:=zMul hv3 hvr (up hyf)
 have t13:=zCmp hvx hvy
 have w1:IntKind.i64.wrap ((i:Int)-1)=((i-1:Nat):Int):=by rw [show (i:Int)-1=((i-1:Nat):Int) by omega];exact w64 (by omega) (by omega)
 have w2:IntKind.i64.wrap ((i:Int)+1)=((i+1:Nat):Int):=by rw [show (i:Int)+1=((i+1:Nat):Int) by omega];exact w64 (by omega) (by omega)
 have c1:qK [a,.int .i64 (i:Nat),.int .i64 ((i-1:Nat):Int)]=true:=by simp only [qK,h.closed,AV.closed,qT]
 have hx0:=hvx
 obtain ⟨lx,cx,_,_,_,rfl⟩:=hx0
 have k2:∀{u v:AV},u.closed=true→v.closed=true→qK [u,v]=true:=by
  intro u v h1 h2;simp only [qK,h1,h2,qT]
 refine Ret_of mixed Tryz.func84 comp84 _ 41 res84 nt84 (by simp) (by simp) ?_
 simp only [c84,r84_0,r84_1,SS,reduceCtorEq,reduceIte,qQ,w1]
 refine callA_pure t1 ?_ c1
 simp only [SS,reduceIte,qS,qQ,qY,cells_intV,show (intV l).firm=true from rfl]
 simp only [r84_2,SS]
 refine callA_pure t2 ?_ rfl hv4.closed
 simp only [SS,reduceIte,qQ,w1]
 refine callA_pure t4 ?_
 simp only [SS,reduceIte,qQ,w2]
 refine callA_pure t5 ?_
 simp only [SS,reduceIte,qQ]
 refine callA_pure t7 ?_ rfl hvp.closed
 simp only [SS,reduceIte,qS,qQ,qY]
 refine callA_pure t8 ?_ rfl hvq.closed
 simp only [SS,reduceIte,qQ]
 refine callA_pure t9 ?_ (k2 hvp.closed hvq.closed) hvs.closed
 simp only [SS,reduceIte,qQ]
 refine callA_pure t10 ?_ (k2 hv4.closed hvs.closed)
 simp only [SS,reduceIte,qS,qQ,qY]
 refine ⟨rfl,?_⟩
 simp only [r84_3,SS,reduceIte,qS,qQ,qY]
 refine callA_pure t3 ?_ rfl hv3.closed
 simp only [SS,reduceIte,qQ]
 refine callA_pure t6 ?_
 simp only [SS,reduceIte,qQ]
 refine callA_pure t6 ?_
 simp only [SS,reduceIte,qQ]
 refine callA_pure t11 ?_ rfl hvr.closed
 simp only [SS,reduceIte,qQ]
 refine callA_pure t12 ?_ (k2 hv3.closed hvr.closed) hvy.closed
 simp only [SS,reduceIte,qQ]
 refine callA_pure t13 ?_ (k2 rfl hvy.closed)
 simp only [SS,reduceIte,qQ]
 refine ⟨rfl,?_⟩
 generalize 4*(minorZ ds (i-1)*minorZ ds (i+1)+l*l)=x
 generalize 3*(minorZ ds i*minorZ ds i)=y
 have e:decide ((0:Int)≤if x<y then (-1:Int) else if x=y then 0 else 1)=decide (y≤x):=by
  rw [decide_eq_decide]
  split
  ·omega
  ·split<;>omega
 first | rw [e] | (simp only [ge_iff_le];rw [e])
 exact ⟨.inl trivial,_,rfl,.drop _ _ rfl (by intro i cs h;omega)⟩
def zrow (n:Nat):List Int:=List.replicate n 0
def zmat (N n:Nat):List (List Int):=List.replicate N (zrow n)
def zcs (n:Nat):List AV:=zeros n [.bool false,.vec [] 0 (some 0)]
theorem isInt_zero:IsInt 0 (.agg [.bool false,.vec [] 0 (some 0)]):=⟨[],some 0,Canon.nil,by simp,rfl,rfl⟩
theorem rowC_zeros:∀n,RowC (zrow n) (zcs n):=by
 intro n
 induction n with
 | zero=>trivial
 | succ n ih=>exact ⟨isInt_zero,ih⟩
theorem zmat_get {N n i:Nat} (h:i<N):(zmat N n).getD i []=zrow n:=by
 unfold zmat
 rw [qX,xG,if_pos h,yQ]
def zps (n i:Nat):List (Nat×Option Nat):=(List.range i).map fun k=>(k+1,some n)
def zH (N n i:Nat):Heap:=some ((zps n i).map (slRow n)++List.replicate (N-i) nilV)::List.replicate i (some (zcs n))
theorem zps_len (n i:Nat):(zps n i).length=i:=by simp [zps]
theorem zps_get {n i k:Nat} (h:k<i):(zps n i).getD k (0,none)=(k+1,some n):=by
 rw [qX];simp [zps,h]
theorem zH_row {N n i k:Nat} (h:k<i):getB (zH N n i) (k+1)=some (zcs n):=by
 unfold getB zH
 rw [qP,xG,if_pos h]
theorem zH_mat (N n:Nat):MatH (zH N n N) 0 (zps n N) n (zmat N n):=by
 refine ⟨?_,by rw [zps_len];simp [zmat],fun i hi=>?_,fun i hi=>?_,?_⟩
 ·show some ((zps n N).map (slRow n)++List.replicate (N-N) nilV)=_
  rw [xB,xN,xM]
 ·have hi:i<N:=by simpa [zmat] using hi
  rw [zmat_get hi];simp [zrow]
 ·have hi:i<N:=by simpa [zmat] using hi
  rw [zps_get hi,zmat_get hi]
  exact ⟨_,zH_row hi,rowC_zeros n⟩
 ·rw [List.nodup_cons]
  have e:(zps n N).map (·.1)=(List.range N).map (· + 1):=by simp [zps]
  rw [e]
  refine ⟨fun h=>?_,?_⟩
  ·obtain ⟨k,_,hk⟩:=List.mem_map.1 h
   omega
  ·refine List.pairwise_iff_getElem.2 (fun i j hi hj hij=>?_)
   rw [yX,yX,xP,xP]
   omega
theorem mZero {N n:Nat} (hN:N≤16) (hn:n≤16):Ret Tryz.prog G 77 [.int .i64 (N:Nat),.int .i64 (n:Nat)] [] (.sl 0 0 N 1 (some N)) (zH N n N):=by
 refine Ret_of mixed Tryz.func77 comp77 _ 21 res77 nt77 (by simp) (by simp) ?_
 simp only [c77,r77_0,r77_1,SS,reduceCtorEq,reduceIte,qQ,qH]
 refine ⟨by omega,⟨by omega,by omega,by omega,by omega⟩,?_⟩
 simp only [r77_2,SS,reduceIte,qQ]
 refine W_loop (fun k E H=>∃i,i+k=N∧H=zH N n i∧E 1= .int .i64 (n:Nat)∧E 5= .sl 0 0 N 1 (some N)∧E 10= .int .i64 (N:Nat)∧E 11= .int .i64 (i:Nat)) (n:=N) ⟨0,by omega,?_,?_,?_,?_,?_⟩ ?_
 ·simp [zH,zps]
 ·simp only [upd_app,argsE_app,qB,qJ,qQ,if_false]
 ·simp only [upd_app,argsE_app,qJ,qQ,reduceIte,if_false]
 ·simp only [upd_app,argsE_app,qJ,qQ,reduceIte,if_false]
 ·simp only [upd_app,argsE_app,qJ,qQ,reduceIte,if_false];rfl
 rintro k E H ⟨i,hik,rfl,e1,e5,e10,e11⟩
 refine wpC_sound mixed ?_
 simp only [l77_0,r77_3,SS,reduceCtorEq,reduceIte,e10,e11]
 refine ⟨fun hlt=>?_,fun hge=>?_⟩
 ·obtain ⟨k,rfl⟩:∃k',k=k'+1:=⟨k-1,by omega⟩
  have hi:i<N:=by omega
  have w5:IntKind.i64.wrap ((i:Int)+1)=((i+1:Nat):Int):=by rw [show (i:Int)+1=((i+1:Nat):Int) by omega];exact w64 (by omega) (by omega)
  have hlen:(zH N n i).length=i+1:=by simp [zH]
  have h0:getB (zH N n i++[some (zeros n [AV.bool false,AV.vec [] 0 (some 0)])]) 0=some ((zps n i).map (slRow n)++List.replicate (N-i) nilV):=rfl
  have hl0:((zps n i).map (slRow n)++List.replicate (N-i) nilV).length=N:=by simp [zps_len];omega
  simp only [r77_4,r77_5,SS,reduceIte,qS,qQ,e1,e5,e11,qH,hlen,h0,hl0]
  refine ⟨by omega,⟨by omega,by omega,by omega,by omega⟩,⟨by omega,by omega⟩,by omega,?_⟩
  simp only [r77_6,SS,reduceIte,qQ,e11,w5]
  refine ⟨k,_,_,by omega,⟨i+1,by omega,?_,?_,?_,?_,?_⟩,.refl⟩
  ·have e:List.replicate (N-i) nilV=nilV::List.replicate (N-(i+1)) nilV:=by rw [←yA];congr 1;omega
   have ez:zps n (i+1)=zps n i++[(i+1,some n)]:=by simp [zps,xD]
   have hset:((zps n i).map (slRow n)++List.replicate (N-i) nilV).set i (.sl (i+1) 0 n 2 (some n))=(zps n (i+1)).map (slRow n)++List.replicate (N-(i+1)) nilV:=by
    rw [e,ez,yY _ _ (by simp [zps_len])]
    simp [zps_len,slRow]
   show some (((zps n i).map (slRow n)++List.replicate (N-i) nilV).set i (.sl (i+1) 0 n 2 (some n)))::(List.replicate i (some (zcs n))++[some (zcs n)])=zH N n (i+1)
   rw [hset,←List.replicate_succ']
   rfl
  all_goals simp only [upd_app,qQ,reduceIte,if_false, *]
 ·have:i=N:=by omega
  subst this
  simp only [r77_7,SS,reduceIte,qQ,e5]
  exact ⟨.inl trivial,_,rfl,.keep _ _⟩
def i64z (r:List Int):List AV:=r.map fun z=>AV.int .i64 z
theorem i64z_len (r:List Int):(i64z r).length=r.length:=by simp [i64z]
theorem i64z_getD (r:List Int) (j:Nat) (h:j<r.length) (d:AV):(i64z r).getD j d= .int .i64 (r.getD j 0):=by simp [i64z,h]
def In64 (z:Int):Prop:= -9223372036854775808≤z∧z<9223372036854775808
structure ImV (M:List (List Int)) (a:AV):Prop where
 val:∃rows c,a= .vec rows M.length c∧rows.length=M.length∧∀i,i<M.length→∃c',rows.getD i .junk= .vec (i64z (M.getD i [])) (M.getD i []).length c'
 fit:∀i j,In64 (ent M i j)
theorem ImV.closed {M:List (List Int)} {a:AV} (h:ImV M a):a.closed=true:=by
 obtain ⟨rows,c,rfl,_⟩:=h.val;rfl
theorem mat_ext {N n:Nat} {M M':List (List Int)} (h1:M.length=N) (h2:M'.length=N) (h3:∀i,i<N→(M.getD i []).length=n) (h4:∀i,i<N→(M'.getD i []).length=n) (h:∀i j,i<N→j<n→ent M i j=ent M' i j):M=M':=by
 refine yZ (h1.trans h2.symm) fun i hi hi'=>?_
 have e1:M.getD i []=M[i]:=by rw [qX,qZ hi];rfl
 have e2:M'.getD i []=M'[i]:=by rw [qX,qZ hi'];rfl
 have l1:=h3 i (by omega)
 have l2:=h4 i (by omega)
 rw [e1] at l1
 rw [e2] at l2
 refine yZ (l1.trans l2.symm) fun j hj hj'=>?_
 have:=h i j (by omega) (by omega)
 unfold ent at this
 rw [e1,e2,qX,qX,qZ hj,qZ hj'] at this
 simpa using this
theorem mat_rows {H:Heap} {o n:Nat} {ps:List (Nat×Option Nat)} {M:List (List Int)} (h:MatH H o ps n M):RowsAt H n ps M:=⟨h.len,fun i hi=>⟨h.cols i hi,h.rows i hi⟩⟩
theorem fin_matT {H:Heap} {o n:Nat} {ps:List (Nat×Option Nat)} {M:List (List Int)} {cap:Option Nat} {b:Bool} (h:MatH H o ps n M):∃v,AL.Fin 0 (.tup [.sl o 0 M.length 1 cap,.bool b]) H v []∧v.wk= .tup [matC M,.bool b]:=by
 obtain ⟨vs,h1,h2,h3⟩:=rows_frz (mat_rows h)
 have hl:=h.len
 refine ⟨.tup [.vec vs M.length cap,.bool b],.freeze 4 _ _ _ ?_ (by intro i cs h;omega),?_⟩
 ·have e:frzI 0 H 3 (.sl o 0 M.length 1 cap)=some (.vec vs M.length cap):=by
   rw [frzI]
   simp only [xJ,if_false,h.outer,need,xK,xE,yK,hl,qA,if_true,xZ]
   rw [qW (by simp [hl]),h1]
   rfl
  rw [frzI]
  simp only [xA,List.mapM_nil,e]
  rfl
 ·have:=matV_wk (M:=M) (a:= .vec vs M.length cap) ⟨vs,cap,rfl,h2,h3⟩
  simp only [AV.wk,AV.wk.wkL] at this ⊢
  rw [this]
theorem zmat_ent (N n i j:Nat):ent (zmat N n) i j=0:=by
 have hz:∀j,(zrow n).getD j 0=0:=by
  intro j
  rw [qX]
  unfold zrow
  rw [xG]
  split<;>rfl
 unfold ent
 rcases qC i N with h | h
 ·rw [zmat_get h];exact hz j
 ·have e:(zmat N n).getD i []=[]:=by rw [qX,xY (by rw [zmat,List.length_replicate];exact h)];rfl
  rw [e];rfl
theorem zmat_shp (N n:Nat):(zmat N n).length=N∧∀i,i<N→((zmat N n).getD i []).length=n:=⟨by simp [zmat],fun i hi=>by rw [zmat_get hi];simp [zrow]⟩
theorem ent_set' {M:List (List Int)} {i j:Nat} {z:Int} (hi:i<M.length) (hj:j<(M.getD i []).length) (s t:Nat):ent (setM M i j z) s t=if s=i∧t=j then z else ent M s t:=by
 have key:∀{α:Type} {l:List α} {i j:Nat} {x d:α},i<l.length→(l.set i x).getD j d=if j=i then x else l.getD j d:=by
  intro α l i j x d h
  rw [qX,List.getElem?_set,qX]
  by_cases e:i=j
  ·subst e;rw [if_pos rfl,if_pos h,if_pos rfl];rfl
  ·rw [if_neg e,if_neg (Ne.symm e)]
 unfold ent setM
 rw [key hi]
 by_cases h1:s=i
 ·subst h1
  rw [if_pos rfl,key hj]
  by_cases h2:t=j
  ·rw [if_pos h2,if_pos ⟨rfl,h2⟩]
  ·rw [if_neg h2,if_neg (fun e=>h2 e.2)]
 ·rw [if_neg h1,if_neg (fun e=>h1 e.1)]
theorem zero_shift (H:Heap) (N n:Nat):MatH (H++(zH N n N).map (renB (names [] H.length))) H.length ((zps n N).map fun p=>(H.length+p.1,p.2)) n (zmat N n):=mat_shift (zH_mat N n)
theorem mFrom_in {M:List (List Int)} {rows:List AV} {c cap:Option Nat} {n:Nat} (hn:n≤16) (hN:M.length≤16) (hl:rows.length=M.length) (hr:∀i,i<M.length→∃c',rows.getD i .junk= .vec (i64z (M.getD i [])) (M.getD i []).length c') (hc:∀i,i<M.length→(M.getD i []).length=n) (hf:∀i j,In64 (ent M i j))
  {i:Nat} (hi:i<M.length) {v49 v50:AV} {Q:Post} {ps:List (Nat×Option Nat)} {X0:List (List Int)} (hX0:X0.length=M.length)
  {E:Env} {H:Heap} (hM:MatH H 0 ps n X0) (e0:E 0= .vec rows M.length c) (e6:E 6= .sl 0 0 M.length 1 cap) (e7:E 7= .int .i64 (i:Nat)) (e49:E 49=v49) (e50:E 50=v50) (e57:E 57= .int .i64 (n:Nat)) (e58:E 58= .int .i64 0)
  (hQ:∀E' H' X,MatH H' 0 ps n X→X.length=M.length→(∀s t,ent X s t=if s=i∧t<n then ent M s t else ent X0 s t)→E' 0= .vec rows M.length c→E' 6= .sl 0 0 M.length 1 cap→E' 49=v49→E' 50=v50→Q (.exit 4) E' H'):
  W Tryz.prog G 0 78 (.loop l40_2) E H Q:=by
 refine W_loop (fun k E H=>∃j X,j+k=n∧MatH H 0 ps n X∧X.length=M.length∧(∀s t,ent X s t=if s=i∧t<j then ent M s t else ent X0 s t)∧E 0= .vec rows M.length c∧E 6= .sl 0 0 M.length 1 cap∧E 7= .int .i64 (i:Nat)∧E 49=v49∧E 50=v50∧
  E 57= .int .i64 (n:Nat)∧E 58= .int .i64 (j:Nat)) (n:=n) ⟨0,X0,by omega,hM,hX0,fun s t=>by rw [if_neg (by omega)],e0,e6,e7,e49,e50,e57,e58⟩ ?_
 rintro k E H ⟨j,X,hjk,hM,hXl,hX,e0,e6,e7,e49,e50,e57,e58⟩
 refine wpC_sound mixed ?_
 simp only [l40_2,r40_14,SS,reduceIte,e57,e58]
 refine ⟨fun hlt=>?_,fun hge=>?_⟩
 ·obtain ⟨k,rfl⟩:∃k',k=k'+1:=⟨k-1,by omega⟩
  have hj:j<n:=by omega
  obtain ⟨ci,hci⟩:=hr i hi
  have hrl:=hc i hi
  have gz:=i64z_getD (M.getD i []) j (by omega) .junk
  obtain ⟨csk,gk,lk,rk,fk⟩:=mat_get hM (i:=i) (by omega)
  have ok:=mat_outer (ps:=ps) (n:=n) (i:=i) (by rw [hM.len];omega)
  have hol:(ps.map (slRow n)).length=M.length:=by rw [yK,hM.len];exact hXl
  have hou:=hM.outer
  obtain ⟨z1,z2⟩:=hf i j
  obtain ⟨v,hv,ts⟩:=zSmall (ent M i j) (by omega) (by omega)
  have hv0:=hv
  obtain ⟨lv,cv,_,_,_,rfl⟩:=hv0
  have hset:=mat_set hM (i:=i) (j:=j) (by omega) hj hv gk
  have w5:IntKind.i64.wrap ((j:Int)+1)=((j+1:Nat):Int):=by rw [show (j:Int)+1=((j+1:Nat):Int) by omega];exact w64 (by omega) (by omega)
  have hent:(M.getD i []).getD j 0=ent M i j:=rfl
  simp only [r40_15,r40_16,SS,forall_const,reduceCtorEq,reduceIte,qQ,e0,e6,e7,e58,qH,hou,hol,ok,hci,hl,gz,hent,i64z_len,hrl]
  refine ⟨⟨by omega,by omega⟩,by omega,⟨by omega,by omega⟩,by omega,⟨by omega,by omega⟩,by omega,?_⟩
  refine callA_pure ts ?_
  simp only [SS,reduceIte,qS,qQ,gk,lk,qH]
  refine ⟨⟨by omega,by omega⟩,by omega,rfl,?_⟩
  simp only [r40_17,SS,reduceIte,qQ,e58,w5]
  refine ⟨k,_,_,by omega,⟨j+1,setM X i j (ent M i j),by omega,hset,by rw [setM_len];exact hXl,?_,?_,?_,?_,?_,?_,?_,?_⟩,.refl⟩
  ·intro s t
   rw [ent_set' (by omega) (by rw [hM.cols i (by omega)];exact hj),hX]
   by_cases h1:s=i∧t=j
   ·rw [if_pos h1,if_pos ⟨h1.1,by omega⟩,h1.1,h1.2]
   ·rw [if_neg h1]
    by_cases h2:s=i∧t<j
    ·rw [if_pos h2,if_pos ⟨h2.1,by omega⟩]
    ·rw [if_neg h2,if_neg (by omega)]
  all_goals simp only [upd_app,qQ,reduceIte,if_false, *]
 ·have hjn:j=n:=by omega
  subst hjn
  exact hQ _ _ X hM hXl hX (by simp only [upd_app,qQ,if_false,e0]) (by simp only [upd_app,qQ,if_false,e6]) (by simp only [upd_app,qQ,if_false,e49]) (by simp only [upd_app,qQ,if_false,e50])
theorem mFrom_out {M:List (List Int)} {rows:List AV} {c cap:Option Nat} {n:Nat} (hn:n≤16) (hN:M.length≤16) (hl:rows.length=M.length) (hr:∀i,i<M.length→∃c',rows.getD i .junk= .vec (i64z (M.getD i [])) (M.getD i []).length c') (hc:∀i,i<M.length→(M.getD i []).length=n) (hf:∀i j,In64 (ent M i j))
  {Q:Post} {ps:List (Nat×Option Nat)} {E:Env} {H:Heap} (hM:MatH H 0 ps n (zmat M.length n)) (e0:E 0= .vec rows M.length c) (e6:E 6= .sl 0 0 M.length 1 cap) (e49:E 49= .int .i64 (M.length:Nat)) (e50:E 50= .int .i64 0)
  (hQ:∀E' H',MatH H' 0 ps n M→E' 6= .sl 0 0 M.length 1 cap→Q (.exit 2) E' H'):
  W Tryz.prog G 0 78 (.loop l40_1) E H Q:=by
 refine W_loop (fun k E H=>∃i X,i+k=M.length∧MatH H 0 ps n X∧X.length=M.length∧(∀s t,ent X s t=if s<i∧t<n then ent M s t else 0)∧E 0= .vec rows M.length c∧E 6= .sl 0 0 M.length 1 cap∧E 49= .int .i64 (M.length:Nat)∧E 50= .int .i64 (i:Nat)) (n:=M.length) ⟨0,zmat M.length n,by omega,hM,(zmat_shp _ _).1,fun s t=>by rw [if_neg (by omega),zmat_ent],e0,e6,e49,e50⟩ ?_
 rintro k E H ⟨i,X,hik,hM,hXl,hX,e0,e6,e49,e50⟩
 refine wpC_sound mixed ?_
 simp only [l40_1,r40_11,SS,reduceIte,e49,e50]
 refine ⟨fun hlt=>?_,fun hge=>?_⟩
 ·obtain ⟨k,rfl⟩:∃k',k=k'+1:=⟨k-1,by omega⟩
  have hi:i<M.length:=by omega
  obtain ⟨ci,hci⟩:=hr i hi
  have hrl:=hc i hi
  have w5:IntKind.i64.wrap ((i:Int)+1)=((i+1:Nat):Int):=by rw [show (i:Int)+1=((i+1:Nat):Int) by omega];exact w64 (by omega) (by omega)
  simp only [r40_12,r40_13,SS,forall_const,reduceCtorEq,reduceIte,qQ,e0,e50,qH,hci,hl,hrl]
  refine ⟨⟨by omega,by omega⟩,by omega,?_⟩
  refine mFrom_in hn hN hl hr hc hf hi (c:=c) (cap:=cap) hXl hM (by simp only [upd_app,qQ,if_false,e0]) (by simp only [upd_app,qQ,if_false,e6]) (by simp only [upd_app,qQ,reduceIte,if_false]) (by simp only [upd_app,qQ,if_false];exact e49) (by simp only [upd_app,qQ,if_false];exact e50) (by simp only [upd_app,qQ,reduceIte,if_false]) (by simp only [upd_app,qQ,reduceIte,if_false]) ?_
  intro E' H' X' hM' hXl' hX' f0 f6 f49 f50
  simp only [SS,reduceIte,qQ,r40_18,f50,w5]
  refine ⟨k,_,_,by omega,⟨i+1,X',by omega,hM',hXl',?_,?_,?_,?_,?_⟩,.refl⟩
  ·intro s t
   rw [hX',hX]
   by_cases h1:s=i∧t<n
   ·rw [if_pos h1,if_pos ⟨by omega,h1.2⟩]
   ·rw [if_neg h1]
    by_cases h2:s<i∧t<n
    ·rw [if_pos h2,if_pos ⟨by omega,h2.2⟩]
    ·rw [if_neg h2,if_neg (by omega)]
  all_goals simp only [upd_app,qQ,reduceIte,if_false, *]
 ·have hiN:i=M.length:=by omega
  subst hiN
  have e:X=M:=by
   refine mat_ext hXl rfl (fun s hs=>hM.cols s (by omega)) hc fun s t hs ht=>?_
   rw [hX,if_pos ⟨hs,ht⟩]
  exact hQ _ _ (e ▸ hM) (by simp only [upd_app,qQ,if_false,e6])
theorem mFromInts {M:List (List Int)} {a:AV} {n:Nat} (h:ImV M a) (hn:1≤n∧n≤16) (hN:1≤M.length∧M.length≤16) (hc:∀i,i<M.length→(M.getD i []).length=n):
  Ret Tryz.prog G 40 [a] [] (.tup [matC M,.bool true]) []:=by
 have hf:=h.fit
 obtain ⟨rows,c,rfl,hl,hr⟩:=h.val
 refine Ret_ofw mixed Tryz.func40 comp40 _ 78 res40 nt40 (by simp) (by simp) ?_
 simp only [c40,r40_0,r40_1,SS,forall_const,reduceCtorEq,reduceIte,qQ]
 refine ⟨fun _=>⟨fun h=>absurd h (by omega),fun _=>?_⟩,fun h=>absurd h (by omega)⟩
 simp only [r40_3,SS,reduceCtorEq,reduceIte,qQ]
 refine W_loop (fun k E H=>∃i,i+k=M.length∧H=[]∧E 0= .vec rows M.length c∧E 17= .vec rows M.length c∧E 18= .int .i64 (M.length:Nat)∧E 19= .int .i64 (i:Nat)) (n:=M.length) ⟨0,by omega,rfl,by simp only [upd_app,argsE_app,qB,qQ,if_false],by simp only [upd_app,argsE_app,qJ,qQ,reduceIte,if_false],by simp only [upd_app,argsE_app,qJ,qQ,reduceIte,if_false],by simp only [upd_app,argsE_app,qJ,qQ,reduceIte,if_false];rfl⟩ ?_
 rintro k E H ⟨i,hik,rfl,e0,e17,e18,e19⟩
 obtain ⟨c0,hc0⟩:=hr 0 (by omega)
 have hrl0:=hc 0 (by omega)
 refine wpC_sound mixed ?_
 simp only [l40_0,r40_4,SS,reduceCtorEq,reduceIte,e18,e19]
 refine ⟨fun hlt=>?_,fun hge=>?_⟩
 ·obtain ⟨k,rfl⟩:∃k',k=k'+1:=⟨k-1,by omega⟩
  have hi:i<M.length:=by omega
  obtain ⟨ci,hci⟩:=hr i hi
  have hrl:=hc i hi
  have w5:IntKind.i64.wrap ((i:Int)+1)=((i+1:Nat):Int):=by rw [show (i:Int)+1=((i+1:Nat):Int) by omega];exact w64 (by omega) (by omega)
  simp only [r40_5,r40_6,SS,forall_const,reduceCtorEq,reduceIte,qQ,e0,e17,e19,qH,hci,hl,hrl,hc0,hrl0,Int.toNat_zero]
  refine ⟨⟨by omega,by omega⟩,by omega,fun _=>⟨fun _=>⟨⟨by omega,by omega⟩,by omega,?_⟩,fun h=>absurd h (by omega)⟩,fun h=>absurd h (by omega)⟩
  refine ⟨fun h=>absurd rfl h,fun _=>?_⟩
  simp only [r40_8,SS,reduceIte,qQ,e19,w5]
  refine ⟨k,_,_,by omega,⟨i+1,by omega,rfl,?_,?_,?_,?_⟩,.refl⟩
  all_goals simp only [upd_app,qQ,reduceIte,if_false, *]
 ·have hiN:i=M.length:=by omega
  subst hiN
  simp only [r40_9,SS,forall_const,reduceCtorEq,reduceIte,qQ,e0,hc0,hl,hrl0,Int.toNat_zero]
  refine ⟨⟨by omega,by omega⟩,by omega,?_⟩
  refine callA_new (mZero hN.2 hn.2) rfl ?_
  have hz:MatH ((zH M.length n M.length).map (renB (names [] 0))) 0 ((zps n M.length).map fun p=>(0+p.1,p.2)) n (zmat M.length n):=zero_shift [] M.length n
  simp only [restA,SS,reduceIte,qQ,AV.ren,names_nil,Nat.add_zero]
  have hH1:applyE (effs (names [] 0) 0 (zH M.length n M.length)) (List.replicate (zH M.length n M.length).length none)=(zH M.length n M.length).map (renB (names [] 0)):=
   effs_new (H:=[]) (names [] 0) (fun i=>names_nil 0 i) (zH M.length n M.length) []
  simp only [hH1]
  generalize (zH M.length n M.length).map (renB (names [] 0))=H1 at*
  simp only [SS,reduceCtorEq,reduceIte,qQ,r40_10,e0]
  refine mFrom_out (c:=c) (cap:=some M.length) hn.2 hN.2 hl hr hc hf hz (by simp only [upd_app,qQ,if_false,e0]) (by simp only [upd_app,qQ,reduceIte,if_false]) (by simp only [upd_app,qQ,reduceIte,if_false]) (by simp only [upd_app,qQ,reduceIte,if_false]) ?_
  intro E' H' hM' f6
  simp only [SS,reduceCtorEq,reduceIte,r40_19,f6]
  obtain ⟨v,g1,g2⟩:=fin_matT (cap:=some M.length) (b:=true) hM'
  exact ⟨.inl trivial,_,v,rfl,g1,g2⟩
theorem mOf {M:List (List Int)} {a:AV} {n:Nat} (h:ImV M a) (hn:1≤n∧n≤16) (hN:1≤M.length∧M.length≤16) (hc:∀i,i<M.length→(M.getD i []).length=n):
  Ret Tryz.prog G 14 [a] [] (matC M) []:=by
 have ts:=mFromInts h hn hN hc
 obtain ⟨rows,c,rfl,hl,hr⟩:=h.val
 refine Ret_of mixed Tryz.func14 comp14 _ 11 res14 nt14 (by simp) (by simp) ?_
 simp only [c14,r14_0,r14_1,SS,reduceCtorEq,reduceIte]
 refine callA_pure ts ?_
 simp only [SS,reduceIte,qQ,r14_2,xW,qP]
 exact ⟨.inl trivial,_,rfl,.keep _ _⟩
def rowsS (n i:Nat):List AV:=(List.range i).map fun k=> .sl (k+1) 0 n 1 (some n)
def outS (N n i:Nat):List AV:=rowsS n i++List.replicate (N-i) nilV
def bH (N n:Nat) (rows:List (List Int)):Heap:=some (outS N n rows.length)::rows.map fun r=>some (i64z r)
theorem rowsS_len (n i:Nat):(rowsS n i).length=i:=by simp [rowsS]
theorem outS_len {N n i:Nat} (h:i≤N):(outS N n i).length=N:=by simp [outS,rowsS_len];omega
theorem outS_get {N n i k:Nat} (h:k<i):(outS N n i).getD k .junk= .sl (k+1) 0 n 1 (some n):=by
 unfold outS rowsS
 rw [qX,qM (by simpa using h),qN,yB h]
 rfl
theorem bH_len (N n:Nat) (rows:List (List Int)):(bH N n rows).length=rows.length+1:=by simp [bH]
theorem bH_outer (N n:Nat) (rows:List (List Int)):getB (bH N n rows) 0=some (outS N n rows.length):=rfl
theorem bH_row {N n i:Nat} {rows:List (List Int)} (h:i<rows.length):getB (bH N n rows) (i+1)=some (i64z (rows.getD i [])):=by
 unfold getB bH
 rw [qP,qN,qX,qZ h]
 rfl
theorem bH_set {N n i:Nat} {rows:List (List Int)} (r:List Int):(bH N n rows).set (i+1) (some (i64z r))=bH N n (rows.set i r):=by
 unfold bH
 rw [List.set_cons_succ,yV,List.map_set]
theorem outS_snoc {N n i:Nat} (h:i<N):(outS N n i).set i (.sl (i+1) 0 n 1 (some n))=outS N n (i+1):=by
 unfold outS
 have e:List.replicate (N-i) nilV=nilV::List.replicate (N-(i+1)) nilV:=by rw [←yA];congr 1;omega
 have ez:rowsS n (i+1)=rowsS n i++[.sl (i+1) 0 n 1 (some n)]:=by simp [rowsS,xD]
 rw [e,ez,yY _ _ (by rw [rowsS_len];omega),rowsS_len,xB]
 simp
theorem bH_new {N n:Nat} {rows:List (List Int)} (r:List Int) (h:rows.length<N):(bH N n rows++[some (i64z r)]).set 0 (some ((outS N n rows.length).set rows.length (.sl (rows.length+1) 0 n 1 (some n))))=bH N n (rows++[r]):=by
 rw [outS_snoc h]
 unfold bH
 simp
theorem i64z_set (r:List Int) (j:Nat) (z:Int):(i64z r).set j (.int .i64 z)=i64z (r.set j z):=by simp [i64z,List.map_set]
theorem i64z_rep (n:Nat) (z:Int):List.replicate n (AV.int .i64 z)=i64z (List.replicate n z):=by simp [i64z]
theorem i64z_frz (r:List Int) (m d:Nat) (H:Heap):(i64z r).mapM (frzI m H (d+1))=some (i64z r):=by
 refine frz_flat (fun a ha=>?_)
 unfold i64z at ha
 obtain ⟨z,_,rfl⟩:=List.mem_map.1 ha
 rfl
def rowsV (n:Nat) (rows:List (List Int)):List AV:=rows.map fun r=> .vec (i64z r) n (some n)
theorem bH_frz {N n:Nat} {rows:List (List Int)} (hN:rows.length=N) (hn:∀i,i<N→(rows.getD i []).length=n):frzI 0 (bH N n rows) 3 (.sl 0 0 N 1 (some N))=some (.vec (rowsV n rows) N (some N)):=by
 have e0:outS N n rows.length=rowsS n N:=by
  unfold outS
  rw [hN,xB,xN,xM]
 have key:(rowsS n N).mapM (frzI 0 (bH N n rows) 2)=some (rowsV n rows):=by
  have:rowsV n rows=(List.range N).map fun k=>AV.vec (i64z (rows.getD k [])) n (some n):=by
   refine yZ (by simp [rowsV,hN]) fun k h1 h2=>?_
   simp only [rowsV,yX,xP]
   have hk:k<rows.length:=by simpa [rowsV] using h1
   rw [qX,qZ hk]
   rfl
  rw [this]
  unfold rowsS
  rw [List.mapM_map]
  have:∀l:List Nat,(∀k∈l,k<N)→l.mapM (fun k=>frzI 0 (bH N n rows) 2 (.sl (k+1) 0 n 1 (some n)))=some (l.map fun k=>AV.vec (i64z (rows.getD k [])) n (some n)):=by
   intro l
   induction l with
   | nil=>intro _;rfl
   | cons k l ih=>
    intro h
    have hk:=h k (by simp)
    have e:frzI 0 (bH N n rows) 2 (.sl (k+1) 0 n 1 (some n))=some (.vec (i64z (rows.getD k [])) n (some n)):=by
     rw [frzI]
     have hl:=hn k hk
     simp only [xJ,if_false,bH_row (show k<rows.length by omega),need,xK,xE,i64z_len,hl,qA,if_true,xZ]
     rw [qW (by rw [i64z_len];omega),i64z_frz]
     rfl
    rw [xA,e,ih (fun x hx=>h x (by simp [hx]))]
    rfl
  exact this _ (fun k hk=>List.mem_range.1 hk)
 rw [frzI]
 simp only [xJ,if_false,bH_outer,e0,need,xK,xE,rowsS_len,qA,if_true,xZ]
 rw [qW (by rw [rowsS_len];omega),key]
 rfl
theorem imV_rows {N n:Nat} {rows:List (List Int)} {c:Option Nat} (hN:rows.length=N) (hn:∀i,i<N→(rows.getD i []).length=n) (hf:∀i j,In64 (ent rows i j)):ImV rows (.vec (rowsV n rows) N c):=by
 refine ⟨⟨rowsV n rows,c,by rw [hN],by simp [rowsV],fun i hi=>⟨some n,?_⟩⟩,hf⟩
 have hl:=hn i (by omega)
 unfold rowsV
 rw [qX,qN,qZ hi]
 rw [qX,qZ hi] at hl ⊢
 simp only [yL,yQ] at hl ⊢
 rw [hl]
end Go.Proofs.YtenboapacjlmoaaGreatDoor
namespace Go.Det
open Nat renaming le_refl → qA, lt_or_ge → qC, lt_of_lt_of_le → qR, zero_add → xK, mul_le_mul_left → xV, sub_self → xB, le_trans → xC, pow_le_pow_left → xO, lt_of_le_of_lt → xR, lt_irrefl → yD, mul_pow → yH
open List renaming getD_eq_getElem?_getD → qX, append_assoc → qU, getD_cons_zero → qB, nil_append → qD, getElem?_append_right → qE, cons_append → qI, length_append → xQ, range_succ → xD, length_singleton → xL, append_nil → xM, length_cons → yJ
open Int renaming toNat_natCast → qH, mul_le_mul_of_nonneg_left → qL, le_of_mul_le_mul_left → xU, mul_nonneg → xI, eq_of_mul_eq_mul_left → xS
set_option linter.unusedSimpArgs false
set_option linter.unusedVariables false
abbrev Row:=Nat→Int
def sg:Nat→Int
 | 0=>1
 | n+1=> -sg n
def expand (f:List Row→Int) (c:Nat):List Row→List Row→Int
 | _,[]=>0
 | pre,v::L=>sg L.length*(v c*f (pre++L))+expand f c (pre++[v]) L
def det:List Nat→List Row→Int
 | [],[]=>1
 | [],_::_=>0
 | c::cs,R=>expand (det cs) c [] R
def Lin (f:List Row→Int):Prop:= ∀(L1 L2:List Row) (a b:Int) (x y:Row),f (L1++(fun j=>a*x j+b*y j)::L2)=a*f (L1++x::L2)+b*f (L1++y::L2)
def Alt (f:List Row→Int):Prop:= ∀(L1 L2:List Row) (v:Row),f (L1++v::v::L2)=0
theorem expand_pre {f:List Row→Int} (hf:Lin f) (c:Nat) (a b:Int) (x y:Row):∀(L p1 p2:List Row),expand f c (p1++(fun j=>a*x j+b*y j)::p2) L=a*expand f c (p1++x::p2) L+b*expand f c (p1++y::p2) L:=by
 intro L
 induction L with
 | nil=>intro p1 p2;simp [expand]
 | cons v L ih=>
  intro p1 p2
  simp only [expand,qU,qI]
  rw [hf p1 (p2++L) a b x y,ih p1 (p2++[v])]
  grind
theorem expand_lin {f:List Row→Int} (hf:Lin f) (c:Nat) (a b:Int) (x y:Row) (L2:List Row):∀(L1 pre:List Row),expand f c pre (L1++(fun j=>a*x j+b*y j)::L2)=a*expand f c pre (L1++x::L2)+b*expand f c pre (L1++y::L2):=by
 intro L1
 induction L1 with
 | nil=>
  intro pre
  simp only [qD,expand]
  rw [expand_pre hf c a b x y L2 pre []]
  grind
 | cons w L1 ih=>
  intro pre
  simp only [qI,expand,xQ,yJ]
  have:=hf (pre++L1) L2 a b x y
  simp only [qU] at this
  rw [this,ih]
  grind
theorem det_lin:∀cs,Lin (det cs):=by
 intro cs
 induction cs with
 | nil=>
  intro L1 L2 a b x y
  have e:∀v:Row,det [] (L1++v::L2)=0:=by intro v;cases L1<;>rfl
  rw [e,e,e];simp
 | cons c cs ih=>intro L1 L2 a b x y;exact expand_lin ih c a b x y L2 L1 []
theorem expand_pre0 {f:List Row→Int} (hf:Alt f) (c:Nat) (v:Row):∀(L p1 p2:List Row),expand f c (p1++v::v::p2) L=0:=by
 intro L
 induction L with
 | nil=>intro p1 p2;rfl
 | cons w L ih=>
  intro p1 p2
  simp only [expand,qU,qI]
  rw [hf p1 (p2++L) v,ih p1 (p2++[w])]
  simp
theorem expand_alt {f:List Row→Int} (hf:Alt f) (c:Nat) (v:Row) (L2:List Row):∀(L1 pre:List Row),expand f c pre (L1++v::v::L2)=0:=by
 intro L1
 induction L1 with
 | nil=>
  intro pre
  simp only [qD,expand,yJ]
  have:=expand_pre0 hf c v L2 pre []
  simp only [qU,qI,qD] at this ⊢
  rw [this]
  simp only [sg]
  grind
 | cons w L1 ih=>
  intro pre
  simp only [qI,expand]
  have:=hf (pre++L1) L2 v
  simp only [qU] at this
  rw [this,ih]
  simp
theorem det_alt:∀cs,Alt (det cs):=by
 intro cs
 induction cs with
 | nil=>intro L1 L2 v;cases L1<;>rfl
 | cons c cs ih=>intro L1 L2 v;exact expand_alt ih c v L2 L1 []
theorem swap {f:List Row→Int} (hl:Lin f) (ha:Alt f) (L1 L2:List Row) (x y:Row):f (L1++x::y::L2)= -f (L1++y::x::L2):=by
 have h:=ha L1 L2 (fun j=>1*x j+1*y j)
 rw [hl L1 ((fun j=>1*x j+1*y j)::L2) 1 1 x y] at h
 have h1:=hl (L1++[x]) L2 1 1 x y
 have h2:=hl (L1++[y]) L2 1 1 x y
 simp only [qU,qI,qD] at h1 h2
 rw [h1,h2,ha L1 L2 x,ha L1 L2 y] at h
 omega
theorem alt_mem {f:List Row→Int} (hl:Lin f) (ha:Alt f) (v:Row):∀(M L1 L2:List Row),f (L1++v::(M++v::L2))=0:=by
 intro M
 induction M with
 | nil=>intro L1 L2;exact ha L1 L2 v
 | cons w M ih=>
  intro L1 L2
  rw [qI,swap hl ha L1 (M++v::L2) v w]
  have:=ih (L1++[w]) L2
  simp only [qU,qI,qD] at this
  rw [this];simp
theorem alt_mem' {f:List Row→Int} (hl:Lin f) (ha:Alt f) {v:Row} {L1 L2:List Row} (hv:v∈L1):f (L1++v::L2)=0:=by
 obtain ⟨A,B,rfl⟩:=List.append_of_mem hv
 have:=alt_mem hl ha v B A L2
 simpa using this
theorem lin_zero {f:List Row→Int} (hl:Lin f) (L1 L2:List Row):f (L1++(fun _=>0)::L2)=0:=by
 have:=hl L1 L2 0 0 (fun _=>0) (fun _=>0)
 simpa using this
def comb (c:Nat→Int) (r:Nat→Row):Nat→Row
 | 0=>fun _=>0
 | m+1=>fun j=>1*comb c r m j+c m*r m j
theorem det_comb {f:List Row→Int} (hl:Lin f) (ha:Alt f) (c:Nat→Int) (r:Nat→Row) {L1 L2:List Row}:∀m,(∀l,l<m→r l∈L1)→f (L1++comb c r m::L2)=0:=by
 intro m
 induction m with
 | zero=>intro _;exact lin_zero hl L1 L2
 | succ m ih=>
  intro h
  show f (L1++(fun j=>1*comb c r m j+c m*r m j)::L2)=0
  rw [hl,ih (fun l hl=>h l (by omega)),alt_mem' hl ha (h m (by omega))]
  simp
def rowsK (r:Nat→Row) (k:Nat):List Row:=(List.range k).map r
def colsK:Nat→List Nat
 | 0=>[]
 | k+1=>k::colsK k
theorem rowsK_succ (r:Nat→Row) (k:Nat):rowsK r (k+1)=rowsK r k++[r k]:=by simp [rowsK,xD]
def lead (r:Nat→Row) (k:Nat):Int:=det (colsK k) (rowsK r k)
def bord (r:Nat→Row) (k:Nat) (v:Row):Row:=fun j=>det (j::colsK k) (rowsK r k++[v])
theorem lead_succ (r:Nat→Row) (k:Nat):lead r (k+1)=bord r k (r k) k:=by
 unfold lead bord
 rw [rowsK_succ];rfl
def cof (f:List Row→Int) (pre L:List Row) (v:Row) (l:Nat):Int:= -(sg (L.length-l)*f (pre++(L.eraseIdx l++[v])))
def sumR (g:Nat→Int):Nat→Int
 | 0=>0
 | n+1=>sumR g n+g n
theorem sumR_congr {g h:Nat→Int} {n:Nat} (e:∀i,i<n→g i=h i):sumR g n=sumR h n:=by
 induction n with
 | zero=>rfl
 | succ n ih=>simp only [sumR];rw [ih (fun i hi=>e i (by omega)),e n (by omega)]
theorem sumR_zero {g:Nat→Int} {n:Nat} (e:∀i,i<n→g i=0):sumR g n=0:=by
 induction n with
 | zero=>rfl
 | succ n ih=>simp only [sumR];rw [ih (fun i hi=>e i (by omega)),e n (by omega)];rfl
theorem sumR_shift (g:Nat→Int) (n:Nat):sumR g (n+1)=g 0+sumR (fun i=>g (i+1)) n:=by
 induction n with
 | zero=>simp [sumR]
 | succ n ih=>rw [sumR,ih];simp only [sumR];omega
theorem expand_last (f:List Row→Int) (j:Nat) (v:Row):∀(L pre:List Row),expand f j pre (L++[v])=v j*f (pre++L)-sumR (fun l=>cof f pre L v l*(L.getD l (fun _=>0)) j) L.length:=by
 intro L
 induction L with
 | nil=>intro pre;simp [expand,sg,sumR]
 | cons w L ih=>
  intro pre
  simp only [qI,expand,xQ,yJ,List.length_nil,xK]
  rw [ih (pre++[w]),sumR_shift]
  have e:sumR (fun i=>cof f pre (w::L) v (i+1)*((w::L).getD (i+1) (fun _=>0)) j) L.length=sumR (fun l=>cof f (pre++[w]) L v l*(L.getD l (fun _=>0)) j) L.length:=by
   refine sumR_congr fun i _=>?_
   simp [cof]
  have e0:cof f pre (w::L) v 0= -(sg (L.length+1)*f (pre++(L++[v]))):=by simp [cof]
  rw [e,e0]
  simp only [qB,qU,qI,qD]
  grind
theorem comb_sum (c:Nat→Int) (r:Nat→Row) (j:Nat):∀m,comb c r m j=sumR (fun l=>c l*r l j) m:=by
 intro m
 induction m with
 | zero=>rfl
 | succ m ih=>simp only [comb,sumR,ih];omega
theorem rowsK_len (r:Nat→Row) (k:Nat):(rowsK r k).length=k:=by simp [rowsK]
theorem rowsK_get (r:Nat→Row) {k l:Nat} (h:l<k):(rowsK r k).getD l (fun _=>0)=r l:=by
 rw [qX]
 simp [rowsK,h]
theorem bord_eq (r:Nat→Row) (k:Nat) (v:Row):bord r k v=fun j=>lead r k*v j+(-1)*comb (cof (det (colsK k)) [] (rowsK r k) v) r k j:=by
 funext j
 show expand (det (colsK k)) j [] (rowsK r k++[v])=_
 rw [expand_last,comb_sum,rowsK_len]
 have e:sumR (fun l=>cof (det (colsK k)) [] (rowsK r k) v l*((rowsK r k).getD l (fun _=>0)) j) k=sumR (fun l=>cof (det (colsK k)) [] (rowsK r k) v l*r l j) k:=
  sumR_congr fun l hl=>by rw [rowsK_get r hl]
 rw [e]
 unfold lead
 simp only [qD]
 grind
theorem det_zero {u:Row}:∀(cs:List Nat),(∀c∈cs,u c=0)→∀L1 L2,det cs (L1++u::L2)=0:=by
 intro cs
 induction cs with
 | nil=>intro _ L1 L2;cases L1<;>rfl
 | cons c cs ih=>
  intro h L1 L2
  have hf:=ih (fun x hx=>h x (by simp [hx]))
  have hc:=h c (by simp)
  have pre:∀(L p1 p2:List Row),expand (det cs) c (p1++u::p2) L=0:=by
   intro L
   induction L with
   | nil=>intro p1 p2;rfl
   | cons w L ihL=>
    intro p1 p2
    simp only [expand,qU,qI]
    rw [hf p1 (p2++L),ihL p1 (p2++[w])];simp
  have main:∀(L1 p:List Row),expand (det cs) c p (L1++u::L2)=0:=by
   intro L1
   induction L1 with
   | nil=>
    intro p
    simp only [qD,expand]
    rw [hc,pre L2 p []];simp
   | cons w L1 ihL=>
    intro p
    simp only [qI,expand]
    have:=hf (p++L1) L2
    simp only [qU] at this
    rw [this,ihL];simp
  exact main L1 []
theorem mem_colsK {c:Nat}:∀{k:Nat},c∈colsK k→c<k:=by
 intro k
 induction k with
 | zero=>intro h;simp [colsK] at h
 | succ k ih=>
  intro h
  rcases List.mem_cons.1 h with e | e
  ·omega
  ·have:=ih e;omega
theorem bord_step {r:Nat→Row} {k:Nat} (hz:∀v c,c<k→bord r k v c=0) (v:Row) (j:Nat):
  lead r k*lead r k*bord r (k+1) v j=lead r k*(bord r k (r k) k*bord r k v j-bord r k v k*bord r k (r k) j):=by
 have hu0:∀w c,c∈colsK k→bord r k w c=0:=fun w c hc=>hz w c (mem_colsK hc)
 have G0:∀w L1 L2,det (colsK k) (L1++bord r k w::L2)=0:=fun w L1 L2=>det_zero (colsK k) (hu0 w) L1 L2
 have F1:∀w,det (k::colsK k) (rowsK r k++[bord r k w])=bord r k w k*lead r k:=by
  intro w
  show expand (det (colsK k)) k [] (rowsK r k++[bord r k w])=_
  rw [expand_last]
  have:sumR (fun l=>cof (det (colsK k)) [] (rowsK r k) (bord r k w) l*((rowsK r k).getD l (fun _=>0)) k) (rowsK r k).length=0:=
   sumR_zero fun l _=>by
    unfold cof
    have:=G0 w ((rowsK r k).eraseIdx l) []
    simp only [qD]
    rw [this];simp
  rw [this]
  unfold lead
  simp
 have F2:∀R w w',det (k::colsK k) ((R++[bord r k w])++[bord r k w'])=0:=by
  intro R w w'
  show expand (det (colsK k)) k [] ((R++[bord r k w])++[bord r k w'])=_
  rw [expand_last]
  have:sumR (fun l=>cof (det (colsK k)) [] (R++[bord r k w]) (bord r k w') l*((R++[bord r k w]).getD l (fun _=>0)) k) (R++[bord r k w]).length=0:=
   sumR_zero fun l _=>by
    unfold cof
    have:=G0 w' ((R++[bord r k w]).eraseIdx l) []
    simp only [qD]
    rw [this];simp
  rw [this,qD,G0 w R []]
  simp
 have X1:det (j::k::colsK k) ((rowsK r k++[bord r k (r k)])++[bord r k v])=lead r k*(bord r k (r k) k*bord r k v j-bord r k v k*bord r k (r k) j):=by
  show expand (det (k::colsK k)) j [] ((rowsK r k++[bord r k (r k)])++[bord r k v])=_
  rw [expand_last,qD,F1,xQ,xL,rowsK_len]
  simp only [sumR]
  have h0:sumR (fun l=>cof (det (k::colsK k)) [] (rowsK r k++[bord r k (r k)]) (bord r k v) l*((rowsK r k++[bord r k (r k)]).getD l (fun _=>0)) j) k=0:=
   sumR_zero fun l hl=>by
    unfold cof
    rw [qD,List.eraseIdx_append_of_lt_length (by rw [rowsK_len];exact hl),F2];simp
  have h1:cof (det (k::colsK k)) [] (rowsK r k++[bord r k (r k)]) (bord r k v) k=bord r k v k*lead r k:=by
   unfold cof
   rw [qD,List.eraseIdx_append_of_length_le (by rw [rowsK_len];exact qA _),rowsK_len,xB,xQ,rowsK_len]
   simp only [List.eraseIdx_zero,List.tail_cons,xM,xL,Nat.add_sub_cancel_left,sg]
   rw [F1];grind
  have h2:(rowsK r k++[bord r k (r k)]).getD k (fun _=>0)=bord r k (r k):=by
   rw [qX,qE (by rw [rowsK_len];exact qA _),rowsK_len,xB];rfl
  rw [h0,h1,h2]
  grind
 have hl:=det_lin (j::k::colsK k)
 have ha:=det_alt (j::k::colsK k)
 have hm:∀l,l<k→r l∈rowsK r k:=fun l h=>by simp only [rowsK,List.mem_map,List.mem_range];exact ⟨l,h,rfl⟩
 have X2:det (j::k::colsK k) ((rowsK r k++[bord r k (r k)])++[bord r k v])=lead r k*(lead r k*bord r (k+1) v j):=by
  rw [bord_eq r k v]
  rw [hl (rowsK r k++[bord r k (r k)]) [] (lead r k) (-1) v (comb (cof (det (colsK k)) [] (rowsK r k) v) r k)]
  rw [det_comb hl ha _ r (L1:=rowsK r k++[bord r k (r k)]) (L2:=[]) k (fun l h=>by simp [hm l h])]
  rw [qU,bord_eq r k (r k)]
  show lead r k*det (j::k::colsK k) (rowsK r k++(fun j=>lead r k*(r k) j+(-1)*comb (cof (det (colsK k)) [] (rowsK r k) (r k)) r k j)::[v])+_=_
  rw [hl (rowsK r k) [v] (lead r k) (-1) (r k) (comb (cof (det (colsK k)) [] (rowsK r k) (r k)) r k)]
  rw [det_comb hl ha _ r (L1:=rowsK r k) (L2:=[v]) k hm]
  have:bord r (k+1) v j=det (j::k::colsK k) (rowsK r k++r k::[v]):=by
   unfold bord
   rw [rowsK_succ,qU];rfl
  rw [this]
  grind
 rw [X1] at X2
 grind
theorem bord_rec {r:Nat→Row}:∀(k:Nat),(∀i,i≤k→lead r i≠0)→(∀v c,c<k→bord r k v c=0)∧∀v j,lead r k*bord r (k+1) v j=bord r k (r k) k*bord r k v j-bord r k v k*bord r k (r k) j:=by
 have canc:∀{a x y:Int},a≠0→a*a*x=a*y→a*x=y:=by
  intro a x y ha h
  rw [Int.mul_assoc] at h
  exact xS ha h
 intro k
 induction k with
 | zero=>intro h;exact ⟨fun v c hc=>absurd hc (by omega),fun v j=>canc (h 0 (by omega)) (bord_step (fun v c hc=>absurd hc (by omega)) v j)⟩
 | succ k ih=>
  intro h
  obtain ⟨h1,h2⟩:=ih (fun i hi=>h i (by omega))
  have hz:∀v c,c<k+1→bord r (k+1) v c=0:=by
   intro v c hc
   have e:=h2 v c
   have:lead r k*bord r (k+1) v c=0:=by
    rw [e]
    rcases qC c k with hlt | hge
    ·rw [h1 v c hlt,h1 (r k) c hlt];simp
    ·have:c=k:=by omega
     subst this
     grind
   rcases Int.mul_eq_zero.1 this with h0 | h0
   ·exact absurd h0 (h k (by omega))
   ·exact h0
  exact ⟨hz,fun v j=>canc (h (k+1) (by omega)) (bord_step hz v j)⟩
def stg (a:Nat→Row) (k i j:Nat):Int:=bord a k (a i) j
theorem stg_zero (a:Nat→Row) (i j:Nat):stg a 0 i j=a i j:=by
 show expand (det []) j [] [a i]=_
 simp [expand,sg,det]
theorem lead_zero (a:Nat→Row):lead a 0=1:=rfl
theorem lead_stg (a:Nat→Row) (k:Nat):lead a (k+1)=stg a k k k:=lead_succ a k
theorem stg_rec {a:Nat→Row} {k:Nat} (h:∀i,i≤k→lead a i≠0) (i j:Nat):lead a k*stg a (k+1) i j=lead a (k+1)*stg a k i j-stg a k i k*stg a k k j:=by
 rw [lead_stg];exact (bord_rec k h).2 (a i) j
theorem stg_low {a:Nat→Row} {k:Nat} (h:∀i,i≤k→lead a i≠0) (i c:Nat) (hc:c<k):stg a k i c=0:=(bord_rec k h).1 (a i) c hc
theorem stg_sym {a:Nat→Row} {n:Nat} (hs:∀i j,i<n→j<n→a i j=a j i):∀k,k<n→(∀i,i≤k→lead a i≠0)→∀i j,i<n→j<n→k≤i→k≤j→stg a k i j=stg a k j i:=by
 intro k
 induction k with
 | zero=>intro _ _ i j hi hj _ _;rw [stg_zero,stg_zero];exact hs i j hi hj
 | succ k ih=>
  intro hk h i j hi hj h1 h2
  have h':∀i,i≤k→lead a i≠0:=fun i hi=>h i (by omega)
  have e1:=stg_rec h' i j
  have e2:=stg_rec h' j i
  have s1:=ih (by omega) h' i j hi hj (by omega) (by omega)
  have s2:=ih (by omega) h' i k hi (by omega) (by omega) (by omega)
  have s3:=ih (by omega) h' k j (by omega) hj (by omega) (by omega)
  refine xS (h' k (by omega)) ?_
  rw [e1,e2,s1,s2,s3]
  grind
theorem sq_le {x d:Int} (h1:x≤d) (h2: -d≤x):x*x≤d*d:=by
 have h:=xI (show 0≤d-x by omega) (show 0≤d+x by omega)
 have e:(d-x)*(d+x)=d*d-x*x:=by grind
 omega
theorem mul_abs {x y a b:Int} (h1:x≤a) (h2: -a≤x) (h3:y≤b) (h4: -b≤y):x*y≤a*b∧ -(a*b)≤x*y:=by
 have ha:0≤a:=by omega
 have p1:=xI (show 0≤a-x by omega) (show 0≤b+y by omega)
 have p2:=xI (show 0≤a+x by omega) (show 0≤b-y by omega)
 have p3:=xI (show 0≤a-x by omega) (show 0≤b-y by omega)
 have p4:=xI (show 0≤a+x by omega) (show 0≤b+y by omega)
 have e1:(a-x)*(b+y)+(a+x)*(b-y)=2*(a*b)-2*(x*y):=by grind
 have e2:(a-x)*(b-y)+(a+x)*(b+y)=2*(a*b)+2*(x*y):=by grind
 omega
structure Red (n:Nat) (a:Nat→Row):Prop where
 n1:1≤n
 n8:n≤8
 sym:∀i j,i<n→j<n→a i j=a j i
 pos:∀k,k<n→0<lead a (k+1)
 small:lead a n≤10000
 sized:∀i j,i<n→j<i→2*stg a j i j≤lead a (j+1)∧ -(2*stg a j i j)≤lead a (j+1)
 lov:∀i,0<i→i<n→3*(lead a i*lead a i)≤4*(lead a (i-1)*lead a (i+1)+stg a (i-1) i (i-1)*stg a (i-1) i (i-1))
theorem Red.pos' {n:Nat} {a:Nat→Row} (h:Red n a):∀k,k≤n→0<lead a k:=by
 intro k hk
 cases k with
 | zero=>rw [lead_zero];decide
 | succ k=>exact h.pos k (by omega)
theorem Red.ne {n:Nat} {a:Nat→Row} (h:Red n a) {k:Nat} (hk:k≤n):∀i,i≤k→lead a i≠0:=fun i hi=>by have:=h.pos' i (by omega);omega
theorem Red.conv {n:Nat} {a:Nat→Row} (h:Red n a) {i:Nat} (h0:0<i) (hi:i<n):lead a i*lead a i≤2*(lead a (i-1)*lead a (i+1)):=by
 obtain ⟨s1,s2⟩:=h.sized i (i-1) hi (by omega)
 have e:i-1+1=i:=by omega
 rw [e] at s1 s2
 have l:=h.lov i h0 hi
 have q:=sq_le s1 (by omega)
 have e2:2*stg a (i-1) i (i-1)*(2*stg a (i-1) i (i-1))=4*(stg a (i-1) i (i-1)*stg a (i-1) i (i-1)):=by grind
 omega
theorem Red.pow {n:Nat} {a:Nat→Row} (h:Red n a):∀k,k<n→(lead a k).toNat^(k+1)≤2^(k*(k+1)/2)*(lead a (k+1)).toNat^k:=by
 intro k
 induction k with
 | zero=>intro _;rw [lead_zero];simp
 | succ k ih=>
  intro hk
  have c:=h.conv (i:=k+1) (by omega) hk
  have p0:=h.pos' k (by omega)
  have p1:=h.pos' (k+1) (by omega)
  have p2:=h.pos' (k+1+1) (by omega)
  have e0:k+1-1=k:=by omega
  rw [e0] at c
  obtain ⟨x,hx⟩:∃x:Nat,lead a k=x:=⟨(lead a k).toNat,by omega⟩
  obtain ⟨y,hy⟩:∃x:Nat,lead a (k+1)=x:=⟨(lead a (k+1)).toNat,by omega⟩
  obtain ⟨z,hz⟩:∃x:Nat,lead a (k+1+1)=x:=⟨(lead a (k+1+1)).toNat,by omega⟩
  have ih:=ih (by omega)
  rw [hx,hy] at ih
  rw [hx,hy,hz] at c
  rw [hy,hz]
  simp only [qH] at ih ⊢
  have c':y*y≤2*(x*z):=by
   have:((y*y:Nat):Int)≤((2*(x*z):Nat):Int):=by simpa using c
   omega
  have hy0:0<y:=by omega
  have q1:(y*y)^(k+1)≤(2*(x*z))^(k+1):=xO c' _
  rw [yH,yH,yH] at q1
  have q2:2^(k+1)*(x^(k+1)*z^(k+1))≤2^(k+1)*((2^(k*(k+1)/2)*y^k)*z^(k+1)):=xV _ (Nat.mul_le_mul_right _ ih)
  have q3:=xC q1 q2
  have ee:(k+1)*(k+1+1)/2=k*(k+1)/2+(k+1):=by
   have:(k+1)*(k+1+1)=k*(k+1)+(k+1)*2:=by grind
   rw [this,Nat.add_mul_div_right _ _ (by decide)]
  rw [ee,Nat.pow_add 2]
  have e1:y^(k+1)*y^(k+1)=y^k*y^(k+1+1):=by rw [Nat.pow_succ y (k+1),Nat.pow_succ y k];grind
  have e2:2^(k+1)*((2^(k*(k+1)/2)*y^k)*z^(k+1))=y^k*(2^(k*(k+1)/2)*2^(k+1)*z^(k+1)):=by grind
  rw [e1,e2] at q3
  exact Nat.le_of_mul_le_mul_left q3 (Nat.pow_pos hy0)
theorem Red.step {n:Nat} {a:Nat→Row} (h:Red n a) {k X Y:Nat} (hk:k<n) (hY:lead a (k+1)≤Y) (hX:2^(k*(k+1)/2)*Y^k<(X+1)^(k+1)):lead a k≤X:=by
 have p:=h.pow k hk
 have p0:=h.pos' k (by omega)
 have p1:=h.pos' (k+1) (by omega)
 have h1:(lead a (k+1)).toNat≤Y:=by omega
 have h2:(lead a k).toNat^(k+1)<(X+1)^(k+1):=xR (xC p (xV _ (xO h1 _))) hX
 have h3:(lead a k).toNat<X+1:=Nat.lt_of_not_le fun h4=>yD _ (qR h2 (xO h4 _))
 omega
theorem Red.bnd1 {a:Nat→Row} (h:Red 1 a):∀k,k<1→lead a k≤65535:=by
 have b1:lead a 1≤(10000:Nat):=h.small
 have b0:lead a 0≤(1:Nat):=by rw [lead_zero];decide
 intro k hk
 match k,hk with
 | 0,_=>omega
 | k+1,hk=>exact absurd hk (by omega)
theorem Red.bnd2 {a:Nat→Row} (h:Red 2 a):∀k,k<2→lead a k≤65535:=by
 have b2:lead a 2≤(10000:Nat):=h.small
 have b1:lead a 1≤(141:Nat):=h.step (k:=1) (X:=141) (Y:=10000) (by decide) b2 (by decide)
 have b0:lead a 0≤(1:Nat):=by rw [lead_zero];decide
 intro k hk
 match k,hk with
 | 0,_=>omega
 | 1,_=>omega
 | k+2,hk=>exact absurd hk (by omega)
theorem Red.bnd3 {a:Nat→Row} (h:Red 3 a):∀k,k<3→lead a k≤65535:=by
 have b3:lead a 3≤(10000:Nat):=h.small
 have b2:lead a 2≤(928:Nat):=h.step (k:=2) (X:=928) (Y:=10000) (by decide) b3 (by decide)
 have b1:lead a 1≤(43:Nat):=h.step (k:=1) (X:=43) (Y:=928) (by decide) b2 (by decide)
 have b0:lead a 0≤(1:Nat):=by rw [lead_zero];decide
 intro k hk
 match k,hk with
 | 0,_=>omega
 | 1,_=>omega
 | 2,_=>omega
 | k+3,hk=>exact absurd hk (by omega)
theorem Red.bnd4 {a:Nat→Row} (h:Red 4 a):∀k,k<4→lead a k≤65535:=by
 have b4:lead a 4≤(10000:Nat):=h.small
 have b3:lead a 3≤(2828:Nat):=h.step (k:=3) (X:=2828) (Y:=10000) (by decide) b4 (by decide)
 have b2:lead a 2≤(399:Nat):=h.step (k:=2) (X:=399) (Y:=2828) (by decide) b3 (by decide)
 have b1:lead a 1≤(28:Nat):=h.step (k:=1) (X:=28) (Y:=399) (by decide) b2 (by decide)
 have b0:lead a 0≤(1:Nat):=by rw [lead_zero];decide
 intro k hk
 match k,hk with
 | 0,_=>omega
 | 1,_=>omega
 | 2,_=>omega
 | 3,_=>omega
 | k+4,hk=>exact absurd hk (by omega)
theorem Red.bnd5 {a:Nat→Row} (h:Red 5 a):∀k,k<5→lead a k≤65535:=by
 have b5:lead a 5≤(10000:Nat):=h.small
 have b4:lead a 4≤(6339:Nat):=h.step (k:=4) (X:=6339) (Y:=10000) (by decide) b5 (by decide)
 have b3:lead a 3≤(2009:Nat):=h.step (k:=3) (X:=2009) (Y:=6339) (by decide) b4 (by decide)
 have b2:lead a 2≤(318:Nat):=h.step (k:=2) (X:=318) (Y:=2009) (by decide) b3 (by decide)
 have b1:lead a 1≤(25:Nat):=h.step (k:=1) (X:=25) (Y:=318) (by decide) b2 (by decide)
 have b0:lead a 0≤(1:Nat):=by rw [lead_zero];decide
 intro k hk
 match k,hk with
 | 0,_=>omega
 | 1,_=>omega
 | 2,_=>omega
 | 3,_=>omega
 | 4,_=>omega
 | k+5,hk=>exact absurd hk (by omega)
theorem Red.bnd6 {a:Nat→Row} (h:Red 6 a):∀k,k<6→lead a k≤65535:=by
 have b6:lead a 6≤(10000:Nat):=h.small
 have b5:lead a 5≤(12187:Nat):=h.step (k:=5) (X:=12187) (Y:=10000) (by decide) b6 (by decide)
 have b4:lead a 4≤(7426:Nat):=h.step (k:=4) (X:=7426) (Y:=12187) (by decide) b5 (by decide)
 have b3:lead a 3≤(2262:Nat):=h.step (k:=3) (X:=2262) (Y:=7426) (by decide) b4 (by decide)
 have b2:lead a 2≤(344:Nat):=h.step (k:=2) (X:=344) (Y:=2262) (by decide) b3 (by decide)
 have b1:lead a 1≤(26:Nat):=h.step (k:=1) (X:=26) (Y:=344) (by decide) b2 (by decide)
 have b0:lead a 0≤(1:Nat):=by rw [lead_zero];decide
 intro k hk
 match k,hk with
 | 0,_=>omega
 | 1,_=>omega
 | 2,_=>omega
 | 3,_=>omega
 | 4,_=>omega
 | 5,_=>omega
 | k+6,hk=>exact absurd hk (by omega)
theorem Red.bnd7 {a:Nat→Row} (h:Red 7 a):∀k,k<7→lead a k≤65535:=by
 have b7:lead a 7≤(10000:Nat):=h.small
 have b6:lead a 6≤(21461:Nat):=h.step (k:=6) (X:=21461) (Y:=10000) (by decide) b7 (by decide)
 have b5:lead a 5≤(23029:Nat):=h.step (k:=5) (X:=23029) (Y:=21461) (by decide) b6 (by decide)
 have b4:lead a 4≤(12356:Nat):=h.step (k:=4) (X:=12356) (Y:=23029) (by decide) b5 (by decide)
 have b3:lead a 3≤(3314:Nat):=h.step (k:=3) (X:=3314) (Y:=12356) (by decide) b4 (by decide)
 have b2:lead a 2≤(444:Nat):=h.step (k:=2) (X:=444) (Y:=3314) (by decide) b3 (by decide)
 have b1:lead a 1≤(29:Nat):=h.step (k:=1) (X:=29) (Y:=444) (by decide) b2 (by decide)
 have b0:lead a 0≤(1:Nat):=by rw [lead_zero];decide
 intro k hk
 match k,hk with
 | 0,_=>omega
 | 1,_=>omega
 | 2,_=>omega
 | 3,_=>omega
 | 4,_=>omega
 | 5,_=>omega
 | 6,_=>omega
 | k+7,hk=>exact absurd hk (by omega)
theorem Red.bnd8 {a:Nat→Row} (h:Red 8 a):∀k,k<8→lead a k≤65535:=by
 have b8:lead a 8≤(10000:Nat):=h.small
 have b7:lead a 7≤(35777:Nat):=h.step (k:=7) (X:=35777) (Y:=10000) (by decide) b8 (by decide)
 have b6:lead a 6≤(63999:Nat):=h.step (k:=6) (X:=63999) (Y:=35777) (by decide) b7 (by decide)
 have b5:lead a 5≤(57242:Nat):=h.step (k:=5) (X:=57242) (Y:=63999) (by decide) b6 (by decide)
 have b4:lead a 4≤(25599:Nat):=h.step (k:=4) (X:=25599) (Y:=57242) (by decide) b5 (by decide)
 have b3:lead a 3≤(5724:Nat):=h.step (k:=3) (X:=5724) (Y:=25599) (by decide) b4 (by decide)
 have b2:lead a 2≤(639:Nat):=h.step (k:=2) (X:=639) (Y:=5724) (by decide) b3 (by decide)
 have b1:lead a 1≤(35:Nat):=h.step (k:=1) (X:=35) (Y:=639) (by decide) b2 (by decide)
 have b0:lead a 0≤(1:Nat):=by rw [lead_zero];decide
 intro k hk
 match k,hk with
 | 0,_=>omega
 | 1,_=>omega
 | 2,_=>omega
 | 3,_=>omega
 | 4,_=>omega
 | 5,_=>omega
 | 6,_=>omega
 | 7,_=>omega
 | k+8,hk=>exact absurd hk (by omega)
theorem Red.minor {n:Nat} {a:Nat→Row} (h:Red n a) {k:Nat} (hk:k≤n):lead a k≤65535:=by
 rcases qC k n with hlt | hge
 ·have h1:=h.n1
  have h8:=h.n8
  match n,h1,h8 with
  | 1,_,_=>exact h.bnd1 k hlt
  | 2,_,_=>exact h.bnd2 k hlt
  | 3,_,_=>exact h.bnd3 k hlt
  | 4,_,_=>exact h.bnd4 k hlt
  | 5,_,_=>exact h.bnd5 k hlt
  | 6,_,_=>exact h.bnd6 k hlt
  | 7,_,_=>exact h.bnd7 k hlt
  | 8,_,_=>exact h.bnd8 k hlt
  | n+9,_,h=>exact absurd h (by omega)
 ·have:k=n:=by omega
  rw [this]
  have:=h.small
  omega
theorem back {d e x y u v C:Int} (hd:1≤d) (he:1≤e) (he2:e≤65536) (h:d*y=e*x-u*v) (hy1:y≤e*C) (hy2: -(e*C)≤y) (hu1:2*u≤e) (hu2: -(2*u)≤e) (hv1:2*v≤e) (hv2: -(2*v)≤e):
  x≤d*(C+16384)∧ -(d*(C+16384))≤x:=by
 have m:=mul_abs (x:=2*u) (y:=2*v) hu1 (by omega) hv1 (by omega)
 have e4:2*u*(2*v)=4*(u*v):=by grind
 rw [e4] at m
 have k1:d*y≤d*(e*C):=qL hy1 (by omega)
 have k2:d*(-(e*C))≤d*y:=qL hy2 (by omega)
 have k3:e*e≤e*(d*65536):=qL (by omega) (by omega)
 have c1:e*x≤e*(d*(C+16384)):=by
  have:e*(d*(C+16384))=d*(e*C)+e*d*16384:=by grind
  have t:e*(d*65536)=4*(e*d*16384):=by grind
  omega
 have c2:e*(-(d*(C+16384)))≤e*x:=by
  have:e*(-(d*(C+16384)))=d*(-(e*C))-e*d*16384:=by grind
  have t:e*(d*65536)=4*(e*d*16384):=by grind
  omega
 exact ⟨xU c1 (by omega),xU c2 (by omega)⟩
theorem Red.stage {n:Nat} {a:Nat→Row} (h:Red n a) {i j:Nat} (hi:i<n) (hj:j≤i):∀m k,k+m=j→stg a k i j≤lead a k*(65536+16384*(m:Int))∧ -(lead a k*(65536+16384*(m:Int)))≤stg a k i j:=by
 intro m
 induction m with
 | zero=>
  intro k hk
  have:k=j:=by omega
  subst this
  have p:=h.pos' k (by omega)
  have b1:=h.minor (k:=k+1) (by omega)
  have p1:=h.pos' (k+1) (by omega)
  have q:(65536:Int)≤lead a k*(65536+16384*((0:Nat):Int)):=by
   have:1*65536≤lead a k*65536:=Int.mul_le_mul_of_nonneg_right (by omega) (by decide)
   simpa using this
  rcases qC k i with hlt | hge
  ·obtain ⟨s1,s2⟩:=h.sized i k hi hlt
   omega
  ·have:k=i:=by omega
   subst this
   rw [←lead_stg]
   omega
 | succ m ih=>
  intro k hk
  have p:=h.pos' k (by omega)
  have p1:=h.pos' (k+1) (by omega)
  have b1:=h.minor (k:=k+1) (by omega)
  obtain ⟨y1,y2⟩:=ih (k+1) (by omega)
  have hn:=h.ne (k:=k) (by omega)
  have e:=stg_rec hn i j
  obtain ⟨u1,u2⟩:=h.sized i k hi (by omega)
  obtain ⟨v1,v2⟩:=h.sized j k (by omega) (by omega)
  rw [stg_sym h.sym k (by omega) hn k j (by omega) (by omega) (by omega) (by omega)] at e
  have:=back (by omega) (by omega) (by omega) e y1 y2 u1 u2 v1 v2
  have c:(65536+16384*(m:Int)+16384)=65536+16384*((m+1:Nat):Int):=by omega
  rw [c] at this
  exact this
theorem Red.entry {n:Nat} {a:Nat→Row} (h:Red n a) {i j:Nat} (hi:i<n) (hj:j<n):a i j≤180224∧ -180224≤a i j:=by
 have key:∀i j,i<n→j≤i→a i j≤180224∧ -180224≤a i j:=by
  intro i j hi hj
  have:=h.stage hi hj j 0 (by omega)
  rw [stg_zero,lead_zero] at this
  have h8:=h.n8
  omega
 rcases Nat.le_total j i with h1 | h1
 ·exact key i j hi h1
 ·rw [h.sym i j hi hj];exact key j i hj h1
theorem forth {d e x y u v C:Int} (hd:1≤d) (he:1≤e) (he2:e≤65536) (h:d*y=e*x-u*v) (hx1:x≤d*C) (hx2: -(d*C)≤x) (hu1:2*u≤e) (hu2: -(2*u)≤e) (hv1:2*v≤e) (hv2: -(2*v)≤e):
  y≤e*(C+16384)∧ -(e*(C+16384))≤y:=by
 have m:=mul_abs (x:=2*u) (y:=2*v) hu1 (by omega) hv1 (by omega)
 have e4:2*u*(2*v)=4*(u*v):=by grind
 rw [e4] at m
 have k1:e*x≤e*(d*C):=qL hx1 (by omega)
 have k2:e*(-(d*C))≤e*x:=qL hx2 (by omega)
 have k3:e*e≤e*(d*65536):=qL (by omega) (by omega)
 have c1:d*y≤d*(e*(C+16384)):=by
  have:d*(e*(C+16384))=e*(d*C)+e*d*16384:=by grind
  have t:e*(d*65536)=4*(e*d*16384):=by grind
  omega
 have c2:d*(-(e*(C+16384)))≤d*y:=by
  have:d*(-(e*(C+16384)))=e*(-(d*C))-e*d*16384:=by grind
  have t:e*(d*65536)=4*(e*d*16384):=by grind
  omega
 exact ⟨xU c1 (by omega),xU c2 (by omega)⟩
end Go.Det
namespace Go.Proofs.YtenboapacjlmoaaGreatDoor
open Nat renaming le_refl → qA, lt_or_ge → qC, mul_le_mul_left → xV, sub_self → xB, le_trans → xC, mul_le_mul → xH, lt_of_le_of_lt → xR, lt_irrefl → yD
open List renaming getD_eq_getElem?_getD → qX, getElem?_eq_getElem → qZ, getElem?_append_right → qE, getElem?_append_left → qM, getElem?_map → qN, length_append → xQ, getElem_mem → xX, getElem?_eq_none → xY, all_eq_true → xT, length_set → yV, mem_of_getElem? → yU, getElem?_range → yB
open Option renaming bind_some → qV, bind_eq_some_iff → qG, getD_some → yQ, map_some → yL
open Option.some renaming injEq → qO
set_option linter.unusedSimpArgs false
set_option linter.unusedVariables false
open Go Go.AL Go.Det
structure Shp (n:Nat) (M:List (List Int)):Prop where
 len:M.length=n
 row:∀i,i<n→(M.getD i []).length=n
theorem getD_setL {α:Type} {l:List α} {i j:Nat} {x d:α} (hi:i<l.length):(l.set i x).getD j d=if j=i then x else l.getD j d:=by
 rw [qX]
 by_cases h:j=i
 ·subst h;rw [List.getElem?_set_self hi,if_pos rfl];rfl
 ·rw [List.getElem?_set_ne (fun e=>h e.symm),if_neg h,qX]
theorem Shp.set {n:Nat} {M:List (List Int)} (h:Shp n M) {i j:Nat} {z:Int} (hi:i<n):Shp n (setM M i j z):=by
 refine ⟨by rw [setM_len];exact h.len,fun i' hi'=>?_⟩
 unfold setM
 rw [getD_setL (by rw [h.len];exact hi)]
 split
 ·rw [yV];exact h.row i hi
 ·exact h.row i' hi'
theorem Shp.ent_set {n:Nat} {M:List (List Int)} (h:Shp n M) {i j:Nat} {z:Int} (hi:i<n) (hj:j<n) (i' l:Nat):ent (setM M i j z) i' l=if i'=i∧l=j then z else ent M i' l:=by
 unfold ent setM
 rw [getD_setL (by rw [h.len];exact hi)]
 by_cases h1:i'=i
 ·subst h1
  rw [if_pos rfl,getD_setL (by rw [h.row i' hi];exact hj)]
  by_cases h2:l=j
  ·rw [if_pos h2,if_pos ⟨rfl,h2⟩]
  ·rw [if_neg h2,if_neg (fun e=>h2 e.2)]
 ·rw [if_neg h1,if_neg (fun e=>h1 e.1)]
theorem elJ_spec {B n k i:Nat} {last:Int} (hki:k<i) (hi:i<n):∀(m j:Nat) (M fin:List (List Int)),Shp n M→k<j→j+m≤n→elJ B k i last m j M=some fin→
  Shp n fin∧∀i' l,ent fin i' l=if i'=i∧j≤l∧l<j+m then (ent M k k*ent M i l-ent M i k*ent M k l)/last else ent M i' l:=by
 intro m
 induction m with
 | zero=>
  intro j M fin h _ _ he
  simp only [elJ,qO] at he
  subst he
  refine ⟨h,fun i' l=>?_⟩
  rw [if_neg (by omega)]
 | succ m ih=>
  intro j M fin h hj hm he
  simp only [elJ,qG] at he
  obtain ⟨z,hz,he⟩:=he
  obtain ⟨_,_,_,_,_,hz,_⟩:=newE_some hz
  obtain ⟨h1,h2⟩:=ih (j+1) _ _ (h.set hi) (by omega) (by omega) he
  refine ⟨h1,fun i' l=>?_⟩
  have es:=fun i' l=>h.ent_set (i:=i) (j:=j) (z:=z) hi (by omega) i' l
  rw [h2 i' l,es k k,es i l,es i k,es k l,es i' l]
  by_cases c1:i'=i∧j+1≤l∧l<j+1+m
  ·rw [if_pos c1,if_neg (by omega),if_neg (by omega),if_neg (by omega),if_neg (by omega),if_pos (by omega)]
  ·rw [if_neg c1]
   by_cases c2:i'=i∧l=j
   ·rw [if_pos c2,if_pos (by omega),c2.2];exact hz
   ·rw [if_neg c2,if_neg (by omega)]
theorem elI_spec {B n k:Nat} {last:Int}:∀(m i:Nat) (M fin:List (List Int)),Shp n M→k<i→i+m=n→elI B n k last m i M=some fin→
  Shp n fin∧∀i' l,ent fin i' l=if i≤i'∧i'<n∧k+1≤l∧l<n then (ent M k k*ent M i' l-ent M i' k*ent M k l)/last else ent M i' l:=by
 intro m
 induction m with
 | zero=>
  intro i M fin h _ _ he
  simp only [elI,qO] at he
  subst he
  refine ⟨h,fun i' l=>?_⟩
  rw [if_neg (by omega)]
 | succ m ih=>
  intro i M fin h hi hm he
  simp only [elI,qG] at he
  obtain ⟨M1,hM1,he⟩:=he
  obtain ⟨h1,h2⟩:=elJ_spec hi (by omega) (n-(k+1)) (k+1) M M1 h (by omega) (by omega) hM1
  obtain ⟨h3,h4⟩:=ih (i+1) M1 fin h1 (by omega) (by omega) he
  refine ⟨h3,fun i' l=>?_⟩
  rw [h4 i' l,h2 k k,h2 i' l,h2 i' k,h2 k l]
  by_cases c1:i+1≤i'∧i'<n∧k+1≤l∧l<n
  ·rw [if_pos c1,if_neg (by omega),if_neg (by omega),if_neg (by omega),if_neg (by omega),if_pos (by omega)]
  ·rw [if_neg c1]
   by_cases c2:i'=i∧k+1≤l∧l<k+1+(n-(k+1))
   ·rw [if_pos c2,if_pos (by omega),c2.1]
   ·rw [if_neg c2,if_neg (by omega)]
def rowF (M:List (List Int)):Nat→Row:=fun i j=>ent M i j
theorem detG_spec {B n:Nat} {N:List (List Int)} (hp:∀t,t<n→lead (rowF N) t≠0):∀(m k:Nat) (M:List (List Int)) (last d:Int),k+m=n→Shp n M→(∀i j,k≤i→i<n→k≤j→j<n→ent M i j=stg (rowF N) k i j)→
  last=lead (rowF N) k→detG B n m k M last false=some d→d=lead (rowF N) n:=by
 intro m
 induction m with
 | zero=>
  intro k M last d hk _ _ hl h
  simp only [detG,qO] at h
  have:k=n:=by omega
  subst this
  simp at h
  rw [←h,hl]
 | succ m ih=>
  intro k M last d hk hs he hl h
  have hkk:ent M k k=lead (rowF N) (k+1):=by rw [he k k (qA _) (by omega) (qA _) (by omega),←lead_stg]
  obtain ⟨m',hm'⟩:∃m',n-k=m'+1:=⟨n-k-1,by omega⟩
  by_cases h0:ent M k k=0
  ·
   have hkn:k+1=n:=by
    rcases qC (k+1) n with hlt | hge
    ·exact absurd (hkk.symm.trans h0) (hp (k+1) hlt)
    ·omega
   have hm0:m'=0:=by omega
   have hpv:piv M k (n-k) k=n:=by
    rw [hm',hm0]
    simp only [piv]
    rw [if_pos h0];exact hkn
   simp only [detG] at h
   rw [if_pos hpv,qO] at h
   rw [←h,←hkn,←hkk,h0]
  ·have hpv:piv M k (n-k) k=k:=by
    rw [hm']
    simp only [piv]
    rw [if_neg h0]
   simp only [detG,hpv] at h
   rw [if_neg (by omega),if_neg (yD _),if_neg (yD _),qG] at h
   obtain ⟨M2,hM2,h⟩:=h
   obtain ⟨s1,s2⟩:=elI_spec (n-(k+1)) (k+1) M M2 hs (by omega) (by omega) hM2
   have e2:ent M2 k k=lead (rowF N) (k+1):=by rw [s2,if_neg (by omega)];exact hkk
   refine ih (k+1) M2 _ d (by omega) s1 (fun i j hi hin hj hjn=>?_) e2 h
   rw [s2,if_pos ⟨hi,hin,hj,hjn⟩,hkk,hl,he i j (by omega) hin (by omega) hjn,he i k (by omega) hin (qA _) (by omega),he k j (qA _) (by omega) (by omega) hjn]
   have r:=stg_rec (a:=rowF N) (k:=k) (fun t ht=>hp t (by omega)) i j
   rw [←r,Int.mul_ediv_cancel_left _ (hp k (by omega))]
theorem detO_spec {B n:Nat} {N:List (List Int)} (hs:Shp n N) (hp:∀t,t<n→lead (rowF N) t≠0) {d:Int} (h:detO B N=some d):d=lead (rowF N) n:=by
 unfold detO at h
 rw [hs.len] at h
 exact detG_spec hp n 0 N 1 d (by omega) hs (fun i j _ _ _ _=>(stg_zero (rowF N) i j).symm) rfl h
theorem det_congr:∀(cs:List Nat) (R R':List Row),R.length=R'.length→(∀i,i<R.length→∀c∈cs,(R.getD i (fun _=>0)) c=(R'.getD i (fun _=>0)) c)→det cs R=det cs R':=by
 intro cs
 induction cs with
 | nil=>intro R R' hl _;cases R<;>cases R'<;>simp at hl<;>rfl
 | cons c cs ih=>
  intro R R' hl h
  have key:∀(L L' p p':List Row),L.length=L'.length→p.length=p'.length→(∀i,i<L.length→∀x∈c::cs,(L.getD i (fun _=>0)) x=(L'.getD i (fun _=>0)) x)→
    (∀i,i<p.length→∀x∈c::cs,(p.getD i (fun _=>0)) x=(p'.getD i (fun _=>0)) x)→expand (det cs) c p L=expand (det cs) c p' L':=by
   intro L
   induction L with
   | nil=>intro L' p p' h1 _ _ _;cases L' with | nil=>rfl | cons _ _=>simp at h1
   | cons v L ihL=>
    intro L' p p' h1 h2 h3 h4
    cases L' with
    | nil=>simp at h1
    | cons v' L'=>
     have hv:∀x∈c::cs,v x=v' x:=fun x hx=>by simpa using h3 0 (by simp) x hx
     have hL:∀i,i<L.length→∀x∈c::cs,(L.getD i (fun _=>0)) x=(L'.getD i (fun _=>0)) x:=fun i hi x hx=>by simpa using h3 (i+1) (by simpa using hi) x hx
     have hll:L.length=L'.length:=by simpa using h1
     simp only [expand]
     have app:∀(A A' X X':List Row),A.length=A'.length→(∀i,i<A.length→∀x∈c::cs,(A.getD i (fun _=>0)) x=(A'.getD i (fun _=>0)) x)→(∀i,i<X.length→∀x∈c::cs,(X.getD i (fun _=>0)) x=(X'.getD i (fun _=>0)) x)→
       ∀i,i<(A++X).length→∀x∈c::cs,((A++X).getD i (fun _=>0)) x=((A'++X').getD i (fun _=>0)) x:=by
      intro A A' X X' hA k1 k2 i hi x hx
      rw [qX,qX]
      rcases qC i A.length with hlt | hge
      ·rw [qM hlt,qM (by omega),←qX,←qX]
       exact k1 i hlt x hx
      ·rw [qE hge,qE (by omega),hA,←qX,←qX]
       refine k2 (i-A'.length) ?_ x hx
       rw [xQ] at hi;omega
     have e1:det cs (p++L)=det cs (p'++L'):=ih _ _ (by simp [h2,hll]) (fun i hi x hx=>app p p' L L' h2 h4 hL i hi x (List.mem_cons_of_mem _ hx))
     have e2:=ihL L' (p++[v]) (p'++[v']) hll (by simp [h2]) hL (app p p' [v] [v'] h2 h4 (fun i hi x hx=>by
      have:i=0:=by simpa using hi
      subst this
      exact hv x hx))
     rw [e1,e2,hll,hv c (by simp)]
  exact key R R' [] [] hl rfl h (fun i hi=>by simp at hi)
theorem ent_sel {M:List (List Int)} {rs cs:List Nat} {s t:Nat} (hs:s<rs.length) (ht:t<cs.length):ent (selM M rs cs) s t=ent M (rs.getD s 0) (cs.getD t 0):=by
 simp only [ent,selM,selR,qX,qN,qZ hs,qZ ht,yL,yQ]
theorem range_get {j i t:Nat} (h:t<j):(List.range j++[i]).getD t 0=t:=by
 rw [qX,qM (by simpa using h),yB h];rfl
theorem range_last {j i:Nat}:(List.range j++[i]).getD j 0=i:=by
 rw [qX,qE (by simp)];simp
theorem ent_lam {M:List (List Int)} {i j s t:Nat} (hs:s≤j) (ht:t≤j):ent (lamM M i j) s t=ent M (if s=j then i else s) t:=by
 unfold lamM
 rw [ent_sel (by simp;omega) (by simp;omega)]
 have e:(List.range j++[j]).getD t 0=t:=by
  rcases qC t j with h | h
  ·exact range_get h
  ·have:t=j:=by omega
   rw [this];exact range_last
 rw [e]
 split
 ·rename_i h;rw [h,range_last]
 ·rw [range_get (by omega)]
theorem lam_shp (M:List (List Int)) (i j:Nat):Shp (j+1) (lamM M i j):=by
 refine ⟨by simp [lamM,selM],fun t ht=>?_⟩
 simp only [lamM,selM,qX,qN]
 rw [qZ (by simpa using ht)]
 simp [selR]
theorem lam_lead {M:List (List Int)} {i j t:Nat} (ht:t≤j):lead (rowF (lamM M i j)) t=lead (rowF M) t:=by
 unfold lead
 refine det_congr _ _ _ (by rw [rowsK_len,rowsK_len]) (fun s hs c hc=>?_)
 rw [rowsK_len] at hs
 have:=mem_colsK hc
 rw [rowsK_get _ hs,rowsK_get _ hs]
 show ent (lamM M i j) s c=ent M s c
 rw [ent_lam (by omega) (by omega),if_neg (by omega)]
theorem lam_last {M:List (List Int)} {i j:Nat}:lead (rowF (lamM M i j)) (j+1)=stg (rowF M) j i j:=by
 unfold lead stg bord
 refine det_congr _ _ _ (by rw [rowsK_len,xQ,rowsK_len];rfl) (fun s hs c hc=>?_)
 rw [rowsK_len] at hs
 have hc:c≤j:=by
  rcases List.mem_cons.1 hc with e | e
  ·omega
  ·have:=mem_colsK e;omega
 rw [rowsK_get _ hs]
 show ent (lamM M i j) s c=_
 rw [ent_lam (by omega) hc,qX]
 rcases qC s j with h | h
 ·rw [if_neg (by omega),qM (by rw [rowsK_len];exact h),←qX,rowsK_get _ h];rfl
 ·have:s=j:=by omega
  subst this
  rw [if_pos rfl,qE (by rw [rowsK_len];exact qA _),rowsK_len,xB];rfl
theorem lam_spec {B i j:Nat} {M:List (List Int)} (hp:∀t,t≤j→lead (rowF M) t≠0) {d:Int} (h:detO B (lamM M i j)=some d):d=stg (rowF M) j i j:=by
 rw [←lam_last]
 exact detO_spec (lam_shp M i j) (fun t ht=>by rw [lam_lead (by omega)];exact hp t (by omega)) h
theorem minK_lam (M:List (List Int)) (k:Nat):minK M k=lamM M k k:=rfl
theorem leadL_get {B:Nat} {M:List (List Int)}:∀{n:Nat} {ds:List Int},leadL B M n=some ds→∀k,k<n→detO B (minK M k)=some (ds.getD k 0):=by
 intro n
 induction n with
 | zero=>intro ds _ k hk;omega
 | succ n ih=>
  intro ds h k hk
  have hpre:=leadL_pre (m:=1) h
  have hl:=leadL_len h
  rcases qC k n with hlt | hge
  ·have:=ih hpre k hlt
   rw [this,qX,qX,List.getElem?_take_of_lt hlt]
  ·have:k=n:=by omega
   subst this
   simp only [leadL,qG,qO] at h
   obtain ⟨l,h1,h⟩:=h
   have hl1:=leadL_len h1
   obtain ⟨d,h2,d',h3,h⟩:=h
   obtain ⟨rfl,_⟩:=ck_some h3
   subst h
   rw [qX,qE (by omega),hl1,xB]
   simpa using h2
theorem ds_lead {B n:Nat} {M:List (List Int)} {ds:List Int} (h:leadL B M n=some ds):∀k,k≤n→(∀t,t<k→0<ds.getD t 0)→(∀t,t≤k→0<lead (rowF M) t)∧∀t,t<k→ds.getD t 0=lead (rowF M) (t+1):=by
 intro k
 induction k with
 | zero=>intro _ _;exact ⟨fun t ht=>(by
  have e:t=0:=Nat.le_zero.1 ht
  rw [e,lead_zero]
  decide),fun t ht=>absurd ht (by omega)⟩
 | succ k ih=>
  intro hk hp
  obtain ⟨h1,h2⟩:=ih (by omega) (fun t ht=>hp t (by omega))
  have e:ds.getD k 0=lead (rowF M) (k+1):=by
   have:=lam_spec (i:=k) (j:=k) (fun t ht=>by have:=h1 t ht;omega) (leadL_get h k (by omega))
   rw [this,lead_stg]
  refine ⟨fun t ht=>?_,fun t ht=>?_⟩
  ·rcases qC t (k+1) with hlt | hge
   ·exact h1 t (by omega)
   ·have:t=k+1:=by omega
    rw [this,←e];exact hp k (by omega)
  ·rcases qC t k with hlt | hge
   ·exact h2 t hlt
   ·have:t=k:=by omega
    rw [this];exact e
theorem lead_ds {B n:Nat} {M:List (List Int)} {ds:List Int} (h:leadL B M n=some ds) (hp:∀t,t≤n→0<lead (rowF M) t):∀k,k<n→ds.getD k 0=lead (rowF M) (k+1):=by
 intro k hk
 have:=lam_spec (i:=k) (j:=k) (fun t ht=>by have:=hp t (by omega);omega) (leadL_get h k hk)
 rw [this,lead_stg]
theorem all_pos {ds:List Int}:(ds.all fun d=>decide (0<d))=true↔∀t,t<ds.length→0<ds.getD t 0:=by
 rw [xT]
 constructor
 ·intro h t ht
  rw [qX,qZ ht]
  exact of_decide_eq_true (h _ (xX ht))
 ·intro h d hd
  obtain ⟨t,ht,rfl⟩:=List.mem_iff_getElem.1 hd
  have:=h t ht
  rw [qX,qZ ht] at this
  exact decide_eq_true this
def szP (M:List (List Int)) (i j:Nat):Prop:=2*stg (rowF M) j i j≤lead (rowF M) (j+1)∧ -(2*stg (rowF M) j i j)≤lead (rowF M) (j+1)
def lvP (M:List (List Int)) (i:Nat):Prop:=3*(lead (rowF M) i*lead (rowF M) i)≤4*(lead (rowF M) (i-1)*lead (rowF M) (i+1)+stg (rowF M) (i-1) i (i-1)*stg (rowF M) (i-1) i (i-1))
section
variable {B n:Nat} {M:List (List Int)} {ds:List Int}
theorem minor_lead (h:leadL B M n=some ds) (hp:∀t,t≤n→0<lead (rowF M) t) {k:Nat} (hk:k≤n):minorZ ds k=lead (rowF M) k:=by
 unfold minorZ
 split
 ·rename_i e;rw [e,lead_zero]
 ·rw [lead_ds h hp (k-1) (by omega)];congr 1;omega
theorem sized_iff (h:leadL B M n=some ds) (hp:∀t,t≤n→0<lead (rowF M) t) {i j:Nat} (hj:j<n) {b:Bool} (hb:sizedO B M ds i j=some b):b=true↔szP M i j:=by
 unfold sizedO at hb
 simp only [qG,qO] at hb
 obtain ⟨l,hl,x,hx,rfl⟩:=hb
 have e:=lam_spec (fun t ht=>by have:=hp t (by omega);omega) (lamO_some hl).1
 rw [decide_eq_true_eq,minor_lead h hp (by omega),e]
 unfold szP
 omega
theorem lov_iff (h:leadL B M n=some ds) (hp:∀t,t≤n→0<lead (rowF M) t) {i:Nat} (h0:0<i) (hi:i<n) {b:Bool} (hb:lovO B M ds i=some b):b=true↔lvP M i:=by
 unfold lovO at hb
 simp only [qG,qO] at hb
 obtain ⟨l,hl,p,hp1,q,hq,s,hs,x,hx,r,hr,y,hy,rfl⟩:=hb
 have e:=lam_spec (fun t ht=>by have:=hp t (by omega);omega) (lamO_some hl).1
 obtain ⟨rfl,_⟩:=ck_some hp1
 obtain ⟨rfl,_⟩:=ck_some hq
 obtain ⟨rfl,_⟩:=ck_some hs
 obtain ⟨rfl,_⟩:=ck_some hx
 obtain ⟨rfl,_⟩:=ck_some hr
 obtain ⟨rfl,_⟩:=ck_some hy
 rw [decide_eq_true_eq,minor_lead h hp (by omega),minor_lead h hp (by omega),minor_lead h hp (by omega),e]
 exact Iff.rfl
theorem symB_iff (hs:Shp n M):symB M=true↔∀i j,i<n→j<n→rowF M i j=rowF M j i:=by
 rw [symB_true,hs.len]
 constructor
 ·intro h i j hi hj
  rcases qC j i with h1 | h1
  ·exact h i hi j h1
  ·rcases qC i j with h2 | h2
   ·exact (h j hj i h2).symm
   ·have:i=j:=by omega
    rw [this]
 ·intro h i hi j hj;exact h i j hi (by omega)
end
def Bnd (A:Nat) (M:List (List Int)):Prop:= ∀i j,(ent M i j).natAbs≤A
theorem ediv_le (x y:Int):(x/y).natAbs≤x.natAbs:=Int.natAbs_ediv_le_natAbs x y
theorem natAbs_mul_le {x y:Int} {a b:Nat} (hx:x.natAbs≤a) (hy:y.natAbs≤b):(x*y).natAbs≤a*b:=by
 rw [Int.natAbs_mul];exact xH hx hy
theorem ck_ok {B:Nat} {z:Int} (h:z.natAbs<B):ck B z=some z:=by unfold ck;rw [if_pos h]
section
variable {B n A:Nat}
theorem elJ_ok {k i:Nat} {last:Int} (hki:k<i) (hi:i<n) (hl:last≠0) (hlA:last.natAbs≤A) (hB:2*(A*A)<B) (hA:A<B):∀(m j:Nat) (M:List (List Int)),Shp n M→k<j→j+m≤n→
  (∀i' l,(ent M i' l).natAbs≤2*(A*A))→(∀l,(ent M k l).natAbs≤A)→(∀i',(ent M i' k).natAbs≤A)→(∀l,j≤l→(ent M i l).natAbs≤A)→∃fin,elJ B k i last m j M=some fin∧Shp n fin∧∀i' l,(ent fin i' l).natAbs≤2*(A*A):=by
 intro m
 induction m with
 | zero=>intro j M h _ _ h1 _ _ _;exact ⟨M,rfl,h,h1⟩
 | succ m ih=>
  intro j M h hj hm h1 h2 h3 h4
  have p:=natAbs_mul_le (h2 k) (h4 j (qA _))
  have q:=natAbs_mul_le (h3 i) (h2 j)
  have s:(ent M k k*ent M i j-ent M i k*ent M k j).natAbs≤2*(A*A):=by omega
  have t:=ediv_le (ent M k k*ent M i j-ent M i k*ent M k j) last
  have hn:newE B M k i j last=some ((ent M k k*ent M i j-ent M i k*ent M k j)/last):=by
   unfold newE
   rw [if_neg hl,ck_ok (by omega),ck_ok (by omega),ck_ok (by omega)]
   simp only [qV]
   rw [ck_ok (by omega)]
   simp only [qV]
   rw [ck_ok (by omega)]
  have es:=fun i' l=>h.ent_set (i:=i) (j:=j) (z:=(ent M k k*ent M i j-ent M i k*ent M k j)/last) hi (by omega) i' l
  simp only [elJ,hn,qV]
  refine ih (j+1) _ (h.set hi) (by omega) (by omega) (fun i' l=>?_) (fun l=>?_) (fun i'=>?_) (fun l hl=>?_)
  ·rw [es];split
   ·omega
   ·exact h1 i' l
  ·rw [es,if_neg (by omega)];exact h2 l
  ·rw [es,if_neg (by omega)];exact h3 i'
  ·rw [es,if_neg (by omega)];exact h4 l (by omega)
theorem elI_ok {k:Nat} {last:Int} (hl:last≠0) (hlA:last.natAbs≤A) (hB:2*(A*A)<B) (hA:A<B):∀(m i:Nat) (M:List (List Int)),Shp n M→k<i→i+m=n→
  (∀i' l,(ent M i' l).natAbs≤2*(A*A))→(∀l,(ent M k l).natAbs≤A)→(∀i',(ent M i' k).natAbs≤A)→(∀i' l,i≤i'→(ent M i' l).natAbs≤A)→∃fin,elI B n k last m i M=some fin∧Shp n fin∧∀i' l,(ent fin i' l).natAbs≤2*(A*A):=by
 intro m
 induction m with
 | zero=>intro i M h _ _ h1 _ _ _;exact ⟨M,rfl,h,h1⟩
 | succ m ih=>
  intro i M h hi hm h1 h2 h3 h4
  obtain ⟨M1,e1,s1,b1⟩:=elJ_ok hi (by omega) hl hlA hB hA (n-(k+1)) (k+1) M h (by omega) (by omega) h1 h2 h3 (fun l _=>h4 i l (qA _))
  obtain ⟨_,f1⟩:=elJ_spec hi (by omega) (n-(k+1)) (k+1) M M1 h (by omega) (by omega) e1
  simp only [elI,e1,qV]
  refine ih (i+1) M1 s1 (by omega) (by omega) b1 (fun l=>?_) (fun i'=>?_) (fun i' l hi'=>?_)
  ·rw [f1,if_neg (by omega)];exact h2 l
  ·rw [f1,if_neg (by omega)];exact h3 i'
  ·rw [f1,if_neg (by omega)];exact h4 i' l (by omega)
def bndS (A:Nat):Nat→Nat
 | 0=>A
 | k+1=>2*(bndS A k*bndS A k)
theorem swap_shp {M:List (List Int)} {p k:Nat} (h:Shp n M) (hp:p<n) (hk:k<n):Shp n (swapM M p k)∧∀i l,ent (swapM M p k) i l=ent M (if i=k then p else if i=p then k else i) l:=by
 have g:∀i,(swapM M p k).getD i []=M.getD (if i=k then p else if i=p then k else i) []:=by
  intro i
  unfold swapM
  rw [getD_setL (by rw [yV,h.len];exact hk)]
  split
  ·rfl
  ·rw [getD_setL (by rw [h.len];exact hp)]
   split<;>rfl
 refine ⟨⟨by simp [swapM,h.len],fun i hi=>?_⟩,fun i l=>by unfold ent;rw [g]⟩
 rw [g]
 refine h.row _ ?_
 split
 ·exact hp
 ·split<;>assumption
theorem detG_ok {A0:Nat} (hA0:1≤A0) (hB:∀k,k≤n→2*(bndS A0 k*bndS A0 k)<B):∀(m k:Nat) (M:List (List Int)) (last:Int) (neg:Bool),k+m=n→Shp n M→Bnd (bndS A0 k) M→last≠0→last.natAbs≤bndS A0 k→
  ∃d,detG B n m k M last neg=some d∧d.natAbs≤bndS A0 n:=by
 have pos:∀k,1≤bndS A0 k:=by
  intro k
  induction k with
  | zero=>exact hA0
  | succ k ih=>have:=xH ih ih;simp only [bndS];omega
 have mono:∀k,bndS A0 k≤bndS A0 (k+1):=by
  intro k
  have:=xV (bndS A0 k) (pos k)
  simp only [bndS];omega
 have monoN:∀m k,bndS A0 k≤bndS A0 (k+m):=by
  intro m
  induction m with
  | zero=>intro k;exact qA _
  | succ m ih=>intro k;exact xC (ih k) (mono (k+m))
 intro m
 induction m with
 | zero=>
  intro k M last neg hk _ _ _ hl
  have:k=n:=by omega
  subst this
  cases neg
  ·exact ⟨last,by simp [detG],hl⟩
  ·exact ⟨-last,by simp [detG],by omega⟩
 | succ m ih=>
  intro k M last neg hk hs hb hl0 hl
  simp only [detG]
  by_cases hpn:piv M k (n-k) k=n
  ·rw [if_pos hpn];exact ⟨0,rfl,by simp⟩
  ·rw [if_neg hpn]
   have hpl:=piv_le (M:=M) (k:=k) (m:=n-k) (p:=k)
   have hpne:=piv_ne (M:=M) (k:=k) (m:=n-k) (p:=k) (by omega)
   generalize hpe:piv M k (n-k) k=p at*
   obtain ⟨hs',hb',hne⟩:Shp n (if k<p then swapM M p k else M)∧Bnd (bndS A0 k) (if k<p then swapM M p k else M)∧ent (if k<p then swapM M p k else M) k k≠0:=by
    by_cases hkp:k<p
    ·rw [if_pos hkp]
     obtain ⟨g1,g2⟩:=swap_shp hs (p:=p) (k:=k) (by omega) (by omega)
     exact ⟨g1,fun i j=>by rw [g2];exact hb _ _,by rw [g2,if_pos rfl];exact hpne⟩
    ·rw [if_neg hkp]
     have:p=k:=by omega
     subst this
     exact ⟨hs,hb,hpne⟩
   generalize (if k<p then swapM M p k else M)=M1 at*
   have hB1:=hB k (by omega)
   have hA1:bndS A0 k≤2*(bndS A0 k*bndS A0 k):=mono k
   obtain ⟨M2,e2,s2,b2⟩:=elI_ok hl0 hl hB1 (by omega) (n-(k+1)) (k+1) M1 hs' (by omega) (by omega) (fun i l=>xC (hb' i l) hA1) (fun l=>hb' k l) (fun i=>hb' i k) (fun i l _=>hb' i l)
   obtain ⟨_,f2⟩:=elI_spec (n-(k+1)) (k+1) M1 M2 hs' (by omega) (by omega) e2
   have ek:ent M2 k k=ent M1 k k:=by rw [f2,if_neg (by omega)]
   rw [e2,qV]
   exact ih (k+1) M2 _ _ (by omega) s2 b2 (by rw [ek];exact hne) (by rw [ek];exact xC (hb' k k) (mono k))
theorem detO_ok {A0:Nat} {M:List (List Int)} (hA0:1≤A0) (hB:∀k,k≤n→2*(bndS A0 k*bndS A0 k)<B) (hs:Shp n M) (hb:Bnd A0 M):∃d,detO B M=some d∧d.natAbs≤bndS A0 n:=by
 unfold detO
 rw [hs.len]
 exact detG_ok hA0 hB n 0 M 1 false (by omega) hs hb (by decide) hA0
theorem bndS_pos {A0:Nat} (hA0:1≤A0):∀k,1≤bndS A0 k:=by
 intro k
 induction k with
 | zero=>exact hA0
 | succ k ih=>have:=xH ih ih;simp only [bndS];omega
theorem bndS_mono {A0:Nat} (hA0:1≤A0):∀m k,bndS A0 k≤bndS A0 (k+m):=by
 intro m
 induction m with
 | zero=>intro k;exact qA _
 | succ m ih=>
  intro k
  have:=xV (bndS A0 (k+m)) (bndS_pos hA0 (k+m))
  refine xC (ih k) ?_
  show _≤2*(bndS A0 (k+m)*bndS A0 (k+m))
  omega
structure FitN (N B A0:Nat):Prop where
 one:1≤A0
 fit:8*(bndS A0 N*bndS A0 N)<B
theorem FitN.all {N A0:Nat} (h:FitN N B A0) {k:Nat} (hk:k≤N):bndS A0 k≤bndS A0 N∧2*(bndS A0 k*bndS A0 k)<B:=by
 have m:=bndS_mono h.one (N-k) k
 have e:k+(N-k)=N:=by omega
 rw [e] at m
 have:=xH m m
 have:=h.fit
 exact ⟨m,by omega⟩
theorem FitN.lt {N A0:Nat} (h:FitN N B A0):bndS A0 N<B:=by
 have:=xV (bndS A0 N) (bndS_pos h.one N)
 have:=h.fit
 omega
theorem bnd_lam {A0:Nat} {M:List (List Int)} (hb:Bnd A0 M) (i j:Nat):Bnd A0 (lamM M i j):=by
 intro s t
 rcases qC j s with h | h
 ·have:ent (lamM M i j) s t=0:=by
   unfold ent
   have:(lamM M i j).getD s []=[]:=by
    rw [qX,xY (by simp [lamM,selM];omega)];rfl
   rw [this];rfl
  rw [this];simp
 ·rcases qC j t with h2 | h2
  ·have:ent (lamM M i j) s t=0:=by
    have hl:=(lam_shp M i j).row s (by omega)
    unfold ent
    rw [qX,xY (by omega)];rfl
   rw [this];simp
  ·rw [ent_lam h h2];exact hb _ _
theorem lam_ok {N A0:Nat} {M:List (List Int)} (hF:FitN N B A0) (hb:Bnd A0 M) {i j:Nat} (hj:j<N):∃d,detO B (lamM M i j)=some d∧d.natAbs≤bndS A0 N:=by
 obtain ⟨d,h1,h2⟩:=detO_ok (B:=B) hF.one (fun k hk=>(hF.all (k:=k) (by omega)).2) (lam_shp M i j) (bnd_lam hb i j)
 exact ⟨d,h1,xC h2 (hF.all (k:=j+1) (by omega)).1⟩
theorem leadL_ok {N A0:Nat} {M:List (List Int)} (hF:FitN N B A0) (hb:Bnd A0 M):∀k,k≤N→∃ds,leadL B M k=some ds∧∀z∈ds,z.natAbs≤bndS A0 N:=by
 intro k
 induction k with
 | zero=>intro _;exact ⟨[],rfl,fun z h=>by simp at h⟩
 | succ k ih=>
  intro hk
  obtain ⟨l,h1,h2⟩:=ih (by omega)
  obtain ⟨d,h3,h4⟩:=lam_ok hF hb (i:=k) (j:=k) (by omega)
  refine ⟨l++[d],?_,fun z hz=>?_⟩
  ·simp only [leadL,h1,qV,minK_lam,h3]
   rw [ck_ok (xR h4 hF.lt)];rfl
  ·rcases List.mem_append.1 hz with e | e
   ·exact h2 z e
   ·have:z=d:=by simpa using e
    rw [this];exact h4
theorem minor_bnd {N A0:Nat} (hF:FitN N B A0) {ds:List Int} (h:∀z∈ds,z.natAbs≤bndS A0 N) (k:Nat):(minorZ ds k).natAbs≤bndS A0 N:=by
 unfold minorZ
 split
 ·exact bndS_pos hF.one N
 ·rw [qX]
  cases e:ds[k-1]? with
  | none=>simp
  | some z=>exact h z (yU e)
theorem lamO_ok {N A0:Nat} {M:List (List Int)} (hF:FitN N B A0) (hb:Bnd A0 M) {i j:Nat} (hj:j<N):∃l,lamO B M i j=some l∧l.natAbs≤bndS A0 N:=by
 obtain ⟨d,h3,h4⟩:=lam_ok hF hb (i:=i) (j:=j) hj
 refine ⟨d,?_,h4⟩
 unfold lamO
 rw [h3,qV,ck_ok (xR h4 hF.lt)]
theorem sizedO_ok {N A0:Nat} {M:List (List Int)} {ds:List Int} (hF:FitN N B A0) (hb:Bnd A0 M) {i j:Nat} (hj:j<N):∃b,sizedO B M ds i j=some b:=by
 obtain ⟨l,h1,h2⟩:=lamO_ok hF hb (i:=i) (j:=j) hj
 have:=hF.fit
 have:=xV (bndS A0 N) (bndS_pos hF.one N)
 unfold sizedO
 rw [h1,qV,ck_ok (by omega)]
 exact ⟨_,rfl⟩
theorem lovO_ok {N A0:Nat} {M:List (List Int)} {ds:List Int} (hF:FitN N B A0) (hb:Bnd A0 M) (hd:∀z∈ds,z.natAbs≤bndS A0 N) {i:Nat} (hi:i-1<N):∃b,lovO B M ds i=some b:=by
 obtain ⟨l,h1,h2⟩:=lamO_ok hF hb (i:=i) (j:=i-1) hi
 have hf:=hF.fit
 have p:=natAbs_mul_le (minor_bnd hF hd (i-1)) (minor_bnd hF hd (i+1))
 have q:=natAbs_mul_le h2 h2
 have r:=natAbs_mul_le (minor_bnd hF hd i) (minor_bnd hF hd i)
 unfold lovO
 rw [h1,qV,ck_ok (by omega),qV,ck_ok (by omega),qV,ck_ok (by omega),qV,ck_ok (by omega),qV,ck_ok (by omega),qV,ck_ok (by omega)]
 exact ⟨_,rfl⟩
end
end Go.Proofs.YtenboapacjlmoaaGreatDoor
