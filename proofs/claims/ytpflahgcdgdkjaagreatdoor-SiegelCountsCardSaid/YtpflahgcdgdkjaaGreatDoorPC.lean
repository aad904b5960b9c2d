/- A part of the proof. -/
import Derived.Test.YtpflahgcdgdkjaaGreatDoorAL1
import Derived.Test.YtpflahgcdgdkjaaGreatDoorPB
import Derived.Test.YtpflahgcdgdkjaaGreatDoorAL60
namespace Go.Proofs.YtpflahgcdgdkjaaGreatDoor
open Nat renaming reduceEqDiff → qQ, reduceLeDiff → qW, reduceAdd → qA, lt_of_lt_of_le → qD, le_refl → qM, not_lt_zero → qR, zero_add → qT, lt_or_ge → xZ, mul_one → xV, add_sub_cancel_left → xL, sub_self → xP, mul_le_mul → yW, add_zero → yY, one_ne_zero → yD
open List renaming getD_eq_getElem?_getD → qX, getElem?_eq_getElem → qZ, getD_cons_succ → qJ, getD_cons_zero → qY, take_of_length_le → qU, getElem?_map → qG, nodup_cons → qH, getElem_map → qI, getElem?_cons_succ → qL, length_map → qN, getElem_mem → qO, drop_zero → qP, getElem?_cons_zero → qS, mem_cons → xQ, mapM_cons → xX, set_append_right → xJ, getElem?_append_right → xK, getElem?_append_left → xW, getElem?_replicate → xY, getElem?_set → xU, getElem?_eq_none → xA, range_succ → xB, replicate_succ → xC, replicate_zero → xD, length_append → xE, getElem_range → xG, mem_or_eq_of_mem_set → xH, all_eq_true → xI, ext_getElem → xN, map_set → xO, map_map → xR, length_set → xT, map_append → yQ, append_nil → yX, length_singleton → yJ, append_assoc → yU, take_add_one → yA, take_length → yB
open Go.AL.AV.closed renaming closedL → qK
open Int renaming toNat_natCast → qV
open Option renaming bind_eq_some_iff → qB, bind_some → xM, getD_some → yC
open Bool renaming and_self → qC
open Option.some renaming injEq → qE
set_option linter.unusedSimpArgs false
set_option linter.unusedVariables false
open Go Go.AL
def ck (B:Nat) (z:Int):Option Int:=if z.natAbs<B then some z else none
def ent (M:List (List Int)) (i j:Nat):Int:=(M.getD i []).getD j 0
def setM (M:List (List Int)) (i j:Nat) (z:Int):List (List Int):=M.set i ((M.getD i []).set j z)
def newE (B:Nat) (M:List (List Int)) (k i j:Nat) (last:Int):Option Int:=
 if last=0 then none else (ck B last).bind fun _=>(ck B (ent M k k*ent M i j)).bind fun p=>(ck B (ent M i k*ent M k j)).bind fun q=>(ck B (p-q)).bind fun s=>ck B (s/last)
def elJ (B k i:Nat) (last:Int):Nat→Nat→List (List Int)→Option (List (List Int))
 | 0,_,M=>some M
 | m+1,j,M=>(newE B M k i j last).bind fun z=>elJ B k i last m (j+1) (setM M i j z)
def elI (B n k:Nat) (last:Int):Nat→Nat→List (List Int)→Option (List (List Int))
 | 0,_,M=>some M
 | m+1,i,M=>(elJ B k i last (n-(k+1)) (k+1) M).bind fun M'=>elI B n k last m (i+1) M'
def piv (M:List (List Int)) (k:Nat):Nat→Nat→Nat
 | 0,p=>p
 | m+1,p=>if ent M p k=0 then piv M k m (p+1) else p
def zde (M:List (List Int)) (p k:Nat):List (List Int):=(M.set p (M.getD k [])).set k (M.getD p [])
def detG (B n:Nat):Nat→Nat→List (List Int)→Int→Bool→Option Int
 | 0,_,_,last,neg=>some (if neg then -last else last)
 | m+1,k,M,last,neg=>if piv M k (n-k) k=n then some 0 else
  (elI B n k last (n-(k+1)) (k+1) (if k<piv M k (n-k) k then zde M (piv M k (n-k) k) k else M)).bind fun M2=>detG B n m (k+1) M2 (ent M2 k k) (if k<piv M k (n-k) k then !neg else neg)
def detO (B:Nat) (M:List (List Int)):Option Int:=detG B M.length M.length 0 M 1 false
theorem zch {B:Nat} {z y:Int} (h:ck B z=some y):y=z∧z.natAbs<B:=by
 unfold ck at h
 split at h
 ·simp at h;exact ⟨h.symm,by assumption⟩
 ·simp at h
theorem zta {B:Nat} {M:List (List Int)} {k i j:Nat} {last z:Int} (h:newE B M k i j last=some z):last≠0∧last.natAbs<B∧(ent M k k*ent M i j).natAbs<B∧(ent M i k*ent M k j).natAbs<B∧(ent M k k*ent M i j-ent M i k*ent M k j).natAbs<B∧
  z=(ent M k k*ent M i j-ent M i k*ent M k j)/last∧z.natAbs<B:=by
 unfold newE at h
 split at h
 ·simp at h
 ·rename_i h0
  simp only [qB] at h
  obtain ⟨l,h1,p,h2,q,h3,s,h4,h5⟩:=h
  obtain ⟨_,k1⟩:=zch h1
  obtain ⟨rfl,k2⟩:=zch h2
  obtain ⟨rfl,k3⟩:=zch h3
  obtain ⟨rfl,k4⟩:=zch h4
  obtain ⟨rfl,k5⟩:=zch h5
  exact ⟨h0,k1,k2,k3,k4,rfl,k5⟩
theorem zcn (M:List (List Int)) (i j:Nat) (z:Int):(setM M i j z).length=M.length:=by simp [setM]
theorem qop {M:List (List Int)} {k:Nat}:∀{m p:Nat},p≤piv M k m p∧piv M k m p≤p+m:=by
 intro m
 induction m with
 | zero=>intro p;simp [piv]
 | succ m ih=>
  intro p
  simp only [piv]
  split
  ·have:=ih (p:=p+1);omega
  ·omega
theorem qvj {M:List (List Int)} {k:Nat}:∀{m p:Nat},piv M k m p<p+m→ent M (piv M k m p) k≠0:=by
 intro m
 induction m with
 | zero=>intro p h;simp only [piv] at h;omega
 | succ m ih=>
  intro p h
  simp only [piv] at h ⊢
  split
  ·rename_i h0
   rw [if_pos h0] at h
   exact ih (by omega)
  ·assumption
def selR (M:List (List Int)) (i:Nat) (cs:List Nat):List Int:=cs.map fun j=>ent M i j
def selM (M:List (List Int)) (rs cs:List Nat):List (List Int):=rs.map fun i=>selR M i cs
def minK (M:List (List Int)) (k:Nat):List (List Int):=selM M (List.range k++[k]) (List.range k++[k])
def zdk (B:Nat) (M:List (List Int)):Nat→Option (List Int)
 | 0=>some []
 | k+1=>(zdk B M k).bind fun l=>(detO B (minK M k)).bind fun d=>(ck B d).bind fun d=>some (l++[d])
def zjm (B:Nat) (M:List (List Int)):Option (List Int):=zdk B M M.length
theorem zda {B:Nat} {M:List (List Int)}:∀{k:Nat} {l:List Int},zdk B M k=some l→l.length=k:=by
 intro k
 induction k with
 | zero=>intro l h;simp only [zdk,qE] at h;rw [←h];rfl
 | succ k ih=>
  intro l h
  simp only [zdk,qB,qE] at h
  obtain ⟨l0,h1,d,_,d',_,rfl⟩:=h
  simp [ih h1]
theorem znb {B:Nat} {M:List (List Int)}:∀{k m:Nat} {l:List Int},zdk B M (k+m)=some l→zdk B M k=some (l.take k):=by
 intro k m
 induction m with
 | zero=>intro l h;have:=zda h;rw [qU (by omega)];exact h
 | succ m ih=>
  intro l h
  have h':zdk B M ((k+m)+1)=some l:=h
  simp only [zdk,qB,qE] at h'
  obtain ⟨l0,h1,d,_,d',_,rfl⟩:=h'
  rw [ih h1,List.take_append_of_le_length (by rw [zda h1];omega)]
def symB (M:List (List Int)):Bool:=(List.range M.length).all fun i=>(List.range i).all fun j=>decide (ent M i j=ent M j i)
theorem znc {M:List (List Int)}:symB M=true↔∀i,i<M.length→∀j,j<i→ent M i j=ent M j i:=by
 unfold symB
 simp only [xI,List.mem_range,decide_eq_true_eq]
def defB (M:List (List Int)) (ds:List Int):Bool:=symB M && ds.all fun d=>decide (0<d)
theorem zou {B:Nat} {M:List (List Int)}:∀{k:Nat} {l:List Int},zdk B M k=some l→∀z∈l,z.natAbs<B:=by
 intro k
 induction k with
 | zero=>intro l h;simp only [zdk,qE] at h;rw [←h];simp
 | succ k ih=>
  intro l h z hz
  simp only [zdk,qB,qE] at h
  obtain ⟨l0,h1,d,_,d',hck,rfl⟩:=h
  rcases List.mem_append.1 hz with e | e
  ·exact ih h1 z e
  ·simp at e
   have:=(zch hck)
   rw [e,this.1];exact this.2
def valZ (M:List (List Int)) (ds:List Int):Int:=if symB M=false then 4 else if defB M ds=false then 5 else 0
def zcf (ds:List Int) (k:Nat):Int:=if k=0 then 1 else ds.getD (k-1) 0
def lamM (M:List (List Int)) (i j:Nat):List (List Int):=selM M (List.range j++[i]) (List.range j++[j])
def lamO (B:Nat) (M:List (List Int)) (i j:Nat):Option Int:=(detO B (lamM M i j)).bind (ck B)
def zjn (B:Nat) (M:List (List Int)) (ds:List Int) (i j:Nat):Option Bool:=(lamO B M i j).bind fun l=>(ck B (2*l)).bind fun _=>some (decide (2*(l.natAbs:Int)≤zcf ds (j+1)))
def lovO (B:Nat) (M:List (List Int)) (ds:List Int) (i:Nat):Option Bool:=(lamO B M i (i-1)).bind fun l=>(ck B (zcf ds (i-1)*zcf ds (i+1))).bind fun p=>(ck B (l*l)).bind fun q=>(ck B (p+q)).bind fun s=>(ck B (4*s)).bind fun x=>
 (ck B (zcf ds i*zcf ds i)).bind fun r=>(ck B (3*r)).bind fun y=>some (decide (y≤x))
def redJ (B:Nat) (M:List (List Int)) (ds:List Int) (i:Nat):Nat→Nat→Option Bool
 | 0,_=>some true
 | m+1,j=>(zjn B M ds i j).bind fun b=>if b then redJ B M ds i m (j+1) else some false
def redI (B:Nat) (M:List (List Int)) (ds:List Int):Nat→Nat→Option Bool
 | 0,_=>some true
 | m+1,i=>(redJ B M ds i i 0).bind fun b=>if b=false then some false else if i=0 then redI B M ds m (i+1) else (lovO B M ds i).bind fun b=>if b then redI B M ds m (i+1) else some false
theorem zfw {B:Nat} {M:List (List Int)} {i j:Nat} {l:Int} (h:lamO B M i j=some l):detO B (lamM M i j)=some l∧l.natAbs<B:=by
 unfold lamO at h
 rw [qB] at h
 obtain ⟨d,h1,h2⟩:=h
 obtain ⟨rfl,h3⟩:=zch h2
 exact ⟨h1,h3⟩
open Go.Proofs Go.Limb
set_option maxRecDepth 100000
def DivB (B:Nat):Prop:=B≤BIG∧∀x y:Int,x.natAbs<B→y.natAbs<B→y≠0→∀m n c d,zcg m→zcg n→m.length≤1100→n.length≤1100→val m=x.natAbs→val n=y.natAbs→DivC m n c d
def pid (ps:List (Nat×Option Nat)) (i:Nat):Nat:=(ps.getD i (0,none)).1
theorem zce {ps:List (Nat×Option Nat)} {n i:Nat} (hi:i<ps.length):(ps.map (zcm n)).getD i .junk= .sl (pid ps i) 0 n 2 (ps.getD i (0,none)).2:=by
 rw [qX,qG,qZ hi]
 simp [zcm,pid,qX,hi]
theorem zer {H:Heap} {o n:Nat} {ps:List (Nat×Option Nat)} {M:List (List Int)} (h:MatH H o ps n M) {i:Nat} (hi:i<M.length):∃cs,getB H (pid ps i)=some cs∧cs.length=n*2∧RowC (M.getD i []) cs∧
  ∀j,j<n→∃u v,(cs.drop (j*2)).take 2=[u,v]∧zaw (ent M i j) (.agg [u,v]):=by
 obtain ⟨cs,h1,h2⟩:=h.rows i hi
 have hl:=zcw h2
 rw [h.cols i hi] at hl
 refine ⟨cs,h1,hl,h2,fun j hj=>?_⟩
 exact zei h2 j (by rw [h.cols i hi];exact hj)
theorem zhe {ps:List (Nat×Option Nat)} {i:Nat} (hi:i<ps.length):pid ps i∈ps.map (·.1):=by
 unfold pid
 rw [qX,qZ hi]
 exact List.mem_map.2 ⟨_,qO _,rfl⟩
theorem qfd {ps:List (Nat×Option Nat)} (hn:(ps.map (·.1)).Nodup) {i j:Nat} (hi:i<ps.length) (hj:j<ps.length) (h:pid ps i=pid ps j):i=j:=by
 unfold pid at h
 rw [qX,qZ hi,qX,qZ hj] at h
 have key:=List.pairwise_iff_getElem.1 hn
 rcases Nat.lt_trichotomy i j with hlt | he | hlt
 ·exact absurd (by rw [qI,qI];exact h) (key i j (by simpa using hi) (by simpa using hj) hlt)
 ·exact he
 ·exact absurd (by rw [qI,qI];exact h.symm) (key j i (by simpa using hj) (by simpa using hi) hlt)
theorem ziw {H:Heap} {o n:Nat} {ps:List (Nat×Option Nat)} {M:List (List Int)} (h:MatH H o ps n M) {i j:Nat} (hi:i<M.length) (hj:j<n) {z:Int} {u v:AV} (hz:zaw z (.agg [u,v])) {cs:List AV} (hcs:getB H (pid ps i)=some cs):
  MatH (H.set (pid ps i) (some (setL cs (j*2) [u,v]))) o ps n (setM M i j z):=by
 have hnd:=h.nodup
 rw [qH] at hnd
 have hoi:pid ps i≠o:=fun e=>hnd.1 (e ▸ zhe (by rw [h.len];exact hi))
 refine ⟨by rw [zat hoi];exact h.outer,by rw [zcn];exact h.len,?_,?_,h.nodup⟩
 ·intro i' hi'
  rw [zcn] at hi'
  unfold setM
  rw [qX,xU]
  split
  ·rename_i e
   subst e
   show ((M.getD i []).set j z).length=n
   rw [xT];exact h.cols i hi
  ·rw [←qX]
   exact h.cols i' hi'
 ·intro i' hi'
  rw [zcn] at hi'
  by_cases e:i=i'
  ·subst e
   obtain ⟨cs',h1,h2⟩:=h.rows i hi
   have:cs'=cs:=by
    have:=h1.symm.trans hcs
    simpa using this
   subst this
   refine ⟨_,zbm (zav hcs),?_⟩
   unfold setM
   rw [qX,List.getElem?_set_self hi]
   exact zxl h2 j z u v (by rw [h.cols i hi];exact hj) hz
  ·obtain ⟨cs',h1,h2⟩:=h.rows i' hi'
   refine ⟨cs',?_,?_⟩
   ·show getB (List.set H (pid ps i) _) (pid ps i')=_
    rw [zat (fun e'=>e (qfd hnd.2 (by rw [h.len];exact hi) (by rw [h.len];exact hi') e'))]
    exact h1
   ·unfold setM
    rw [qX,List.getElem?_set_ne e,←qX]
    exact h2
structure DS (n:Nat) (M:List (List Int)) (last:Int) (neg:Bool) (k:Nat) (E:Env) (H:Heap) (ps:List (Nat×Option Nat)) (b:Nat):Prop where
 mat:MatH H 1 ps n M
 rows:M.length=n
 e2:E 2= .ptr 0 0
 e3:E 3= .sl 1 0 n 1 (some n)
 e4:E 4= .int .i64 (n:Nat)
 e5:E 5= .ptr b 0
 e6:E 6= .bool neg
 e7:E 7= .int .i64 (k:Nat)
 last:∃u v,getB H b=some [u,v]∧zaw last (.agg [u,v])
 res:∃u v,getB H 0=some [u,v]
 nodup:(0::b::1::ps.map (·.1)).Nodup
theorem DS.frame {n k b:Nat} {M:List (List Int)} {last:Int} {neg:Bool} {E E':Env} {H:Heap} {ps:List (Nat×Option Nat)} (h:DS n M last neg k E H ps b) (hE:∀t,t<8→E' t=E t):DS n M last neg k E' H ps b:=
 ⟨h.mat,h.rows,(hE 2 (by omega)).trans h.e2,(hE 3 (by omega)).trans h.e3,(hE 4 (by omega)).trans h.e4,(hE 5 (by omega)).trans h.e5,(hE 6 (by omega)).trans h.e6,(hE 7 (by omega)).trans h.e7,h.last,h.res,h.nodup⟩
theorem zjo {E:Env} {d:Nat} {v:AV} {t:Nat} (ht:t<8) (hd:8≤d):upd E d v t=E t:=by
 unfold upd;rw [if_neg (by omega)]
theorem zao {z:Int} {u v:AV} (h:zaw z (.agg [u,v])):∃l c,u= .bool (decide (z<0))∧v= .vec (u32s l) l.length c:=by
 obtain ⟨l,c,_,_,_,e⟩:=h
 injection e with e
 injection e with e1 e2
 injection e2 with e2 _
 exact ⟨l,c,e1,e2⟩
theorem qxj {B n k i b:Nat} {last:Int} {neg:Bool} (hB:DivB B) (hn:n≤16) (hk:k<n) (hi:k<i∧i<n) {fin:List (List Int)} {Q:Post}:∀{E:Env} {H:Heap} {ps:List (Nat×Option Nat)} {M:List (List Int)},
  DS n M last neg k E H ps b→E 9= .int .i64 (i:Nat)→E 10= .int .i64 ((k+1:Nat):Int)→elJ B k i last (n-(k+1)) (k+1) M=some fin→
  (∀E' H',DS n fin last neg k E' H' ps b→E' 9= .int .i64 (i:Nat)→Q (.exit 6) E' H')→W Tryz.prog G 0 125 (.loop l98_3) E H Q:=by
 intro E H ps M hD h9 h10 hf hQ
 refine zal (fun m E H=>∃j M,j+m=n∧k<j∧DS n M last neg k E H ps b∧E 9= .int .i64 (i:Nat)∧E 10= .int .i64 (j:Nat)∧elJ B k i last m j M=some fin) (n:=n-(k+1)) ⟨k+1,M,by omega,by omega,hD,h9,h10,hf⟩ ?_
 clear hD h9 h10 hf M E H
 rintro m E H ⟨j,M,hjm,hkj,hD,h9,h10,hf⟩
 refine zaf zah ?_
 obtain ⟨hM,hrows,e2,e3,e4,e5,e6,e7,⟨lu,lv,hlast,hl⟩,⟨ru,rv,hres⟩,hnd⟩:=hD
 simp only [l98_3,r98_17,SS,reduceIte,qQ,e4,h10]
 refine ⟨fun hlt=>?_,fun hge=>?_⟩
 ·obtain ⟨m,rfl⟩:∃m',m=m'+1:=⟨m-1,by omega⟩
  have hj:j<n:=by omega
  simp only [elJ,qB] at hf
  obtain ⟨z,hz,hf⟩:=hf
  obtain ⟨b0,b1,b2,b3,b4,hzz,b5⟩:=zta hz
  obtain ⟨csi,gi,li,ri,fi⟩:=zer hM (i:=i) (by omega)
  obtain ⟨csk,gk,lk,rk,fk⟩:=zer hM (i:=k) (by omega)
  obtain ⟨u1,v1,x1,y1⟩:=fk k hk
  obtain ⟨u2,v2,x2,y2⟩:=fi j hj
  obtain ⟨u3,v3,x3,y3⟩:=fi k hk
  obtain ⟨u4,v4,x4,y4⟩:=fk j hj
  obtain ⟨p,hp,t1⟩:=zMul y1 y2 (qD b2 hB.1)
  obtain ⟨q,hq,t2⟩:=zMul y3 y4 (qD b3 hB.1)
  obtain ⟨s,hs,t3⟩:=zSub hp hq (qD b4 hB.1)
  obtain ⟨d,hd,t4⟩:=zQuo hs hl b0 (hB.2 _ _ b4 b1 b0) (by rw [←hzz];exact qD b5 hB.1)
  rw [←hzz] at hd
  have oi:=zce (ps:=ps) (n:=n) (i:=i) (by rw [hM.len];omega)
  have ok:=zce (ps:=ps) (n:=n) (i:=k) (by rw [hM.len];omega)
  have hol:(ps.map (zcm n)).length=n:=by rw [qN,hM.len];exact hrows
  have hou:=hM.outer
  have hpc:=hp.closed
  have hqc:=hq.closed
  have hsc:=hs.closed
  have w5:IntKind.i64.wrap ((j:Int)+1)=((j+1:Nat):Int):=by rw [show (j:Int)+1=((j+1:Nat):Int) by omega];exact w64 (by omega) (by omega)
  have hd0:=hd
  obtain ⟨ld,cd,_,_,_,rfl⟩:=hd0
  have hdr:(lu,lv)=(lu,lv):=rfl
  have hlast2:([lu,lv].drop 0).take 2=[lu,lv]:=rfl
  have c1:qK [.agg [u1,v1],.agg [u2,v2]]=true:=by
   simp only [qK,y1.closed,y2.closed,qC]
  have c2:qK [.agg [u3,v3],.agg [u4,v4]]=true:=by
   simp only [qK,y3.closed,y4.closed,qC]
  have c3:qK [p,q]=true:=by simp only [qK,hpc,hqc,qC]
  have c4:qK [s,.agg [lu,lv]]=true:=by simp only [qK,hsc,hl.closed,qC]
  simp only [r98_18,SS,forall_const,reduceIte,qQ,e3,e7,h9,h10,qV,hou,hol,oi,ok,gi,gk,li,lk,x1,x2]
  refine ⟨⟨by omega,by omega⟩,by omega,⟨by omega,by omega⟩,by omega,⟨by omega,by omega⟩,by omega,⟨by omega,by omega⟩,by omega,⟨by omega,by omega⟩,by omega,?_⟩
  refine zab t1 ?_ c1 hpc
  simp only [SS,forall_const,reduceIte,qQ,e3,e7,h9,h10,qV,hou,hol,oi,ok,gi,gk,li,lk,x3,x4]
  refine ⟨⟨by omega,by omega⟩,by omega,⟨by omega,by omega⟩,by omega,⟨by omega,by omega⟩,by omega,⟨by omega,by omega⟩,by omega,?_⟩
  refine zab t2 ?_ c2 hqc
  simp only [SS,reduceIte,qQ]
  refine zab t3 ?_ c3 hsc
  simp only [SS,reduceIte,qA,qQ,qW,e5,hlast]
  refine zab t4 ?_ c4
  simp only [SS,reduceIte,qA,qQ,qV,gi,li]
  refine ⟨⟨by omega,by omega⟩,by omega,rfl,?_⟩
  have hs2:((csi.set (j*2) (AV.bool (decide (z<0)))).set (j*2+1) (AV.vec (u32s ld) ld.length cd))=setL csi (j*2) [AV.bool (decide (z<0)),AV.vec (u32s ld) ld.length cd]:=rfl
  rw [hs2]
  simp only [r98_19,SS,reduceIte,qQ,h10,w5]
  have hnd2:=hnd
  simp only [qH,xQ,not_or] at hnd2
  have hpi:pid ps i∈ps.map (·.1):=zhe (by rw [hM.len];omega)
  have hpi0:pid ps i≠0:=fun e=>hnd2.1.2.2 (e ▸ hpi)
  have hpib:pid ps i≠b:=fun e=>hnd2.2.1.2 (e ▸ hpi)
  refine ⟨m,_,_,by omega,⟨j+1,setM M i j z,by omega,by omega,⟨ziw hM (by omega) hj hd gi,by rw [zcn];exact hrows,?_,?_,?_,?_,?_,?_,⟨lu,lv,?_,hl⟩,⟨ru,rv,?_⟩,hnd⟩,?_,?_,hf⟩,.refl⟩
  ·simp only [zaa,qQ,if_false,e2]
  ·simp only [zaa,qQ,if_false,e3]
  ·simp only [zaa,qQ,if_false,e4]
  ·simp only [zaa,qQ,if_false,e5]
  ·simp only [zaa,qQ,if_false,e6]
  ·simp only [zaa,qQ,if_false,e7]
  ·rw [zat hpib];exact hlast
  ·rw [zat hpi0];exact hres
  ·simp only [zaa,qQ,if_false,h9]
  ·simp only [zaa,qQ,reduceIte,if_false]
 ·have hk2:m=0:=by omega
  subst hk2
  simp only [elJ,qE] at hf
  subst hf
  refine hQ _ _ (DS.frame (E:=E) ⟨hM,hrows,e2,e3,e4,e5,e6,e7,⟨lu,lv,hlast,hl⟩,⟨ru,rv,hres⟩,hnd⟩ (fun t ht=>?_)) ?_
  ·repeat rw [zjo ht (by decide)]
  ·simp only [zaa,qQ,if_false,h9]
theorem qvk {B n k b:Nat} {last:Int} {neg:Bool} (hB:DivB B) (hn:n≤16) (hk:k<n) {fin:List (List Int)} {Q:Post} {E:Env} {H:Heap} {ps:List (Nat×Option Nat)} {M:List (List Int)}
  (hD:DS n M last neg k E H ps b) (h9:E 9= .int .i64 ((k+1:Nat):Int)) (hf:elI B n k last (n-(k+1)) (k+1) M=some fin)
  (hQ:∀E' H',DS n fin last neg k E' H' ps b→Q (.exit 4) E' H'):W Tryz.prog G 0 125 (.loop l98_2) E H Q:=by
 refine zal (fun m E H=>∃i M,i+m=n∧k<i∧DS n M last neg k E H ps b∧E 9= .int .i64 (i:Nat)∧elI B n k last m i M=some fin) (n:=n-(k+1)) ⟨k+1,M,by omega,by omega,hD,h9,hf⟩ ?_
 clear hD h9 hf M E H
 rintro m E H ⟨i,M,him,hki,hD,h9,hf⟩
 refine zaf zah ?_
 have hD0:=hD
 obtain ⟨hM,hrows,e2,e3,e4,e5,e6,e7,hlast,hres,hnd⟩:=hD
 simp only [l98_2,r98_15,SS,reduceIte,qQ,e4,h9]
 refine ⟨fun hlt=>?_,fun hge=>?_⟩
 ·obtain ⟨m,rfl⟩:∃m',m=m'+1:=⟨m-1,by omega⟩
  simp only [elI,qB] at hf
  obtain ⟨M',hf1,hf2⟩:=hf
  have w5:IntKind.i64.wrap ((i:Int)+1)=((i+1:Nat):Int):=by rw [show (i:Int)+1=((i+1:Nat):Int) by omega];exact w64 (by omega) (by omega)
  have w6:IntKind.i64.wrap ((k:Int)+1)=((k+1:Nat):Int):=by rw [show (k:Int)+1=((k+1:Nat):Int) by omega];exact w64 (by omega) (by omega)
  simp only [r98_16,SS,reduceIte,qQ,e7,w6]
  refine qxj hB hn hk ⟨hki,by omega⟩ (ps:=ps) (b:=b) (last:=last) (neg:=neg) (i:=i) (hD0.frame (fun t ht=>?_)) ?_ ?_ hf1 (fun E1 H1 hD1 f9=>?rest)
  case rest=>
   simp only [r98_20,SS,reduceIte,qQ,f9,w5]
   refine ⟨m,_,_,by omega,⟨i+1,M',by omega,by omega,hD1.frame (fun t ht=>?_),?_,hf2⟩,.refl⟩
   ·repeat rw [zjo ht (by decide)]
   ·simp only [zaa,qQ,reduceIte,if_false]
  ·repeat rw [zjo ht (by decide)]
  ·simp only [zaa,qQ,if_false,h9]
  ·simp only [zaa,qQ,reduceIte,if_false]
 ·have hk2:m=0:=by omega
  subst hk2
  simp only [elI,qE] at hf
  subst hf
  refine hQ _ _ (hD0.frame (fun t ht=>?_))
  repeat rw [zjo ht (by decide)]
theorem qxk {n k b:Nat} {last:Int} {neg:Bool} (hn:n≤16) (hk:k<n) {Q:Post} {E:Env} {H:Heap} {ps:List (Nat×Option Nat)} {M:List (List Int)}
  (hD:DS n M last neg k E H ps b) (h8:E 8= .int .i64 (k:Nat))
  (hQ:∀E',DS n M last neg k E' H ps b→E' 8= .int .i64 (piv M k (n-k) k:Nat)→Q (.exit 2) E' H):W Tryz.prog G 0 125 (.loop l98_1) E H Q:=by
 refine zal (fun m E H'=>∃p,p+m=n∧k≤p∧H'=H∧DS n M last neg k E H ps b∧E 8= .int .i64 (p:Nat)∧piv M k m p=piv M k (n-k) k) (n:=n-k) ⟨k,by omega,by omega,rfl,hD,h8,rfl⟩ ?_
 clear hD h8 E
 rintro m E H' ⟨p,hpm,hkp,rfl,hD,h8,hp⟩
 refine zaf zah ?_
 have hD0:=hD
 obtain ⟨hM,hrows,e2,e3,e4,e5,e6,e7,hlast,hres,hnd⟩:=hD
 cases m with
 | zero=>
  have d1:decide ((p:Int)<(n:Nat))=false:=decide_eq_false (by omega)
  simp only [l98_1,r98_7,SS,forall_const,reduceIte,qQ,e4,h8,d1]
  simp only [piv] at hp
  refine hQ _ (hD0.frame (fun t ht=>?_)) ?_
  ·repeat rw [zjo ht (by decide)]
  ·simp only [zaa,qQ,if_false,h8,hp]
 | succ m=>
  have d1:decide ((p:Int)<(n:Nat))=true:=decide_eq_true (by omega)
  obtain ⟨csp,gp,lp,rp,fp⟩:=zer hM (i:=p) (by omega)
  obtain ⟨u,v,x,y⟩:=fp k hk
  have op:=zce (ps:=ps) (n:=n) (i:=p) (by rw [hM.len];omega)
  have hol:(ps.map (zcm n)).length=n:=by rw [qN,hM.len];exact hrows
  have hou:=hM.outer
  have t:=zsw y
  have c1:qK [.agg [u,v]]=true:=by simp only [qK,y.closed,qC]
  have w5:IntKind.i64.wrap ((p:Int)+1)=((p+1:Nat):Int):=by rw [show (p:Int)+1=((p+1:Nat):Int) by omega];exact w64 (by omega) (by omega)
  simp only [l98_1,r98_7,SS,forall_const,reduceIte,qQ,e3,e4,e7,h8,d1,qV,hou,hol,op,gp,lp,x]
  refine ⟨⟨by omega,by omega⟩,by omega,⟨by omega,by omega⟩,by omega,?_⟩
  refine zab t ?_ c1
  simp only [SS,forall_const,reduceIte,qQ]
  simp only [piv] at hp
  refine ⟨fun h0=>?_,fun h0=>?_⟩
  ·have h0:ent M p k=0:=Int.sign_eq_zero_iff_zero.1 h0
   rw [if_pos h0] at hp
   simp only [r98_8,SS,reduceIte,qQ,h8,w5]
   refine ⟨m,_,_,by omega,⟨p+1,by omega,by omega,rfl,hD0.frame (fun t ht=>?_),?_,hp⟩,.refl⟩
   ·repeat rw [zjo ht (by decide)]
   ·simp only [zaa,qQ,reduceIte,if_false]
  ·have h0:¬ent M p k=0:=fun e=>h0 (by rw [e];rfl)
   rw [if_neg h0] at hp
   refine hQ _ (hD0.frame (fun t ht=>?_)) ?_
   ·repeat rw [zjo ht (by decide)]
   ·simp only [zaa,qQ,if_false,h8,hp]
def zfg (ps:List (Nat×Option Nat)) (p k:Nat):List (Nat×Option Nat):=(ps.set p (ps.getD k (0,none))).set k (ps.getD p (0,none))
theorem znd {α:Type} {l:List α} {p k i:Nat} {d:α} (hp:p<l.length) (hk:k<l.length):((l.set p (l.getD k d)).set k (l.getD p d)).getD i d=l.getD (if i=k then p else if i=p then k else i) d:=by
 rw [qX,xU]
 by_cases h1:k=i
 ·subst h1
  rw [if_pos rfl,if_pos (by simpa using hk),if_pos rfl];rfl
 ·rw [if_neg h1,if_neg (fun e=>h1 e.symm),xU]
  by_cases h2:p=i
  ·subst h2
   rw [if_pos rfl,if_pos hp,if_pos rfl];rfl
  ·rw [if_neg h2,if_neg (fun e=>h2 e.symm),qX]
theorem zxp {H:Heap} {o n:Nat} {ps:List (Nat×Option Nat)} {M:List (List Int)} (h:MatH H o ps n M) {p k:Nat} (hp:p<M.length) (hk:k<M.length):
  MatH (H.set o (some (((ps.map (zcm n)).set p (.sl (pid ps k) 0 n 2 (ps.getD k (0,none)).2)).set k (.sl (pid ps p) 0 n 2 (ps.getD p (0,none)).2)))) o (zfg ps p k) n (zde M p k)∧(∀x,x∈(zfg ps p k).map (·.1)↔x∈ps.map (·.1))∧((zfg ps p k).map (·.1)).Nodup:=by
 have hnd:=h.nodup
 rw [qH] at hnd
 have hlen:=h.len
 have hidx:∀i,i<M.length→(if i=k then p else if i=p then k else i)<M.length:=by
  intro i hi;split
  ·exact hp
  ·split<;>omega
 have hpid:∀i,pid (zfg ps p k) i=pid ps (if i=k then p else if i=p then k else i):=by
  intro i
  unfold pid zfg
  rw [znd (by omega) (by omega)]
 have hsl:(zfg ps p k).length=ps.length:=by simp [zfg]
 have hmem:∀x,x∈(zfg ps p k).map (·.1)↔x∈ps.map (·.1):=by
  intro x
  constructor
  ·intro hx
   obtain ⟨q,hq,rfl⟩:=List.mem_map.1 hx
   unfold zfg at hq
   rcases xH hq with hq | rfl
   ·rcases xH hq with hq | rfl
    ·exact List.mem_map.2 ⟨q,hq,rfl⟩
    ·exact zhe (i:=k) (by omega)
   ·exact zhe (i:=p) (by omega)
  ·intro hx
   obtain ⟨q,hq,rfl⟩:=List.mem_map.1 hx
   obtain ⟨i,hi,rfl⟩:=List.mem_iff_getElem.1 hq
   have e:=hpid (if i=k then p else if i=p then k else i)
   have e2:(if (if i=k then p else if i=p then k else i)=k then p else if (if i=k then p else if i=p then k else i)=p then k else (if i=k then p else if i=p then k else i))=i:=by
    by_cases h1:i=k
    ·subst h1
     rw [if_pos rfl]
     by_cases h2:p=i
     ·rw [if_pos h2];exact h2
     ·rw [if_neg h2,if_pos rfl]
    ·rw [if_neg h1]
     by_cases h2:i=p
     ·subst h2
      rw [if_pos rfl,if_pos rfl]
     ·rw [if_neg h2,if_neg h1,if_neg h2]
   rw [e2] at e
   have e3:pid ps i=ps[i].1:=by unfold pid;rw [qX,qZ hi];rfl
   rw [←e3,←e]
   exact zhe (by rw [hsl,hlen];exact hidx i (by omega))
 have hnd2:((zfg ps p k).map (·.1)).Nodup:=by
  refine List.pairwise_iff_getElem.2 (fun i j hi hj hij=>?_)
  rw [qI,qI]
  simp only [qN,hsl] at hi hj
  have e1:(zfg ps p k)[i]'(by rw [hsl];exact hi)=(zfg ps p k).getD i (0,none):=by rw [qX,qZ (by rw [hsl];exact hi)];rfl
  have e2:(zfg ps p k)[j]'(by rw [hsl];exact hj)=(zfg ps p k).getD j (0,none):=by rw [qX,qZ (by rw [hsl];exact hj)];rfl
  rw [e1,e2]
  intro e
  have e':pid (zfg ps p k) i=pid (zfg ps p k) j:=e
  rw [hpid,hpid] at e'
  have:=qfd hnd.2 (by rw [hlen];exact hidx i (by omega)) (by rw [hlen];exact hidx j (by omega)) e'
  revert this
  by_cases h1:i=k
  ·by_cases h3:j=p
   ·rw [if_pos h1,if_neg (show ¬j=k by omega),if_pos h3];omega
   ·rw [if_pos h1,if_neg (show ¬j=k by omega),if_neg h3];omega
  ·by_cases h2:i=p
   ·by_cases h3:j=k
    ·rw [if_neg h1,if_pos h2,if_pos h3];omega
    ·rw [if_neg h1,if_pos h2,if_neg h3,if_neg (show ¬j=p by omega)];omega
   ·by_cases h3:j=k
    ·rw [if_neg h1,if_neg h2,if_pos h3];omega
    ·by_cases h4:j=p
     ·rw [if_neg h1,if_neg h2,if_neg h3,if_pos h4];omega
     ·rw [if_neg h1,if_neg h2,if_neg h3,if_neg h4];omega
 refine ⟨⟨?_,?_,?_,?_,?_⟩,hmem,hnd2⟩
 ·rw [zbm (zav h.outer)]
  have e1:AV.sl (pid ps k) 0 n 2 (ps.getD k (0,none)).2=zcm n (ps.getD k (0,none)):=rfl
  have e2:AV.sl (pid ps p) 0 n 2 (ps.getD p (0,none)).2=zcm n (ps.getD p (0,none)):=rfl
  rw [e1,e2,←xO,←xO];rfl
 ·rw [hsl,hlen];simp [zde]
 ·intro i hi
  have hi:i<M.length:=by simpa [zde] using hi
  unfold zde
  rw [znd hp hk]
  exact h.cols _ (hidx i hi)
 ·intro i hi
  have hi:i<M.length:=by simpa [zde] using hi
  obtain ⟨cs,h1,h2⟩:=h.rows _ (hidx i hi)
  refine ⟨cs,?_,?_⟩
  ·show getB _ (pid (zfg ps p k) i)=_
   have hne:o≠pid ps (if i=k then p else if i=p then k else i):=fun e=>hnd.1 (by rw [e];exact zhe (by rw [hlen];exact hidx i hi))
   rw [hpid,zat hne]
   exact h1
  ·unfold zde
   rw [znd hp hk]
   exact h2
 ·rw [qH]
  exact ⟨fun hm=>hnd.1 ((hmem _).1 hm),hnd2⟩
def zov:Nat→Nat→List Nat
 | 0,_=>[]
 | f+1,n=>if n=0 then [] else n%4294967296::zov f (n/4294967296)
def zci (n:Nat):List Nat:=zov n n
theorem ztc:∀f n,n≤f→zcg (zov f n)∧val (zov f n)=n:=by
 intro f
 induction f with
 | zero=>intro n h;have:n=0:=by omega
         subst this;exact ⟨zcg.nil,rfl⟩
 | succ f ih=>
  intro n h
  unfold zov
  by_cases h0:n=0
  ·rw [if_pos h0,h0];exact ⟨zcg.nil,rfl⟩
  ·rw [if_neg h0]
   obtain ⟨h1,h2⟩:=ih (n/4294967296) (by omega)
   refine ⟨⟨Dig.cons (Nat.mod_lt _ (by decide)) h1.1,?_⟩,?_⟩
   ·cases e:zov f (n/4294967296) with
    | nil=>
     rw [e] at h2
     have:n/4294967296=0:=h2.symm
     show n%4294967296≠0
     omega
    | cons d r=>
     have:=h1.2
     rw [e] at this
     exact this
   ·rw [Limb.val,h2];omega
theorem zcc (n:Nat):zcg (zci n):=(ztc n n (qM _)).1
theorem zcx (n:Nat):val (zci n)=n:=(ztc n n (qM _)).2
def intV (z:Int):AV:= .agg [.bool (decide (z<0)),.vec (u32s (zci z.natAbs)) (zci z.natAbs).length none]
theorem qfe (l:List Nat):AV.wk.wkL (u32s l)=u32s l:=by
 induction l with
 | nil=>rfl
 | cons d l ih=>show AV.wk (.int .u32 d)::AV.wk.wkL (u32s l)=_;rw [ih];rfl
theorem zaw.wk {z:Int} {a:AV} (h:zaw z a):a.wk=intV z:=by
 obtain ⟨l,c,hc,_,hv,rfl⟩:=h
 have:l=zci z.natAbs:=zji hc (zcc _) (hv.trans (zcx _).symm)
 subst this
 simp only [AV.wk,AV.wk.wkL,qfe,intV]
theorem zbr {z:Int} (h:z.natAbs<BIG):zaw z (intV z):=
 ⟨zci z.natAbs,none,zcc _,canon_len (zcc _) (by rw [zcx];exact h),zcx _,rfl⟩
theorem zbp (k i:Nat):zan [] k i=k+i:=by simp [zan]
theorem zgi {H:Heap} (σ:Nat→Nat) (hσ:∀i,σ i=H.length+i):∀(L X:Heap),zag (effs σ X.length L) (H++(X++List.replicate L.length none))=H++(X++L.map (renB σ)):=by
 intro L
 induction L with
 | nil=>intro X;simp [effs,zag]
 | cons c L ih=>
  intro X
  simp only [effs,zag,List.length_cons,xC]
  have e:(H++(X++none::List.replicate L.length none)).set (σ X.length) (renB σ c)=H++((X++[renB σ c])++List.replicate L.length none):=by
   rw [hσ,xJ _ _ (by omega),xL,xJ _ _ (qM _),xP]
   simp
  rw [e]
  have:=ih (X++[renB σ c])
  rw [xE,yJ] at this
  rw [this]
  simp
theorem zdt {f:FuncId} {args:List AV} {v:AV} {H H0:Heap} {K:AV→Eff→List Nat→Nat→Prop} (h:Ret Tryz.prog G f args [] v H0) (ha:qK args=true)
  (hk:K (v.ren (zan [] H.length)) (effs (zan [] H.length) 0 H0) [] H0.length):zmr Tryz.prog G f args H K:=by
 refine ⟨_,_,_,_,?_,hk⟩
 have:=CallR0.mk (P:= Tryz.prog) (Γ:=G) (f:=f) (args:=args) (k:=H.length) (H:=H++List.replicate H0.length none) [] args [] v H0 h rfl .nil (by simp) (zbb _ _ ha).symm (zbt _ _ ha) (by intro i c h;simp at h)
 exact .base this
theorem zxq {H L:Heap} {σ:Nat→Nat} {i:Nat} {cs:List AV} (h:getB L i=some cs):getB (H++L.map (renB σ)) (H.length+i)=some (cs.map (AV.ren σ)):=by
 unfold getB at h ⊢
 rw [xK (by omega),xL,qG]
 cases hx:L[i]? with
 | none=>rw [hx] at h;simp at h
 | some c=>
  rw [hx] at h
  cases c with
  | none=>simp at h
  | some c=>simp at h;subst h;rfl
theorem zjp {H L:Heap} {n:Nat} {ps:List (Nat×Option Nat)} {M:List (List Int)} (h:MatH L 0 ps n M):MatH (H++L.map (renB (zan [] H.length))) H.length (ps.map fun p=>(H.length+p.1,p.2)) n M:=by
 have hp:∀i,i<ps.length→pid (ps.map fun p=>(H.length+p.1,p.2)) i=H.length+pid ps i:=by
  intro i hi
  unfold pid
  rw [qX,qG,qZ hi,qX,qZ hi];rfl
 refine ⟨?_,by rw [qN];exact h.len,h.cols,?_,?_⟩
 ·have:=zxq (H:=H) (σ:=zan [] H.length) h.outer
  rw [yY] at this
  rw [this,xR,xR]
  have e:(AV.ren (zan [] H.length) ∘ zcm n)=(zcm n ∘ fun p=>(H.length+p.1,p.2)):=by
   funext p
   simp [zcm,AV.ren,zbp]
  rw [e]
 ·intro i hi
  obtain ⟨cs,h1,h2⟩:=h.rows i hi
  refine ⟨cs,?_,h2⟩
  show getB _ (pid _ i)=_
  have h1':getB L (pid ps i)=some cs:=h1
  rw [hp i (by rw [h.len];exact hi),zxq h1',zbb _ _ (zvq h2)]
 ·have hnd:=h.nodup
  rw [qH] at hnd ⊢
  rw [xR]
  refine ⟨?_,?_⟩
  ·intro hm
   obtain ⟨p,hp,e⟩:=List.mem_map.1 hm
   have e:H.length+p.1=H.length:=e
   exact hnd.1 (List.mem_map.2 ⟨p,hp,by omega⟩)
  ·refine List.pairwise_iff_getElem.2 (fun i j hi hj hij=>?_)
   have:=List.pairwise_iff_getElem.1 hnd.2 i j (by simpa using hi) (by simpa using hj) hij
   rw [qI,qI] at this ⊢
   simp only [Function.comp]
   omega
theorem qro {H X:Heap} {o n:Nat} {ps:List (Nat×Option Nat)} {M:List (List Int)} (h:MatH H o ps n M):MatH (H++X) o ps n M:=
 ⟨by rw [zej (zav h.outer)];exact h.outer,h.len,h.cols,fun i hi=>by
  obtain ⟨cs,h1,h2⟩:=h.rows i hi
  exact ⟨cs,by rw [zej (zav h1)];exact h1,h2⟩,h.nodup⟩
theorem ztd {H:Heap} {o n x:Nat} {y:Option (List AV)} {ps:List (Nat×Option Nat)} {M:List (List Int)} (h:MatH H o ps n M) (h1:x≠o) (h2:x∉ps.map (·.1)):MatH (H.set x y) o ps n M:=
 ⟨by rw [zat h1];exact h.outer,h.len,h.cols,fun i hi=>by
  obtain ⟨cs,g1,g2⟩:=h.rows i hi
  refine ⟨cs,?_,g2⟩
  have hne:x≠(ps.getD i (0,none)).1:=fun e=>h2 (by rw [e];exact zhe (ps:=ps) (by rw [h.len];exact hi))
  rw [zat hne];exact g1,h.nodup⟩
theorem mDet {B:Nat} {M:List (List Int)} {a:AV} {d:Int} (hB:DivB B) (h:MatV M a) (hN:1≤M.length∧M.length≤16) (hc:∀i,i<M.length→(M.getD i []).length=M.length) (hd:detO B M=some d):
  Ret Tryz.prog G 98 [a] [] (intV d) []:=by
 obtain ⟨ps0,L,hL,tc⟩:=qvi h ⟨hN.1,hN.2⟩ hN.2 hc
 obtain ⟨v1,hv1,ts⟩:=zfu 1 (by omega) (by omega)
 have ha:qK [a]=true:=by
  obtain ⟨rows,c,rfl,_⟩:=h;rfl
 have hv1':=hv1
 obtain ⟨l1,c1,_,_,_,rfl⟩:=hv1'
 refine zes zah Tryz.func98 comp98 _ 125 res98 nt98 (by simp) (by simp) ?_
 simp only [c98,r98_0,r98_1,SS,reduceCtorEq,reduceIte]
 refine zdt tc ha ?_
 simp only [zba,SS,reduceIte,qQ,AV.ren,zbp,yY]
 have hH1:zag (effs (zan [] 1) 0 L) (some [AV.bool false,AV.vec [] 0 (some 0)]::List.replicate (List.length L) none)=some [AV.bool false,AV.vec [] 0 (some 0)]::L.map (renB (zan [] 1)):=
  zgi (H:=[some [AV.bool false,AV.vec [] 0 (some 0)]]) (zan [] 1) (fun i=>zbp 1 i) L []
 rw [hH1]
 have hM1:MatH (some [AV.bool false,AV.vec [] 0 (some 0)]::L.map (renB (zan [] 1))) 1 (ps0.map fun p=>(1+p.1,p.2)) M.length M:=zjp (H:=[some [AV.bool false,AV.vec [] 0 (some 0)]]) hL
 generalize hHH:(some [AV.bool false,AV.vec [] 0 (some 0)]::L.map (renB (zan [] 1)):Heap)=H1 at*
 have g0:getB H1 0=some [AV.bool false,AV.vec [] 0 (some 0)]:=by rw [←hHH];rfl
 have hlt0:=zav g0
 simp only [r98_2,r98_3,SS,reduceIte,qQ]
 refine zab ts ?_
 simp only [SS,reduceIte,qA,qQ,qW,zdy,zqr]
 simp only [r98_4,SS]
 have hlast0:=hv1
 have hM2:=qro (X:=[some [AV.bool (decide ((1:Int)<0)),AV.vec (u32s l1) l1.length c1]]) hM1
 have hids:∀x∈(ps0.map fun p=>(1+p.1,p.2)).map (·.1),2≤x∧x<H1.length:=by
  intro x hx
  have hnd:=hL.nodup
  rw [qH] at hnd
  rw [xR] at hx
  obtain ⟨p,hp,rfl⟩:=List.mem_map.1 hx
  have hp0:p.1≠0:=fun e=>hnd.1 (List.mem_map.2 ⟨p,hp,e⟩)
  refine ⟨by show 2≤1+p.1;omega,?_⟩
  obtain ⟨i,hi,e⟩:=List.mem_iff_getElem.1 hp
  obtain ⟨cs,h1,_⟩:=hM1.rows i (by rw [←hL.len];exact hi)
  have:=zav h1
  rw [qX,qG,qZ hi,e] at this
  exact this
 have hnd0:(0::H1.length::1::(ps0.map fun p=>(1+p.1,p.2)).map (·.1)).Nodup:=by
  have hn1:=hM1.nodup
  have h1lt:=zav hM1.outer
  rw [qH,qH]
  refine ⟨?_,?_,hn1⟩
  ·intro hm
   rcases List.mem_cons.1 hm with e | hm
   ·omega
   ·rcases List.mem_cons.1 hm with e | hm
    ·omega
    ·have:=hids _ hm;omega
  ·intro hm
   rcases List.mem_cons.1 hm with e | hm
   ·omega
   ·have:=hids _ hm;omega
 refine zal (fun m E H=>∃k M' last neg ps,k+m=M.length∧DS M.length M' last neg k E H ps H1.length∧detG B M.length m k M' last neg=some d) (n:=M.length) ⟨0,M,1,false,_,by omega,⟨hM2,rfl,?_,?_,?_,?_,?_,?_,⟨_,_,zdy,hlast0⟩,⟨_,_,(zej hlt0).trans g0⟩,hnd0⟩,hd⟩ ?_
 ·simp only [zaa,zac,qJ,qQ,reduceIte,if_false]
 ·simp only [zaa,zac,qJ,qQ,reduceIte,if_false]
 ·simp only [zaa,zac,qJ,qQ,reduceIte,if_false]
 ·simp only [zaa,zac,qJ,qQ,reduceIte,if_false]
 ·simp only [zaa,zac,qJ,qQ,reduceIte,if_false]
 ·simp only [zaa,zac,qJ,qQ,reduceIte,if_false];rfl
 rintro m E H ⟨k,M',last,neg,ps,hkm,hD,hdet⟩
 have hD0:=hD
 obtain ⟨hM,hrows,e2,e3,e4,e5,e6,e7,⟨lu,lv,hlast,hl⟩,⟨ru,rv,hres⟩,hnd⟩:=hD
 refine zaf zah ?_
 simp only [l98_0,r98_5,SS,reduceCtorEq,reduceIte,qQ,e4,e7]
 refine ⟨fun hlt=>?_,fun hge=>?_⟩
 ·obtain ⟨m,rfl⟩:∃m',m=m'+1:=⟨m-1,by omega⟩
  have hk:k<M.length:=by omega
  simp only [detG] at hdet
  have hpl:=qop (M:=M') (k:=k) (m:=M.length-k) (p:=k)
  have w6:IntKind.i64.wrap ((k:Int)+1)=((k+1:Nat):Int):=by rw [show (k:Int)+1=((k+1:Nat):Int) by omega];exact w64 (by omega) (by omega)
  simp only [r98_6,SS,reduceIte,qQ,e7]
  refine qxk hN.2 hk (hD0.frame (fun t ht=>?_)) ?_ (fun E1 hD1 f8=>?rest)
  case rest=>
   generalize hpv:piv M' k (M.length-k) k=p at*
   have hD10:=hD1
   obtain ⟨hM3,hrows3,f2,f3,f4,f5,f6,f7,⟨lu3,lv3,hlast3,hl3⟩,⟨ru3,rv3,hres3⟩,hnd3⟩:=hD1
   simp only [r98_9,SS,reduceCtorEq,reduceIte,qQ,f4,f8]
   refine ⟨fun hpn=>?_,fun hpn=>?_⟩
   ·have hpn:p=M.length:=by omega
    rw [if_pos hpn,qE] at hdet
    subst hdet
    simp only [r98_10,SS,reduceIte,qA,qQ,qW,f2,hres3]
    refine ⟨.inl trivial,_,_,zev (id:=0) (by simp only [zaa,qQ,if_false,f2]) (zbm (zav hres3)),.drop _ _ rfl (by intro i cs h;omega),rfl⟩
   ·have hpn:p≠M.length:=by omega
    rw [if_neg hpn,qB] at hdet
    obtain ⟨M2,hel,hdet⟩:=hdet
    by_cases hkp:k<p
    ·rw [if_pos hkp] at hel hdet
     have d1:decide ((k:Int)<(p:Nat))=true:=decide_eq_true (by omega)
     have ok3:=zce (ps:=ps) (n:=M.length) (i:=k) (by rw [hM3.len];omega)
     have op3:=zce (ps:=ps) (n:=M.length) (i:=p) (by rw [hM3.len];omega)
     have hol3:(ps.map (zcm M.length)).length=M.length:=by rw [qN,hM3.len];exact hrows3
     have hou3:=hM3.outer
     obtain ⟨hMs,hmem,hnds⟩:=zxp hM3 (p:=p) (k:=k) (by omega) (by omega)
     simp only [r98_11,SS,forall_const,reduceIte,qQ,f7,f8,d1]
     simp only [r98_12,SS,forall_const,reduceIte,qQ,f3,f7,f8,qV,hou3,hol3,ok3,op3]
     have gs:getB (List.set H 1 (some ((List.map (zcm M.length) ps).set p (AV.sl (pid ps k) 0 M.length 2 (ps.getD k (0,none)).snd)))) 1=some ((List.map (zcm M.length) ps).set p (AV.sl (pid ps k) 0 M.length 2 (ps.getD k (0,none)).snd)):=zbm (zav hou3)
     simp only [SS,gs,xT,hol3,List.set_set]
     refine ⟨⟨by omega,by omega⟩,by omega,⟨by omega,by omega⟩,by omega,⟨by omega,by omega⟩,by omega,⟨by omega,by omega⟩,by omega,rfl,?_⟩
     simp only [r98_13,SS,reduceIte,qQ,f6]
     simp only [r98_14,SS,reduceIte,qQ,f7,w6]
     have hnd6:=hnd3
     simp only [qH,xQ,not_or] at hnd6
     have hnd7:(0::H1.length::1::(zfg ps p k).map (·.1)).Nodup:=by
      simp only [qH,xQ,not_or]
      exact ⟨⟨hnd6.1.1,hnd6.1.2.1,fun hm=>hnd6.1.2.2 ((hmem _).1 hm)⟩,⟨hnd6.2.1.1,fun hm=>hnd6.2.1.2 ((hmem _).1 hm)⟩,fun hm=>hnd6.2.2.1 ((hmem _).1 hm),hnds⟩
     refine qvk hB hN.2 hk (ps:=zfg ps p k) (b:=H1.length) (last:=last) (neg:=!neg) (M:=zde M' p k) ⟨hMs,by simp [zde,hrows3],?_,?_,?_,?_,?_,?_,⟨lu3,lv3,?_,hl3⟩,⟨ru3,rv3,?_⟩,hnd7⟩ ?_ hel (fun E3 H3 hD3=>?rest2)
     case rest2=>
      obtain ⟨hM4,hrows4,g2,g3,g4,g5,g6,g7,⟨lu4,lv4,hlast4,hl4⟩,⟨ru4,rv4,hres4⟩,hnd4⟩:=hD3
      obtain ⟨csk,gk,lk,rk,fk⟩:=zer hM4 (i:=k) (by omega)
      obtain ⟨u,v,hx,hy⟩:=fk k hk
      have ok:=zce (ps:=zfg ps p k) (n:=M.length) (i:=k) (by rw [hM4.len];omega)
      have hol:((zfg ps p k).map (zcm M.length)).length=M.length:=by rw [qN,hM4.len];exact hrows4
      have hou:=hM4.outer
      obtain ⟨ly,cy,hy1,hy2⟩:=zao hy
      subst hy1 hy2
      simp only [r98_21,SS,forall_const,reduceCtorEq,reduceIte,qA,qQ,qW,g3,g5,g7,qV,hou,hol,ok,gk,lk,hx,hlast4]
      refine ⟨⟨by omega,by omega⟩,by omega,⟨by omega,by omega⟩,by omega,?_⟩
      simp only [r98_22,SS,reduceIte,qQ,g7,w6]
      have hnd5:=hnd4
      simp only [qH,xQ,not_or] at hnd5
      refine ⟨m,_,_,by omega,⟨k+1,M2,_,(!neg),zfg ps p k,by omega,⟨ztd hM4 (fun e=>hnd5.2.1.1 e) (fun hm=>hnd5.2.1.2 hm),hrows4,?_,?_,?_,?_,?_,?_,⟨_,_,zbm (zav hlast4),hy⟩,⟨ru4,rv4,?_⟩,hnd4⟩,hdet⟩,.refl⟩
      ·simp only [zaa,qQ,if_false,g2]
      ·simp only [zaa,qQ,if_false,g3]
      ·simp only [zaa,qQ,if_false,g4]
      ·simp only [zaa,qQ,if_false,g5]
      ·simp only [zaa,qQ,if_false,g6]
      ·simp only [zaa,qQ,reduceIte,if_false]
      ·rw [zat (fun e=>hnd5.1.1 e.symm)];exact hres4
     ·simp only [zaa,qQ,if_false,f2]
     ·simp only [zaa,qQ,if_false,f3]
     ·simp only [zaa,qQ,if_false,f4]
     ·simp only [zaa,qQ,if_false,f5]
     ·simp only [zaa,qQ,reduceIte,if_false]
     ·simp only [zaa,qQ,if_false,f7]
     ·rw [zat (fun e=>hnd6.2.1.1 e.symm)];exact hlast3
     ·rw [zat (by decide)];exact hres3
     ·simp only [zaa,qQ,reduceIte,if_false]
    ·rw [if_neg hkp] at hel hdet
     have d1:decide ((k:Int)<(p:Nat))=false:=decide_eq_false (by omega)
     simp only [r98_11,SS,forall_const,reduceIte,qQ,f7,f8,d1]
     simp only [r98_14,SS,reduceIte,qQ,f7,w6]
     refine qvk hB hN.2 hk (hD10.frame (fun t ht=>?_)) ?_ hel (fun E3 H3 hD3=>?rest2)
     case rest2=>
      obtain ⟨hM4,hrows4,g2,g3,g4,g5,g6,g7,⟨lu4,lv4,hlast4,hl4⟩,⟨ru4,rv4,hres4⟩,hnd4⟩:=hD3
      obtain ⟨csk,gk,lk,rk,fk⟩:=zer hM4 (i:=k) (by omega)
      obtain ⟨u,v,hx,hy⟩:=fk k hk
      have ok:=zce (ps:=ps) (n:=M.length) (i:=k) (by rw [hM4.len];omega)
      have hol:((ps).map (zcm M.length)).length=M.length:=by rw [qN,hM4.len];exact hrows4
      have hou:=hM4.outer
      obtain ⟨ly,cy,hy1,hy2⟩:=zao hy
      subst hy1 hy2
      simp only [r98_21,SS,forall_const,reduceCtorEq,reduceIte,qA,qQ,qW,g3,g5,g7,qV,hou,hol,ok,gk,lk,hx,hlast4]
      refine ⟨⟨by omega,by omega⟩,by omega,⟨by omega,by omega⟩,by omega,?_⟩
      simp only [r98_22,SS,reduceIte,qQ,g7,w6]
      have hnd5:=hnd4
      simp only [qH,xQ,not_or] at hnd5
      refine ⟨m,_,_,by omega,⟨k+1,M2,_,neg,ps,by omega,⟨ztd hM4 (fun e=>hnd5.2.1.1 e) (fun hm=>hnd5.2.1.2 hm),hrows4,?_,?_,?_,?_,?_,?_,⟨_,_,zbm (zav hlast4),hy⟩,⟨ru4,rv4,?_⟩,hnd4⟩,hdet⟩,.refl⟩
      ·simp only [zaa,qQ,if_false,g2]
      ·simp only [zaa,qQ,if_false,g3]
      ·simp only [zaa,qQ,if_false,g4]
      ·simp only [zaa,qQ,if_false,g5]
      ·simp only [zaa,qQ,if_false,g6]
      ·simp only [zaa,qQ,reduceIte,if_false]
      ·rw [zat (fun e=>hnd5.1.1 e.symm)];exact hres4
     ·repeat rw [zjo ht (by decide)]
     ·simp only [zaa,qQ,reduceIte,if_false]
  ·repeat rw [zjo ht (by decide)]
  ·simp only [zaa,qQ,reduceIte,if_false]
 ·have hm:m=0:=by omega
  subst hm
  simp only [detG,qE] at hdet
  have c4:qK [.agg [lu,lv]]=true:=by simp only [qK,hl.closed,qC]
  simp only [r98_23,SS,reduceIte,qQ,e6]
  refine ⟨fun hn=>?_,fun hn=>?_⟩
  ·rw [if_pos hn] at hdet
   obtain ⟨w,hw,tn⟩:=zNeg hl
   rw [hdet] at hw
   have hw0:=hw
   obtain ⟨lw,cw,_,_,_,rfl⟩:=hw0
   simp only [r98_24,SS,reduceIte,qA,qQ,qW,e5,hlast]
   refine zab tn ?_ c4
   simp only [SS,reduceIte,qA,qQ,qW,e2,hres]
   refine ⟨.inl trivial,_,_,zev (id:=0) (by simp only [zaa,qQ,if_false,e2]) (zbm (zav hres)),.drop _ _ rfl (by intro i cs h;omega),hw.wk⟩
  ·rw [if_neg (by rw [hn];simp)] at hdet
   subst hdet
   obtain ⟨lw,cw,h1,h2⟩:=zao hl
   subst h1 h2
   simp only [r98_25,SS,reduceIte,qA,qQ,qW,e5,hlast,e2,hres]
   refine ⟨.inl trivial,_,_,zev (id:=0) (by simp only [zaa,qQ,if_false,e2]) (zbm (zav hres)),.drop _ _ rfl (by intro i cs h;omega),hl.wk⟩
def zte:List Int→List AV
 | []=>[]
 | z::r=> .bool (decide (z<0)):: .vec (u32s (zci z.natAbs)) (zci z.natAbs).length none::zte r
def rowV (r:List Int):AV:= .vec (zte r) r.length none
def matC (M:List (List Int)):AV:= .vec (M.map rowV) M.length none
theorem qff:∀{r:List Int} {cs:List AV},RowC r cs→AV.wk.wkL cs=zte r:=by
 intro r
 induction r with
 | nil=>
  intro cs h
  cases cs with
  | nil=>rfl
  | cons _ _=>exact h.elim
 | cons z r ih=>
  intro cs h
  match cs,h with
  | u::v::cs,h=>
   have hw:=h.1.wk
   simp only [AV.wk,AV.wk.wkL,intV,AV.agg.injEq,List.cons.injEq,and_true] at hw
   show u.wk::v.wk::AV.wk.wkL cs=_
   rw [ih h.2,hw.1,hw.2];rfl
theorem qfg {r:List Int} {a:AV} (h:zfv r a):a.wk=rowV r:=by
 obtain ⟨cs,c,rfl,hc⟩:=h
 simp only [AV.wk,qff hc,rowV]
def qfh (r:List Int):Prop:= ∀z∈r,z.natAbs<BIG
theorem zjq:∀{r:List Int},qfh r→RowC r (zte r)
 | [],_=>trivial
 | z::r,h=>⟨zbr (h z (by simp)),zjq (fun y hy=>h y (by simp [hy]))⟩
theorem qrp {r:List Int} (h:qfh r):zfv r (rowV r):=⟨_,_,rfl,zjq h⟩
theorem qfi:∀{r:List Int} {cs:List AV},RowC r cs→qfh r:=by
 intro r
 induction r with
 | nil=>intro cs _ z hz;simp at hz
 | cons z r ih=>
  intro cs h y hy
  match cs,h with
  | u::v::cs,h=>
   rcases List.mem_cons.1 hy with e | e
   ·rw [e];exact h.1.fits
   ·exact ih h.2 y e
def qrq (M:List (List Int)):Prop:= ∀r∈M,qfh r
theorem ztf {M:List (List Int)} {a:AV} (h:MatV M a):qrq M:=by
 obtain ⟨rows,c,_,_,hr⟩:=h
 intro r hr'
 obtain ⟨i,hi,rfl⟩:=List.mem_iff_getElem.1 hr'
 obtain ⟨cs,c,_,h2⟩:=hr i hi
 rw [qX,qZ hi] at h2
 exact qfi h2
theorem zne {M:List (List Int)} (h:qrq M):MatV M (matC M):=by
 refine ⟨M.map rowV,none,rfl,by simp,fun i hi=>?_⟩
 rw [qX,qX,qG,qZ hi]
 exact qrp (h _ (qO _))
theorem qfj {M:List (List Int)} {a:AV} (h:MatV M a):a.wk=matC M:=by
 obtain ⟨rows,c,rfl,hl,hr⟩:=h
 simp only [AV.wk,matC,zkr]
 congr 1
 refine List.ext_getElem? (fun i=>?_)
 rw [qG,qG]
 rcases xZ i M.length with hi | hi
 ·have:=qfg (hr i hi)
  rw [qX,qX,qZ hi,qZ (by omega)] at this
  rw [qZ hi,qZ (by omega)]
  simpa using this
 ·rw [xA hi,xA (by omega)];rfl
def Grow (H:Heap) (sz n:Nat) (cs:List AV) (a:AV) (bad:List Nat):Prop:=
 (n=0∧cs=[]∧a= .vec [] 0 (some 0))∨(0<n∧cs.length=n*sz∧∃id,a= .sl id 0 n sz none∧getB H id=some cs∧id∉bad)
theorem Grow.mono {H H':Heap} {sz n:Nat} {cs:List AV} {a:AV} {bad bad':List Nat} (h:Grow H sz n cs a bad) (hH:∀id,getB H id=some cs→a= .sl id 0 n sz none→getB H' id=some cs) (hb:∀id,a= .sl id 0 n sz none→id∉bad→id∉bad'):Grow H' sz n cs a bad':=by
 rcases h with h | ⟨h1,h2,id,h3,h4,h5⟩
 ·exact .inl h
 ·exact .inr ⟨h1,h2,id,h3,hH id h4 h3,hb id h3 h5⟩
theorem zgj {H:Heap} {sz n:Nat} {cs xs:List AV} {a:AV} {bad:List Nat} {bytes:Nat} (h:Grow H sz n cs a bad) (hx:xs.length=sz) (hs:AV.scalL xs=true) (hb:bytes≤64) (hn:n<1100) (hfr:H.length+1∉bad):
  ∃e rd,(∀n0,zbu n0 (H.length+1) (H++[some xs]) sz bytes a (.sl H.length 0 1 sz (some 1))=some (.sl (H.length+1) 0 (n+1) sz none,e,rd))∧Grow (zag e (H++[some xs]++[none])) sz (n+1) (cs++xs) (.sl (H.length+1) 0 (n+1) sz none) bad∧
   (zag e (H++[some xs]++[none])).length=H.length+2∧(∀i,i<H.length→(∀m c,a≠ .sl i 0 m sz c)→getB (zag e (H++[some xs]++[none])) i=getB H i)∧(∀i∈keys e,i=H.length+1∨∃m,a= .sl i 0 m sz none)∧(∀i∈rd,i=H.length∨∃m,a= .sl i 0 m sz none):=by
 have hg:getB (H++[some xs]) H.length=some xs:=zdy
 have b1:4*(n+1)*bytes≤2^48:=by
  have:4*(n+1)*bytes≤4*1100*64:=yW (by omega) hb
  have:(2:Nat)^48=281474976710656:=rfl
  omega
 have b2:n+1<2^62:=by
  have:(2:Nat)^62=4611686018427387904:=rfl
  omega
 have hel:zds (H++[some xs]) sz 1 (.sl H.length 0 1 sz (some 1))=some (xs,[H.length]):=by
  simp only [zds,hg,need,qM,qT,Nat.one_mul,hx,and_self,if_true]
  rw [qP,qU (by omega)]
 rcases h with ⟨rfl,rfl,rfl⟩ | ⟨h0,hl,id,rfl,hc,hnb⟩
 ·refine ⟨[(H.length+1,some xs)],[H.length],fun n0=>?_,.inr ⟨by omega,by simp;omega,H.length+1,rfl,?_,hfr⟩,by simp [zag],?_,?_,?_⟩
  ·simp only [zbu,lenA,xM,hel]
   have b1':4*(0+1)*bytes≤2^48:=b1
   simp only [need,yD,if_false,Nat.zero_mul,Nat.zero_le,b1',b2,and_self,if_true,List.take_zero,List.nil_append]
  ·simp only [zag]
   rw [zbm (by simp)];rfl
  ·intro i hi _
   simp only [zag]
   rw [zat (by omega),yU,zej hi]
  ·intro i hi;simp [keys] at hi;exact .inl hi
  ·intro i hi;simp at hi;exact .inl hi
 ·have hid:=zav hc
  have hc2:getB (H++[some xs]) id=some cs:=by rw [zej hid];exact hc
  refine ⟨[(id,none),(H.length+1,some (cs++xs))],[id,H.length],fun n0=>?_,.inr ⟨by omega,by rw [xE,hl,hx,Nat.add_mul,Nat.one_mul],H.length+1,rfl,?_,hfr⟩,by simp [zag],?_,?_,?_⟩
  ·simp only [zbu,lenA,xM,hel,hc2]
   have e1:¬((none:Option Nat)=some n):=by simp
   have e2:id≠H.length+1:=by omega
   simp only [need,yD,if_false,hl,qM,b1,b2,and_self,if_true,e1,Nat.zero_le,hs,e2,ne_eq,not_false_eq_true]
   rw [qU (by omega)]
  ·simp only [zag]
   rw [zbm (by simp)]
  ·intro i hi ha
   simp only [zag]
   rw [zat (by omega),zat (fun e=>ha n none (by rw [e])),yU,zej hi]
  ·intro i hi
   simp [keys] at hi
   rcases hi with e | e
   ·exact .inr ⟨n,by rw [e]⟩
   ·exact .inl e
  ·intro i hi
   simp at hi
   rcases hi with e | e
   ·exact .inr ⟨n,by rw [e]⟩
   ·exact .inl e
def i64n (l:List Nat):List AV:=l.map fun (n:Nat)=>AV.int .i64 (n:Int)
theorem zfk (l:List Nat):(i64n l).length=l.length:=by simp [i64n]
theorem ztg (l:List Nat) (i:Nat) (h:i<l.length) (d:AV):(i64n l).getD i d= .int .i64 ((l.getD i 0:Nat):Int):=by simp [i64n,h]
theorem zqu (l:List Nat) (m d:Nat) (H:Heap):(i64n l).mapM (frzI m H (d+1))=some (i64n l):=by
 refine zlr (fun a ha=>?_)
 simp only [i64n,List.mem_map] at ha
 obtain ⟨n,_,rfl⟩:=ha
 rfl
theorem zxr {H:Heap} {id n:Nat} {c:Option Nat} {l:List Nat} (hb:getB H id=some (i64n l)) (hn:n=l.length):AL.Fin 0 (.sl id 0 n 1 c) H (.vec (i64n l) n c) []:=by
 refine .freeze 2 _ _ _ ?_ (by intro i cs h;omega)
 have e:=zqu l 0 0 H
 rw [frzI]
 simp only [qR,if_false,hb,need,qT,xV,hn,zfk,qM,if_true,qP]
 rw [qU (by rw [zfk];omega),e]
 rfl
theorem qvl (k more:Nat) (hk:k≤16):Ret Tryz.prog G 186 [.int .i64 (k:Nat),.int .i64 (more:Nat)] [] (.vec (i64n (List.range k++[more])) (k+1) none) []:=by
 refine zai zah Tryz.func186 comp186 _ 20 res186 nt186 (by simp) (by simp) ?_
 simp only [c186,r186_0,r186_1,r186_2,SS,reduceCtorEq]
 refine zal (fun m E H=>∃i a,i+m=k∧E 0= .int .i64 (k:Nat)∧E 1= .int .i64 (more:Nat)∧E 5=a∧E 6= .int .i64 (i:Nat)∧Grow H 1 i (i64n (List.range i)) a []) (n:=k) ⟨0,_,by omega,by simp only [zaa,zac,qY,qQ,if_false],by simp only [zaa,zac,qY,qJ,qQ,if_false],rfl,by simp only [zaa,zac,qJ,qQ,reduceIte,if_false];rfl,.inl ⟨rfl,rfl,by simp only [zaa,zac,qJ,qQ,reduceIte,if_false]⟩⟩ ?_
 rintro m E H ⟨i,a,him,e0,e1,e5,e6,hG⟩
 refine zaf zah ?_
 simp only [l186_0,r186_3,SS,reduceCtorEq,reduceIte,qQ,e0,e6]
 refine ⟨fun hlt=>?_,fun hge=>?_⟩
 ·obtain ⟨m,rfl⟩:∃m',m=m'+1:=⟨m-1,by omega⟩
  have w5:IntKind.i64.wrap ((i:Int)+1)=((i+1:Nat):Int):=by rw [show (i:Int)+1=((i+1:Nat):Int) by omega];exact w64 (by omega) (by omega)
  obtain ⟨e,rd,hap,hG2,hl2,hk2,_,_⟩:=zgj (bytes:=8) (xs:=[.int .i64 (i:Nat)]) hG rfl rfl (by omega) (by omega) (by simp)
  simp only [r186_4,r186_5,SS,reduceIte,qQ,qW,e5,e6,zdc,hap,w5]
  refine ⟨m,_,_,by omega,⟨i+1,_,by omega,?_,?_,rfl,?_,?_⟩,.refl⟩
  ·simp only [zaa,qQ,if_false,e0]
  ·simp only [zaa,qQ,if_false,e1]
  ·simp only [zaa,qQ,reduceIte,if_false]
  ·have:i64n (List.range i)++[.int .i64 ((i:Nat):Int)]=i64n (List.range (i+1)):=by simp [i64n,xB]
   rw [this] at hG2
   simp only [zaa,qQ,reduceIte,if_false]
   exact hG2
 ·have hm:i=k:=by omega
  subst hm
  obtain ⟨e,rd,hap,hG2,hl2,hk2,_,_⟩:=zgj (bytes:=8) (xs:=[.int .i64 (more:Nat)]) hG rfl rfl (by omega) (by omega) (by simp)
  simp only [r186_6,SS,reduceIte,qQ,qW,e5,e1,zdc,hap]
  refine ⟨.inl trivial,_,rfl,?_⟩
  rcases hG2 with ⟨h,_⟩ | ⟨_,_,id,h1,h2,_⟩
  ·omega
  ·have:i64n (List.range i)++[.int .i64 ((more:Nat):Int)]=i64n (List.range i++[more]):=by simp [i64n]
   rw [this] at h2
   injection h1 with h1
   rw [h1]
   exact zxr h2 (by simp)
def zxs (H:Heap) (n:Nat) (ps:List (Nat×Option Nat)) (M:List (List Int)):Prop:=ps.length=M.length∧∀i,i<M.length→(M.getD i []).length=n∧∃cs,getB H (pid ps i)=some cs∧RowC (M.getD i []) cs
theorem qrr {H:Heap} {r:List Int} {cs:List AV} {a:AV} {bad:List Nat} (h:Grow H 2 r.length cs a bad) (hr:RowC r cs) (h0:r≠[]):∃id,a= .sl id 0 r.length 2 none∧getB H id=some cs∧id∉bad:=by
 rcases h with ⟨h,_⟩ | ⟨_,_,id,h1,h2,h3⟩
 ·exact absurd (List.length_eq_zero_iff.1 h) h0
 ·exact ⟨id,h1,h2,h3⟩
theorem zqv {H:Heap} {n:Nat} {ps:List (Nat×Option Nat)} {M:List (List Int)} (h:zxs H n ps M):∃vs,(ps.map (zcm n)).mapM (frzI 0 H 2)=some vs∧vs.length=M.length∧∀i,i<M.length→zfv (M.getD i []) (vs.getD i .junk):=by
 obtain ⟨hl,hr⟩:=h
 have key:∀(qs:List (Nat×Option Nat)) (N:List (List Int)),qs.length=N.length→(∀i,i<N.length→(N.getD i []).length=n∧∃cs,getB H (pid qs i)=some cs∧RowC (N.getD i []) cs)→
   ∃vs,(qs.map (zcm n)).mapM (frzI 0 H 2)=some vs∧vs.length=N.length∧∀i,i<N.length→zfv (N.getD i []) (vs.getD i .junk):=by
  intro qs
  induction qs with
  | nil=>
   intro N hN _
   exact ⟨[],rfl,hN,fun i hi=>absurd hi (by rw [←hN];simp)⟩
  | cons q qs ih=>
   intro N hN hr
   match N,hN with
   | r::N,hN=>
    obtain ⟨vs,h1,h2,h3⟩:=ih N (by simpa using hN) (fun i hi=>by
     have:=hr (i+1) (by simpa using hi)
     simpa [pid] using this)
    obtain ⟨hn,cs,hb,hc⟩:=hr 0 (by simp)
    have hb:getB H q.1=some cs:=hb
    have hn:r.length=n:=hn
    have hc:RowC r cs:=hc
    have hcl:=zcw hc
    have e1:frzI 0 H 2 (zcm n q)=some (.vec cs n q.2):=by
     have e:=zxm hc 0 0 H
     unfold zcm
     rw [frzI]
     simp only [qR,if_false,hb,need,qT,hcl,hn,qM,if_true,qP]
     rw [qU (by omega),e]
     rfl
    refine ⟨.vec cs n q.2::vs,?_,by simp [h2],?_⟩
    ·rw [List.map_cons,xX,e1,h1];rfl
    ·intro i hi
     cases i with
     | zero=>exact ⟨cs,q.2,by rw [←hn];rfl,hc⟩
     | succ i=>simpa using h3 i (by simpa using hi)
 exact key ps M hl hr
theorem qlo {H:Heap} {n:Nat} {ps:List (Nat×Option Nat)} {M:List (List Int)} {o:Nat} (ho:getB H o=some (ps.map (zcm n))) (h:zxs H n ps M):∃v,AL.Fin 0 (.sl o 0 M.length 1 none) H v []∧v.wk=matC M:=by
 obtain ⟨vs,h1,h2,h3⟩:=zqv h
 have hl:=h.1
 refine ⟨.vec vs M.length none,.freeze 3 _ _ _ ?_ (by intro i cs h;omega),qfj ⟨vs,none,rfl,h2,h3⟩⟩
 rw [frzI]
 simp only [qR,if_false,ho,need,qT,xV,qN,hl,qM,if_true,qP]
 rw [qU (by simp [hl]),h1]
 rfl
theorem zix {H:Heap} {sz n:Nat} {cs:List AV} {a:AV} {bad:List Nat} (h:Grow H sz n cs a bad) {x:Nat} (hx:x∈bad):∀m c,a≠ .sl x 0 m sz c:=by
 intro m c e
 rcases h with ⟨_,_,h⟩ | ⟨_,_,id,h1,_,h3⟩
 ·rw [h] at e;simp at e
 ·rw [h1] at e
  injection e with e1
  exact h3 (e1 ▸ hx)
theorem qrs {M:List (List Int)} {n:Nat} {rows:List AV} {c c2:Option Nat} {ks:List Nat} (hl:rows.length=M.length) (hr:∀i,i<M.length→zfv (M.getD i []) (rows.getD i .junk)) (hc:∀i,i<M.length→(M.getD i []).length=n) {i:Nat} (hi:i<M.length) (hks:∀k∈ks,k<n) (hkl:ks.length≤16) (hn:n≤16) (hN:M.length≤16)
  {v7 v13 v14 v15:AV} {bad:List Nat} {H0:Heap} (hbad:∀x∈bad,x<H0.length) {E:Env} {Q:Post} (e0:E 0= .vec rows M.length c) (e2:E 2= .vec (i64n ks) ks.length c2) (e7:E 7=v7) (e9:E 9= .int .i64 (i:Nat)) (e10:E 10= .vec [] 0 (some 0)) (e13:E 13=v13) (e14:E 14=v14) (e15:E 15=v15)
  (e19:E 19= .vec (i64n ks) ks.length c2) (e20:E 20= .int .i64 (ks.length:Nat)) (e21:E 21= .int .i64 0)
  (hQ:∀E' H' cs,E' 0= .vec rows M.length c→E' 2= .vec (i64n ks) ks.length c2→E' 7=v7→E' 13=v13→E' 14=v14→E' 15=v15→RowC (selR M i ks) cs→Grow H' 2 ks.length cs (E' 10) bad→(∀x∈bad,getB H' x=getB H0 x)→H0.length≤H'.length→Q (.exit 2) E' H'):
  W Tryz.prog G 0 42 (.loop l185_1) E H0 Q:=by
 refine zal (fun m E H=>∃j cs,j+m=ks.length∧E 0= .vec rows M.length c∧E 2= .vec (i64n ks) ks.length c2∧E 7=v7∧E 9= .int .i64 (i:Nat)∧E 13=v13∧E 14=v14∧E 15=v15∧E 19= .vec (i64n ks) ks.length c2∧E 20= .int .i64 (ks.length:Nat)∧E 21= .int .i64 (j:Nat)∧
  RowC (selR M i (ks.take j)) cs∧Grow H 2 j cs (E 10) bad∧(∀x∈bad,getB H x=getB H0 x)∧H0.length≤H.length) (n:=ks.length) ⟨0,[],by omega,e0,e2,e7,e9,e13,e14,e15,e19,e20,e21,trivial,.inl ⟨rfl,rfl,e10⟩,fun _ _=>rfl,qM _⟩ ?_
 clear e0 e2 e7 e9 e10 e13 e14 e15 e19 e20 e21 E
 rintro m E H ⟨j,cs,hjm,e0,e2,e7,e9,e13,e14,e15,e19,e20,e21,hrc,hG,hkeep,hlen⟩
 refine zaf zah ?_
 simp only [l185_1,r185_7,SS,reduceIte,e20,e21]
 refine ⟨fun hlt=>?_,fun hge=>?_⟩
 ·obtain ⟨m,rfl⟩:∃m',m=m'+1:=⟨m-1,by omega⟩
  have hj:j<ks.length:=by omega
  have gk:=ztg ks j hj AV.junk
  have hkj:ks.getD j 0<n:=by
   rw [qX,qZ hj];exact hks _ (qO _)
  obtain ⟨csi,ci,hei,hci⟩:=hr i hi
  have hcl:=zcw hci
  obtain ⟨u,v,hu,hz⟩:=zei hci (ks.getD j 0) (by rw [hc i hi];exact hkj)
  have w5:IntKind.i64.wrap ((j:Int)+1)=((j+1:Nat):Int):=by rw [show (j:Int)+1=((j+1:Nat):Int) by omega];exact w64 (by omega) (by omega)
  have hs:=zjl (r:=[(M.getD i []).getD (ks.getD j 0) 0]) (cs:=[u,v]) ⟨hz,trivial⟩
  obtain ⟨e,rd,hap,hG2,hl2,hk2,_,_⟩:=zgj (bytes:=32) (xs:=[u,v]) hG rfl hs (by omega) (by omega) (by intro hm;have:=hbad _ hm;omega)
  obtain ⟨lz,cz,hz1,hz2⟩:=zao hz
  subst hz1 hz2
  simp only [r185_8,r185_9,r185_10,SS,forall_const,reduceCtorEq,reduceIte,qA,qQ,qW,e0,e9,e19,e21,qV,gk,zfk,hl,hei,hcl,hc i hi,hu,zdc,hap,w5]
  refine ⟨⟨by omega,by omega⟩,by omega,⟨by omega,by omega⟩,by omega,⟨by omega,by omega⟩,by omega,?_⟩
  have htk:ks.take (j+1)=ks.take j++[ks.getD j 0]:=by
   rw [yA,qX,qZ hj];rfl
  refine ⟨m,_,_,by omega,⟨j+1,cs++[AV.bool (decide ((M.getD i []).getD (ks.getD j 0) 0<0)),AV.vec (u32s lz) lz.length cz],by omega,?_,?_,?_,?_,?_,?_,?_,?_,?_,?_,?_,?_,?_,?_⟩,.refl⟩
  ·simp only [zaa,qQ,if_false,e0]
  ·simp only [zaa,qQ,if_false,e2]
  ·simp only [zaa,qQ,if_false,e7]
  ·simp only [zaa,qQ,if_false,e9]
  ·simp only [zaa,qQ,if_false,e13]
  ·simp only [zaa,qQ,if_false,e14]
  ·simp only [zaa,qQ,if_false,e15]
  ·simp only [zaa,qQ,if_false,e19]
  ·simp only [zaa,qQ,if_false,e20]
  ·simp only [zaa,qQ,reduceIte,if_false]
  ·rw [htk]
   unfold selR
   rw [yQ]
   exact zjk hrc _ _ _ hz
  ·simp only [zaa,qQ,reduceIte,if_false]
   exact hG2
  ·intro x hx
   have hxl:=hbad x hx
   rw [hk2 x (by omega) (zix hG hx)]
   exact hkeep x hx
  ·omega
 ·have hm:j=ks.length:=by omega
  subst hm
  rw [yB] at hrc
  exact hQ _ _ cs (by simp only [zaa,qQ,if_false,e0]) (by simp only [zaa,qQ,if_false,e2]) (by simp only [zaa,qQ,if_false,e7]) (by simp only [zaa,qQ,if_false,e13]) (by simp only [zaa,qQ,if_false,e14]) (by simp only [zaa,qQ,if_false,e15]) hrc (by simp only [zaa,qQ,if_false];exact hG) hkeep hlen
theorem qfk {M:List (List Int)} {a:AV} {n:Nat} {rs ks:List Nat} {c1 c2:Option Nat} (h:MatV M a) (hN:M.length≤16) (hn:n≤16) (hc:∀i,i<M.length→(M.getD i []).length=n) (hrs:∀i∈rs,i<M.length) (hrl:1≤rs.length∧rs.length≤16) (hks:∀k∈ks,k<n) (hkl:1≤ks.length∧ks.length≤16):
  Ret Tryz.prog G 185 [a,.vec (i64n rs) rs.length c1,.vec (i64n ks) ks.length c2] [] (matC (selM M rs ks)) []:=by
 obtain ⟨rows,c,rfl,hl,hr⟩:=h
 refine zes zah Tryz.func185 comp185 _ 42 res185 nt185 (by simp) (by simp) ?_
 simp only [c185,r185_0,r185_1,r185_2,SS,reduceCtorEq,reduceIte,qQ]
 refine zal (fun m E H=>∃i ps,i+m=rs.length∧E 0= .vec rows M.length c∧E 2= .vec (i64n ks) ks.length c2∧E 13= .vec (i64n rs) rs.length c1∧E 14= .int .i64 (rs.length:Nat)∧E 15= .int .i64 (i:Nat)∧
  Grow H 1 i (ps.map (zcm ks.length)) (E 7) (ps.map (·.1))∧zxs H ks.length ps (selM M (rs.take i) ks)∧∀x∈ps.map (·.1),x<H.length) (n:=rs.length) ⟨0,[],by omega,?_,?_,?_,?_,?_,.inl ⟨rfl,rfl,?_⟩,⟨rfl,fun i hi=>absurd hi (by simp [selM])⟩,by simp⟩ ?_
 ·simp only [zaa,zac,qY,qQ,if_false]
 ·simp only [zaa,zac,qY,qJ,qQ,if_false]
 ·simp only [zaa,zac,qJ,qQ,reduceIte,if_false]
 ·simp only [zaa,zac,qJ,qQ,reduceIte,if_false]
 ·simp only [zaa,zac,qJ,qQ,reduceIte,if_false];rfl
 ·simp only [zaa,zac,qJ,qQ,reduceIte,if_false]
 rintro m E H ⟨i,ps,him,e0,e2,e13,e14,e15,hG,hR,hlt⟩
 refine zaf zah ?_
 simp only [l185_0,r185_3,SS,reduceCtorEq,reduceIte,e14,e15]
 refine ⟨fun hlt2=>?_,fun hge=>?_⟩
 ·obtain ⟨m,rfl⟩:∃m',m=m'+1:=⟨m-1,by omega⟩
  have hi:i<rs.length:=by omega
  have gr:=ztg rs i hi AV.junk
  have hri:rs.getD i 0<M.length:=by
   rw [qX,qZ hi];exact hrs _ (qO _)
  have w5:IntKind.i64.wrap ((i:Int)+1)=((i+1:Nat):Int):=by rw [show (i:Int)+1=((i+1:Nat):Int) by omega];exact w64 (by omega) (by omega)
  simp only [r185_4,r185_5,r185_6,SS,forall_const,reduceIte,qQ,e2,e13,e15,qV,gr,zfk]
  refine ⟨⟨by omega,by omega⟩,by omega,?_⟩
  have hbad:∃bad:List Nat,(∀x∈bad,x<H.length)∧(∀x∈ps.map (·.1),x∈bad)∧(∀id,E 7= .sl id 0 i 1 none→id∈bad):=by
   rcases hG with ⟨_,_,h7⟩ | ⟨_,_,id,h7,hb,_⟩
   ·exact ⟨ps.map (·.1),hlt,fun x hx=>hx,fun id hid=>by rw [h7] at hid;simp at hid⟩
   ·refine ⟨id::ps.map (·.1),?_,fun x hx=>by simp only [xQ];exact .inr hx,fun id' hid=>?_⟩
    ·intro x hx
     rcases List.mem_cons.1 hx with e | e
     ·rw [e];exact zav hb
     ·exact hlt x e
    ·rw [h7] at hid
     injection hid with hid
     rw [←hid];simp
  obtain ⟨bad,hb1,hb2,hb3⟩:=hbad
  refine qrs (c:=c) (c2:=c2) (bad:=bad) (v7:=E 7) (v13:= .vec (i64n rs) rs.length c1) (v14:= .int .i64 (rs.length:Nat)) (v15:= .int .i64 (i:Nat)) hl hr hc hri hks hkl.2 hn hN hb1 ?_ ?_ ?_ ?_ ?_ ?_ ?_ ?_ ?_ ?_ ?_ (fun E1 H1 cs f0 f2 f7 f13 f14 f15 hrc hG1 hkeep hlen=>?rest)
  case rest=>
   have hsl:(selR M (rs.getD i 0) ks).length=ks.length:=by simp [selR]
   rw [←hsl] at hG1
   obtain ⟨id,hid,hgb,hnb⟩:=qrr hG1 hrc (by intro e;rw [e] at hsl;simp at hsl;omega)
   rw [hsl] at hid
   have hidlt:=zav hgb
   have hG7:Grow H1 1 i (ps.map (zcm ks.length)) (E1 7) (id::ps.map (·.1)):=by
    rw [f7]
    refine hG.mono (fun id' h1 h2=>by rw [hkeep id' (hb3 id' h2)];exact h1) (fun id' h2 h3=>?_)
    intro hm
    rcases List.mem_cons.1 hm with e | e
    ·exact hnb (e ▸ hb3 id' h2)
    ·exact h3 e
   obtain ⟨e,rd,hap,hG2,hl2,hk2,_,_⟩:=zgj (bytes:=24) (xs:=[.sl id 0 ks.length 2 none]) hG7 rfl rfl (by omega) (by omega) (by
    intro hm
    rcases List.mem_cons.1 hm with e | e
    ·omega
    ·have:=hlt _ e;omega)
   simp only [r185_11,r185_12,SS,reduceCtorEq,reduceIte,qQ,qW,hid,f15,zdc,hap,w5]
   refine ⟨m,_,_,by omega,⟨i+1,ps++[(id,none)],by omega,?_,?_,?_,?_,?_,?_,?_,?_⟩,.refl⟩
   ·simp only [zaa,qQ,if_false,f0]
   ·simp only [zaa,qQ,if_false,f2]
   ·simp only [zaa,qQ,if_false,f13]
   ·simp only [zaa,qQ,if_false,f14]
   ·simp only [zaa,qQ,reduceIte,if_false]
   ·simp only [zaa,qQ,reduceIte,if_false]
    have e3:(ps++[(id,none)]).map (zcm ks.length)=ps.map (zcm ks.length)++[.sl id 0 ks.length 2 none]:=by simp [zcm]
    rw [e3]
    refine hG2.mono (fun _ h _=>h) (fun id' _ h3 hm=>h3 ?_)
    rw [yQ] at hm
    rcases List.mem_append.1 hm with e | e
    ·simp only [xQ];exact .inr e
    ·simp at e;simp [e]
   ·have hps:=hR.1
    have htk:rs.take (i+1)=rs.take i++[rs.getD i 0]:=by
     rw [yA,qX,qZ hi];rfl
    have hml:(selM M (rs.take i) ks).length=i:=by simp [selM];omega
    refine ⟨by rw [htk];simp [selM] at hps ⊢;omega,fun i' hi'=>?_⟩
    rw [htk] at hi' ⊢
    have hsm:selM M (rs.take i++[rs.getD i 0]) ks=selM M (rs.take i) ks++[selR M (rs.getD i 0) ks]:=by simp [selM]
    rw [hsm] at hi' ⊢
    rw [xE,yJ,hml] at hi'
    rcases xZ i' i with hii | hii
    ·have e4:(selM M (rs.take i) ks++[selR M (rs.getD i 0) ks]).getD i' []=(selM M (rs.take i) ks).getD i' []:=by
      rw [qX,xW (by omega),←qX]
     have e5:pid (ps++[(id,none)]) i'=pid ps i':=by
      unfold pid
      rw [qX,xW (by omega),←qX]
     rw [e4,e5]
     obtain ⟨g1,cs',g2,g3⟩:=hR.2 i' (by omega)
     have hpm:=zhe (ps:=ps) (i:=i') (by omega)
     refine ⟨g1,cs',?_,g3⟩
     rw [hk2 _ (by have:=hlt _ hpm;omega) (zix hG7 (by simp only [xQ];exact .inr hpm)),hkeep _ (hb2 _ hpm)]
     exact g2
    ·have e4:(selM M (rs.take i) ks++[selR M (rs.getD i 0) ks]).getD i' []=selR M (rs.getD i 0) ks:=by
      rw [qX,xK (by omega),show i'-(selM M (rs.take i) ks).length=0 by omega];rfl
     have e5:pid (ps++[(id,none)]) i'=id:=by
      unfold pid
      rw [qX,xK (by omega),show i'-ps.length=0 by omega];rfl
     rw [e4,e5]
     refine ⟨hsl,cs,?_,hrc⟩
     rw [hk2 _ hidlt (zix hG7 (by simp))]
     exact hgb
   ·intro x hx
    rw [yQ] at hx
    rcases List.mem_append.1 hx with e | e
    ·have:=hlt x e;omega
    ·simp at e;omega
  all_goals simp only [zaa,qQ,reduceIte,if_false, *]
 ·have hm:i=rs.length:=by omega
  subst hm
  rw [yB] at hR
  simp only [r185_13,SS,reduceIte,qQ]
  rcases hG with ⟨h0,_⟩ | ⟨_,_,id,h7,hb,_⟩
  ·omega
  ·obtain ⟨v,hv1,hv2⟩:=qlo hb hR
   have hml:(selM M rs ks).length=rs.length:=by simp [selM]
   rw [hml] at hv1
   exact ⟨.inl trivial,_,v,rfl,by rw [h7];exact hv1,hv2⟩
structure Sq (n:Nat) (M:List (List Int)) (a:AV):Prop where
 mat:MatV M a
 len:M.length=n
 cols:∀i,i<n→(M.getD i []).length=n
 lo:1≤n
 hi:n≤8
theorem Sq.shape {n:Nat} {M:List (List Int)} {a:AV} (h:Sq n M a):zqq M:=by
 refine ⟨by rw [h.len];exact h.lo,by rw [h.len];have:=h.hi;omega,fun i hi=>?_⟩
 rw [h.len] at hi
 rw [h.cols i hi,h.cols 0 h.lo]
 have:=h.lo;have:=h.hi
 omega
theorem Sq.closed {n:Nat} {M:List (List Int)} {a:AV} (h:Sq n M a):a.closed=true:=by
 obtain ⟨rows,c,rfl,_⟩:=h.mat;rfl
theorem qfl {n:Nat} {M:List (List Int)} {a:AV} (h:Sq n M a):Ret Tryz.prog G 118 [a] [] (.tup [.int .i64 (n:Nat),.bool true]) []:=by
 have t:=zsx h.mat h.shape
 rw [h.len,h.cols 0 h.lo] at t
 have c1:qK [a]=true:=by simp only [qK,h.closed,qC]
 refine zai zah Tryz.func118 comp118 _ 21 res118 nt118 (by simp) (by simp) ?_
 simp only [c118,r118_0,r118_1,SS,reduceCtorEq,reduceIte]
 refine zab t ?_ c1
 simp only [SS,reduceIte,qQ,qS,qL]
 have d1:decide (((n:Nat):Int)≠(n:Nat))=false:=by simp
 simp only [r118_2,SS,forall_const,reduceIte,qQ,d1]
 simp only [r118_4,SS,reduceIte,qQ]
 exact ⟨.inl trivial,_,rfl,.drop _ _ rfl (by intro i cs h;omega)⟩
theorem qrt {n:Nat} {M:List (List Int)} {a:AV} (h:Sq n M a) {k:Nat} (hk:k<n):Sq (k+1) (minK M k) (matC (minK M k))∧(minK M k).length=k+1:=by
 have hl:(minK M k).length=k+1:=by simp [minK,selM]
 have hf:=ztf h.mat
 have hent:∀i j,i<n→j<n→(ent M i j).natAbs<BIG:=by
  intro i j hi hj
  have hc:=h.cols i hi
  unfold ent
  rw [qX (l:=M.getD i []),qZ (by omega)]
  have hm:M.getD i []∈M:=by rw [qX,qZ (by rw [h.len];exact hi)];exact qO _
  exact hf _ hm _ (qO _)
 refine ⟨⟨zne ?_,hl,?_,by omega,by have:=h.hi;omega⟩,hl⟩
 ·intro r hr z hz
  obtain ⟨i,hi,rfl⟩:=List.mem_map.1 hr
  obtain ⟨j,hj,rfl⟩:=List.mem_map.1 hz
  have hb:∀x∈List.range k++[k],x<n:=by
   intro x hx
   rcases List.mem_append.1 hx with e | e
   ·have:=List.mem_range.1 e;omega
   ·simp at e;omega
  exact hent i j (hb i hi) (hb j hj)
 ·intro i hi
  unfold minK selM
  rw [qX,qG,qZ (by simp;omega)]
  simp [selR]
theorem zks (z:Int):(intV z).cells=[.bool (decide (z<0)),.vec (u32s (zci z.natAbs)) (zci z.natAbs).length none]:=rfl
theorem qlp {H:Heap} {id n:Nat} {r:List Int} {cs:List AV} {b:Bool} (hb:getB H id=some cs) (hr:RowC r cs) (hn:n=r.length):AL.Fin 0 (.tup [.sl id 0 n 2 none,.bool b]) H (.tup [.vec cs n none,.bool b]) []:=by
 refine .freeze 3 _ _ _ ?_ (by intro i cs h;omega)
 have e:=zxm hr 0 0 H
 have hl:=zcw hr
 have e1:frzI 0 H 2 (.sl id 0 n 2 none)=some (.vec cs n none):=by
  rw [frzI]
  simp only [qR,if_false,hb,need,qT,hn,hl,qM,if_true,qP]
  rw [qU (by omega),e]
  rfl
 rw [frzI]
 simp only [xX,List.mapM_nil,e1]
 rfl
theorem zqw {B n:Nat} {M:List (List Int)} {a:AV} {ds:List Int} (hB:DivB B) (h:Sq n M a) (hd:zjm B M=some ds):Ret Tryz.prog G 124 [a] [] (.tup [rowV ds,.bool true]) []:=by
 have hl:ds.length=n:=by rw [←h.len];exact zda hd
 have ts:=qfl h
 have c1:qK [a]=true:=by simp only [qK,h.closed,qC]
 have hn8:=h.hi
 have hn1:=h.lo
 refine zes zah Tryz.func124 comp124 _ 33 res124 nt124 (by simp) (by simp) ?_
 simp only [c124,r124_0,r124_1,SS,reduceCtorEq,reduceIte]
 refine zab ts ?_ c1
 simp only [SS,reduceIte,qQ,qS,qL]
 simp only [r124_2,SS,forall_const,reduceIte,qQ]
 simp only [r124_4,r124_5,SS]
 refine zal (fun m E H=>∃k cs,k+m=n∧E 0=a∧E 4= .int .i64 (n:Nat)∧E 7= .int .i64 (k:Nat)∧RowC (ds.take k) cs∧Grow H 2 k cs (E 6) []) (n:=n) ⟨0,[],by omega,?_,?_,?_,trivial,.inl ⟨rfl,rfl,?_⟩⟩ ?_
 ·simp only [zaa,zac,qY,qQ,if_false]
 ·simp only [zaa,zac,qJ,qQ,reduceIte,if_false]
 ·simp only [zaa,zac,qJ,qQ,reduceIte,if_false];rfl
 ·simp only [zaa,zac,qJ,qQ,reduceIte,if_false]
 rintro m E H ⟨k,cs,hkm,e0,e4,e7,hrc,hG⟩
 refine zaf zah ?_
 simp only [l124_0,r124_6,SS,reduceCtorEq,reduceIte,qQ,e4,e7]
 refine ⟨fun hlt=>?_,fun hge=>?_⟩
 ·obtain ⟨m,rfl⟩:∃m',m=m'+1:=⟨m-1,by omega⟩
  have hk:k<n:=by omega
  have hpre:zdk B M (k+1)=some (ds.take (k+1)):=by
   have:zdk B M ((k+1)+m)=some ds:=by rw [show (k+1)+m=M.length by rw [h.len];omega];exact hd
   exact znb this
  have hpre0:zdk B M k=some (ds.take k):=by
   have:zdk B M (k+(m+1))=some ds:=by rw [show k+(m+1)=M.length by rw [h.len];omega];exact hd
   exact znb this
  simp only [zdk,hpre0,xM,qB,qE] at hpre
  obtain ⟨d,hdet,d',hck,htake⟩:=hpre
  obtain ⟨rfl,hfit⟩:=zch hck
  obtain ⟨hsq,hml⟩:=qrt h hk
  have hrl:(List.range k++[k]).length=k+1:=by simp
  have tf:=qvl k k (by omega)
  rw [←hrl] at tf
  have hb:∀x∈List.range k++[k],x<n:=by
   intro x hx
   rcases List.mem_append.1 hx with e | e
   ·have:=List.mem_range.1 e;omega
   ·simp at e;omega
  have tsel:=qfk (n:=n) (rs:=List.range k++[k]) (ks:=List.range k++[k]) (c1:=none) (c2:=none) h.mat (by rw [h.len];omega) (by omega) (fun i hi=>h.cols i (by rw [←h.len];exact hi)) (fun x hx=>by rw [h.len];exact hb x hx) (by omega) hb (by omega)
  have tdet:=mDet hB hsq.mat (by rw [hml];omega) (fun i hi=>by rw [hml] at hi ⊢;exact hsq.cols i hi) hdet
  have c2:qK [a,.vec (i64n (List.range k++[k])) (List.range k++[k]).length none,.vec (i64n (List.range k++[k])) (List.range k++[k]).length none]=true:=by simp only [qK,h.closed,AV.closed,qC]
  have hz:zaw d' (intV d'):=zbr (qD hfit hB.1)
  have w5:IntKind.i64.wrap ((k:Int)+1)=((k+1:Nat):Int):=by rw [show (k:Int)+1=((k+1:Nat):Int) by omega];exact w64 (by omega) (by omega)
  obtain ⟨e,rd,hap,hG2,hl2,hk2,_,_⟩:=zgj (bytes:=32) (xs:=[.bool (decide (d'<0)),.vec (u32s (zci d'.natAbs)) (zci d'.natAbs).length none]) hG rfl rfl (by omega) (by omega) (by simp)
  simp only [r124_7,SS,reduceCtorEq,reduceIte,qQ,e0,e7]
  refine zab tf ?_
  simp only [SS,reduceIte,qQ,e7]
  refine zab tf ?_
  simp only [SS,reduceIte,qQ]
  refine zab tsel ?_ c2
  simp only [SS,reduceIte,qQ]
  refine zab tdet ?_
  simp only [SS,reduceIte,qA,qQ,qW,zks,show (intV d').firm=true from rfl]
  simp only [SS,zdc,hap]
  simp only [r124_8,SS,reduceIte,qQ,e7,w5]
  refine ⟨m,_,_,by omega,⟨k+1,cs++[.bool (decide (d'<0)),.vec (u32s (zci d'.natAbs)) (zci d'.natAbs).length none],by omega,?_,?_,?_,?_,?_⟩,.refl⟩
  ·simp only [zaa,qQ,if_false,e0]
  ·simp only [zaa,qQ,if_false,e4]
  ·simp only [zaa,qQ,reduceIte,if_false]
  ·rw [←htake]
   exact zjk hrc _ _ _ hz
  ·simp only [zaa,qQ,reduceIte,if_false]
   exact hG2
 ·have hm:k=n:=by omega
  subst hm
  rw [qU (by omega)] at hrc
  simp only [r124_9,SS,reduceIte,qQ]
  rcases hG with ⟨h0,_⟩ | ⟨_,_,id,h7,hb,_⟩
  ·omega
  ·refine ⟨.inl trivial,_,.tup [.vec cs k none,.bool true],rfl,?_,?_⟩
   ·simp only [zaa,qQ,reduceIte,if_false,h7]
    exact qlp hb hrc hl.symm
   ·simp only [AV.wk,AV.wk.wkL,qff hrc,rowV,hl]
theorem qoq {n:Nat} {M:List (List Int)} {rows:List AV} (hr:∀i,i<M.length→zfv (M.getD i []) (rows.getD i .junk)) (hlen:M.length=n) (hc:∀i,i<n→(M.getD i []).length=n) {i:Nat} (hi:i<n):∃cs c,rows.getD i .junk= .vec cs n c∧cs.length=n*2∧
  ∀j,j<n→∃u v,(cs.drop (j*2)).take 2=[u,v]∧zaw (ent M i j) (.agg [u,v]):=by
 obtain ⟨cs,c,h1,h2⟩:=hr i (by omega)
 have hl:=zcw h2
 rw [hc i hi] at h1 hl
 exact ⟨cs,c,h1,hl,fun j hj=>zei h2 j (by rw [hc i hi];exact hj)⟩
theorem zow {n:Nat} {M:List (List Int)} {a:AV} (h:Sq n M a):Ret Tryz.prog G 119 [a] [] (.bool (symB M)) []:=by
 obtain ⟨⟨rows,c,rfl,hl,hr⟩,hlen,hc,hlo,hhi⟩:=h
 refine zai zah Tryz.func119 comp119 _ 32 res119 nt119 (by simp) (by simp) ?_
 simp only [c119,r119_0,r119_1,SS,reduceCtorEq,reduceIte]
 rw [hlen]
 refine zal (fun m E H=>∃i,i+m=n∧E 0= .vec rows n c∧E 6= .int .i64 (n:Nat)∧E 7= .int .i64 (i:Nat)∧H=[]∧∀i',i'<i→∀j,j<i'→ent M i' j=ent M j i') (n:=n) ⟨0,by omega,?_,?_,?_,rfl,fun i' h=>absurd h (by omega)⟩ ?_
 ·simp only [zaa,zac,qY,qQ,if_false]
 ·simp only [zaa,zac,qJ,qQ,reduceIte,if_false]
 ·simp only [zaa,zac,qJ,qQ,reduceIte,if_false];rfl
 rintro m E H ⟨i,him,e0,e6,e7,rfl,hsym⟩
 refine zaf zah ?_
 simp only [l119_0,r119_2,SS,reduceCtorEq,reduceIte,e6,e7]
 refine ⟨fun hlt=>?_,fun hge=>?_⟩
 ·obtain ⟨m,rfl⟩:∃m',m=m'+1:=⟨m-1,by omega⟩
  have hi:i<n:=by omega
  have w5:IntKind.i64.wrap ((i:Int)+1)=((i+1:Nat):Int):=by rw [show (i:Int)+1=((i+1:Nat):Int) by omega];exact w64 (by omega) (by omega)
  simp only [r119_3,r119_4,SS,reduceIte,qQ,e7]
  refine zal (fun m2 E H=>∃j,j+m2=i∧E 0= .vec rows n c∧E 3= .int .i64 (i:Nat)∧E 4= .int .i64 (j:Nat)∧E 6= .int .i64 (n:Nat)∧E 7= .int .i64 (i:Nat)∧H=[]∧∀j',j'<j→ent M i j'=ent M j' i) (n:=i) ⟨0,by omega,?_,?_,?_,?_,?_,rfl,fun j' h=>absurd h (by omega)⟩ ?_
  ·simp only [zaa,qQ,if_false,e0]
  ·simp only [zaa,qQ,reduceIte,if_false]
  ·simp only [zaa,qQ,reduceIte,if_false];rfl
  ·simp only [zaa,qQ,if_false,e6]
  ·simp only [zaa,qQ,if_false,e7]
  rintro m2 E2 H2 ⟨j,hjm,f0,f3,f4,f6,f7,rfl,hsj⟩
  refine zaf zah ?_
  simp only [l119_1,r119_5,SS,reduceCtorEq,reduceIte,qQ,f3,f4]
  refine ⟨fun hlt3=>?_,fun hge3=>?_⟩
  ·obtain ⟨m2,rfl⟩:∃m',m2=m'+1:=⟨m2-1,by omega⟩
   have hj:j<i:=by omega
   obtain ⟨ci,cci,gi,li,fi⟩:=qoq hr hlen hc (i:=i) hi
   obtain ⟨cj,ccj,gj,lj,fj⟩:=qoq hr hlen hc (i:=j) (by omega)
   obtain ⟨u1,v1,x1,y1⟩:=fi j (by omega)
   obtain ⟨u2,v2,x2,y2⟩:=fj i hi
   have t:=zCmp y1 y2
   have c1:qK [.agg [u1,v1],.agg [u2,v2]]=true:=by simp only [qK,y1.closed,y2.closed,qC]
   have w6:IntKind.i64.wrap ((j:Int)+1)=((j+1:Nat):Int):=by rw [show (j:Int)+1=((j+1:Nat):Int) by omega];exact w64 (by omega) (by omega)
   have hl':rows.length=n:=by omega
   simp only [r119_6,SS,forall_const,reduceCtorEq,reduceIte,qQ,f0,f3,f4,qV,gi,gj,li,lj,hl',x1,x2]
   refine ⟨⟨by omega,by omega⟩,by omega,⟨by omega,by omega⟩,by omega,⟨by omega,by omega⟩,by omega,⟨by omega,by omega⟩,by omega,?_⟩
   refine zab t ?_ c1
   simp only [SS,reduceIte,qQ]
   refine ⟨rfl,fun hne=>?_,fun heq=>?_⟩
   ·have hne2:ent M i j≠ent M j i:=by
     intro e;rw [if_neg (by omega),if_pos e] at hne;exact hne rfl
    have hb:symB M=false:=by
     cases hx:symB M with
     | false=>rfl
     | true=>exact absurd (znc.1 hx i (by omega) j hj) hne2
    rw [hb]
    simp only [r119_7,SS]
    exact ⟨.inl trivial,_,rfl,.drop _ _ rfl (by intro i cs h;omega)⟩
   ·have heq2:ent M i j=ent M j i:=by
     have heq:(if ent M i j<ent M j i then (-1:Int) else if ent M i j=ent M j i then 0 else 1)=0:=by simpa using heq
     split at heq
     ·omega
     ·split at heq
      ·assumption
      ·omega
    simp only [r119_8,SS,reduceIte,qQ,f4,w6]
    refine ⟨m2,_,_,by omega,⟨j+1,by omega,?_,?_,?_,?_,?_,rfl,?_⟩,.refl⟩
    ·simp only [zaa,qQ,if_false,f0]
    ·simp only [zaa,qQ,if_false,f3]
    ·simp only [zaa,qQ,reduceIte,if_false]
    ·simp only [zaa,qQ,if_false,f6]
    ·simp only [zaa,qQ,if_false,f7]
    ·intro j' hj'
     rcases xZ j' j with h | h
     ·exact hsj j' h
     ·rw [show j'=j by omega];exact heq2
  ·simp only [r119_9,SS,reduceIte,qQ,f7,w5]
   refine ⟨m,_,_,by omega,⟨i+1,by omega,?_,?_,?_,rfl,?_⟩,.refl⟩
   ·simp only [zaa,qQ,if_false,f0]
   ·simp only [zaa,qQ,if_false,f6]
   ·simp only [zaa,qQ,reduceIte,if_false]
   ·intro i' hi' j' hj'
    rcases xZ i' i with h | h
    ·exact hsym i' h j' hj'
    ·have:i'=i:=by omega
     subst this
     exact hsj j' (by omega)
 ·have hb:symB M=true:=znc.2 (fun i' hi' j hj=>hsym i' (by omega) j hj)
  rw [hb]
  simp only [r119_10,SS]
  exact ⟨.inl trivial,_,rfl,.drop _ _ rfl (by intro i cs h;omega)⟩
theorem qfm {B n:Nat} {M:List (List Int)} {a:AV} {ds:List Int} (hB:DivB B) (h:Sq n M a) (hd:zjm B M=some ds):Ret Tryz.prog G 120 [a] [] (.bool (defB M ds)) []:=by
 have hl:ds.length=n:=by rw [←h.len];exact zda hd
 have hfit:qfh ds:=fun z hz=>qD (zou hd z hz) hB.1
 have t1:=zqw hB h hd
 have t2:=zow h
 have c1:qK [a]=true:=by simp only [qK,h.closed,qC]
 have hrc:=zjq hfit
 have hcl:=zcw hrc
 have hn8:=h.hi
 refine zai zah Tryz.func120 comp120 _ 29 res120 nt120 (by simp) (by simp) ?_
 simp only [c120,r120_0,r120_1,SS,reduceCtorEq,reduceIte]
 refine zab t1 ?_ c1
 simp only [SS,reduceIte,qQ,qS,qL]
 simp only [r120_2,SS,forall_const,reduceCtorEq,reduceIte,qQ]
 refine zab t2 ?_ c1
 simp only [SS,forall_const,reduceIte,qQ]
 refine ⟨fun hs=>?_,fun hs=>?_⟩
 ·have hs:symB M=false:=by simpa using hs
  have hb:defB M ds=false:=by unfold defB;rw [hs];rfl
  rw [hb]
  simp only [r120_3,SS]
  exact ⟨.inl trivial,_,rfl,.drop _ _ rfl (by intro i cs h;omega)⟩
 ·have hs:symB M=true:=by simpa using hs
  simp only [r120_4,SS,reduceIte,qQ,rowV]
  rw [hl]
  refine zal (fun m E H=>∃i,i+m=n∧E 19= .vec (zte ds) n none∧E 20= .int .i64 (n:Nat)∧E 21= .int .i64 (i:Nat)∧∀i',i'<i→0<ds.getD i' 0) (n:=n) ⟨0,by omega,?_,?_,?_,fun i' h=>absurd h (by omega)⟩ ?_
  ·simp only [zaa,zac,qJ,qQ,reduceIte,if_false]
  ·simp only [zaa,zac,qJ,qQ,reduceIte,if_false]
  ·simp only [zaa,zac,qJ,qQ,reduceIte,if_false];rfl
  rintro m E H ⟨i,him,e19,e20,e21,hpos⟩
  refine zaf zah ?_
  simp only [l120_0,r120_5,SS,reduceCtorEq,reduceIte,e20,e21]
  refine ⟨fun hlt=>?_,fun hge=>?_⟩
  ·obtain ⟨m,rfl⟩:∃m',m=m'+1:=⟨m-1,by omega⟩
   obtain ⟨u,v,hx,hy⟩:=zei hrc i (by omega)
   have hs2:=zjl (r:=[ds.getD i 0]) (cs:=[u,v]) ⟨hy,trivial⟩
   have t3:=zsw hy
   obtain ⟨lz,cz,hz1,hz2⟩:=zao hy
   subst hz1 hz2
   have w5:IntKind.i64.wrap ((i:Int)+1)=((i+1:Nat):Int):=by rw [show (i:Int)+1=((i+1:Nat):Int) by omega];exact w64 (by omega) (by omega)
   simp only [r120_6,SS,reduceIte,qA,qQ,qW,e19,e21,qV,hcl,hl,hx,zdy,zqr]
   refine ⟨⟨by omega,by omega⟩,by omega,?_⟩
   simp only [r120_7,SS,reduceIte,qA,qQ,qW,zdy]
   refine zab t3 ?_
   simp only [SS,reduceIte,qQ]
   refine ⟨fun hle=>?_,fun hle=>?_⟩
   ·have hle2:ds.getD i 0≤0:=by
     rcases Int.lt_or_le 0 (ds.getD i 0) with h' | h'
     ·rw [Int.sign_eq_one_of_pos h'] at hle;omega
     ·exact h'
    have hb:defB M ds=false:=by
     unfold defB
     rw [hs,Bool.true_and]
     cases hx:ds.all fun d=>decide (0<d) with
     | false=>rfl
     | true=>
      rw [xI] at hx
      have:=hx (ds.getD i 0) (by rw [qX,qZ (by omega)];exact qO _)
      simp at this
      simp [qX] at hle2
      omega
    rw [hb]
    simp only [r120_8,SS]
    exact ⟨.inl trivial,_,rfl,.drop _ _ rfl (by intro i cs h;omega)⟩
   ·have hpos2:0<ds.getD i 0:=by
     rcases Int.lt_or_le 0 (ds.getD i 0) with h' | h'
     ·exact h'
     ·exfalso
      apply hle
      rcases Int.lt_or_eq_of_le h' with h2 | h2
      ·rw [Int.sign_eq_neg_one_of_neg h2];omega
      ·rw [h2];decide
    simp only [r120_9,SS,reduceIte,qQ,e21,w5]
    refine ⟨m,_,_,by omega,⟨i+1,by omega,?_,?_,?_,fun i' hi'=>?_⟩,.refl⟩
    ·simp only [zaa,qQ,if_false,e19]
    ·simp only [zaa,qQ,if_false,e20]
    ·simp only [zaa,qQ,reduceIte,if_false]
    ·rcases xZ i' i with h' | h'
     ·exact hpos i' h'
     ·rw [show i'=i by omega];exact hpos2
  ·have hb:defB M ds=true:=by
    unfold defB
    rw [hs,Bool.true_and,xI]
    intro z hz
    obtain ⟨i',hi',rfl⟩:=List.mem_iff_getElem.1 hz
    have:=hpos i' (by omega)
    rw [qX,qZ hi'] at this
    simpa using this
   rw [hb]
   simp only [r120_10,SS]
   exact ⟨.inl trivial,_,rfl,.drop _ _ rfl (by intro i cs h;omega)⟩
theorem znf {B n:Nat} {M:List (List Int)} {a:AV} {ds:List Int} (hB:DivB B) (h:Sq n M a) (hd:zjm B M=some ds):Ret Tryz.prog G 56 [a] [] (.int .i64 (valZ M ds)) []:=by
 have t0:=qfl h
 have t1:=qfm hB h hd
 have t2:=zow h
 have c1:qK [a]=true:=by simp only [qK,h.closed,qC]
 have d1:decide ((8:Int)<(n:Nat))=false:=decide_eq_false (by have:=h.hi;omega)
 refine zai zah Tryz.func56 comp56 _ 25 res56 nt56 (by simp) (by simp) ?_
 simp only [c56,r56_0,r56_1,SS,reduceCtorEq,reduceIte]
 refine zab t0 ?_ c1
 simp only [SS,reduceIte,qQ,qS,qL]
 simp only [r56_2,SS,forall_const,reduceIte,qQ,d1]
 simp only [r56_4,SS,reduceCtorEq,reduceIte,qQ]
 refine zab t2 ?_ c1
 simp only [SS,reduceIte,qQ]
 refine ⟨fun hs=>?_,fun hs=>?_⟩
 ·have hs:symB M=false:=by simpa using hs
  have hv:valZ M ds=4:=by unfold valZ;rw [if_pos hs]
  rw [hv]
  simp only [r56_5,SS]
  exact ⟨.inl trivial,_,rfl,.drop _ _ rfl (by intro i cs h;omega)⟩
 ·have hs:symB M=true:=by simpa using hs
  simp only [r56_6,SS,reduceCtorEq,reduceIte,qQ]
  refine zab t1 ?_ c1
  simp only [SS,reduceIte,qQ]
  refine ⟨fun hd=>?_,fun hd=>?_⟩
  ·have hd:defB M ds=false:=by simpa using hd
   have hv:valZ M ds=5:=by unfold valZ;rw [if_neg (by rw [hs];simp),if_pos hd]
   rw [hv]
   simp only [r56_7,SS]
   exact ⟨.inl trivial,_,rfl,.drop _ _ rfl (by intro i cs h;omega)⟩
  ·have hd:defB M ds=true:=by simpa using hd
   have hv:valZ M ds=0:=by unfold valZ;rw [if_neg (by rw [hs];simp),if_neg (by rw [hd];simp)]
   rw [hv]
   simp only [r56_8,SS]
   exact ⟨.inl trivial,_,rfl,.drop _ _ rfl (by intro i cs h;omega)⟩
theorem qor {B n:Nat} {M:List (List Int)} {a:AV} {d:Int} (hB:DivB B) (h:Sq n M a) (hd:detO B M=some d) (hfit:d.natAbs<B):Ret Tryz.prog G 57 [a] [] (.bool (decide (d≤10000))) []:=by
 have t1:=mDet hB h.mat (by rw [h.len];have:=h.lo;have:=h.hi;omega) (fun i hi=>by rw [h.len] at hi ⊢;exact h.cols i hi) hd
 obtain ⟨v,hv,t2⟩:=zfu 10000 (by omega) (by omega)
 have hz:zaw d (intV d):=zbr (qD hfit hB.1)
 have t3:=zCmp hz hv
 have c1:qK [a]=true:=by simp only [qK,h.closed,qC]
 have c2:qK [intV d,v]=true:=by simp only [qK,hz.closed,hv.closed,qC]
 refine zai zah Tryz.func57 comp57 _ 8 res57 nt57 (by simp) (by simp) ?_
 simp only [c57,r57_0,r57_1,SS,reduceCtorEq,reduceIte]
 refine zab t1 ?_ c1
 simp only [SS]
 refine zab t2 ?_ rfl hv.closed
 simp only [SS,reduceIte,qQ]
 refine zab t3 ?_ c2
 simp only [SS,reduceIte,qQ]
 have e:decide ((if d<10000 then (-1:Int) else if d=10000 then 0 else 1)≤0)=decide (d≤10000):=by
  rw [decide_eq_decide]
  split
  ·omega
  ·split<;>omega
 rw [e]
 exact ⟨.inl trivial,_,rfl,.drop _ _ rfl (by intro i cs h;omega)⟩
theorem qvm {ds:List Int} {cs:List AV} {c:Option Nat} {k:Nat} (hrc:RowC ds cs) (hk:k≤ds.length) (hl:ds.length≤16):Ret Tryz.prog G 130 [.vec cs ds.length c,.int .i64 (k:Nat)] [] (intV (zcf ds k)) []:=by
 have hcl:=zcw hrc
 refine zes zah Tryz.func130 comp130 _ 13 res130 nt130 (by simp) (by simp) ?_
 simp only [c130,r130_0,r130_1,SS,reduceCtorEq,reduceIte,qQ]
 refine ⟨fun h0=>?_,fun h0=>?_⟩
 ·have h0:k=0:=by omega
  obtain ⟨v,hv,t⟩:=zfu 1 (by omega) (by omega)
  have hv0:=hv
  obtain ⟨l1,c1,_,_,_,rfl⟩:=hv0
  simp only [r130_2,SS]
  refine zab t ?_
  simp only [SS,reduceIte,qA,qQ,qW]
  refine ⟨.inl trivial,_,_,zev (id:=0) (by simp only [zaa,zac,qJ,qQ,reduceIte,if_false]) rfl,.drop _ _ rfl (by intro i cs h;omega),?_⟩
  rw [show zcf ds k=1 by unfold zcf;rw [if_pos h0]]
  exact hv.wk
 ·have h0:k≠0:=by omega
  obtain ⟨u,v,hx,hy⟩:=zei hrc (k-1) (by omega)
  have w1:IntKind.i64.wrap ((k:Int)-1)=((k-1:Nat):Int):=by rw [show (k:Int)-1=((k-1:Nat):Int) by omega];exact w64 (by omega) (by omega)
  have hyw:=hy
  obtain ⟨lz,cz,hz1,hz2⟩:=zao hy
  subst hz1 hz2
  simp only [r130_3,SS,reduceCtorEq,reduceIte,qA,qQ,qW,w1,qV,hcl,hx]
  refine ⟨⟨by omega,by omega⟩,by omega,?_⟩
  refine ⟨.inl trivial,_,_,zev (id:=0) (by simp only [zaa,zac,qJ,qQ,reduceIte,if_false]) rfl,.drop _ _ rfl (by intro i cs h;omega),?_⟩
  rw [show zcf ds k=ds.getD (k-1) 0 by unfold zcf;rw [if_neg h0]]
  exact hyw.wk
theorem qaq {f:FuncId} {a v:AV} {l1 l2:List Nat} {n1 n2 i1 i2:Nat} {c1 c2:Option Nat} {H:Heap} {K:AV→Eff→List Nat→Nat→Prop} (h:Ret Tryz.prog G f [a,.vec (i64n l1) n1 c1,.vec (i64n l2) n2 c2] [] v []) (hn1:n1=l1.length) (hn2:n2=l2.length)
  (h1:getB H i1=some (i64n l1)) (h2:getB H i2=some (i64n l2)) (hne:i1≠i2) (ha:a.closed=true) (hfa:∀H0,frzI 0 H0 2 a=some a) (hv:v.closed=true) (hk:K v [(i1,none),(i2,none)] [i1,i2] 0):zmr Tryz.prog G f [a,.sl i1 0 n1 1 c1,.sl i2 0 n2 1 c2] H K:=by
 have hc:∀l:List Nat,qK (i64n l)=true:=by
  intro l
  induction l with
  | nil=>rfl
  | cons d l ih=>exact ih
 have g:∀{i:Nat} {cs:List AV},getB H i=some cs→H[i]?=some (some cs):=by
  intro i cs h
  unfold getB at h
  split at h
  ·rename_i e;simp at h;rw [e,h]
  ·simp at h
 have e0:zan [i1,i2] H.length 0=i1:=by simp [zan]
 have e1:zan [i1,i2] H.length 1=i2:=by simp [zan]
 have hfr:([a,.sl 0 0 n1 1 c1,.sl 1 0 n2 1 c2]:List AV).mapM (frzI 0 [some (i64n l1),some (i64n l2)] 2)=some [a,.vec (i64n l1) n1 c1,.vec (i64n l2) n2 c2]:=by
  have f1:frzI 0 [some (i64n l1),some (i64n l2)] 2 (.sl 0 0 n1 1 c1)=some (.vec (i64n l1) n1 c1):=by
   have e:=zqu l1 0 0 [some (i64n l1),some (i64n l2)]
   rw [frzI]
   simp only [qR,if_false,zmt,need,qT,xV,hn1,zfk,qM,if_true,qP]
   rw [qU (by rw [zfk];omega),e];rfl
  have f2:frzI 0 [some (i64n l1),some (i64n l2)] 2 (.sl 1 0 n2 1 c2)=some (.vec (i64n l2) n2 c2):=by
   have e:=zqu l2 0 0 [some (i64n l1),some (i64n l2)]
   rw [frzI]
   have hg:getB [some (i64n l1),some (i64n l2)] 1=some (i64n l2):=rfl
   simp only [qR,if_false,hg,need,qT,xV,hn2,zfk,qM,if_true,qP]
   rw [qU (by rw [zfk];omega),e];rfl
  rw [xX,xX,xX,hfa,f1,f2];rfl
 have hH1:=zav h1
 have hH2:=zav h2
 have:=CallR0.mk (P:= Tryz.prog) (Γ:=G) (f:=f) (args:=[a,.sl i1 0 n1 1 c1,.sl i2 0 n2 1 c2]) (k:=H.length) (H:=H++List.replicate 0 none) [i1,i2] [a,.sl 0 0 n1 1 c1,.sl 1 0 n2 1 c2] [some (i64n l1),some (i64n l2)] v [none,none] (qen h hfr) rfl (by simp [hne]) (by
   intro i hi
   rcases List.mem_cons.1 hi with e | e
   ·rw [e];exact hH1
   ·simp at e;rw [e];exact hH2) (by simp [AV.ren,e0,e1,zex _ a ha]) (by simp [AV.under.underL,AV.under,zla 2 a ha]) (by
   intro i c hi
   match i,hi with
   | 0,hi=>
    simp at hi;subst hi
    refine ⟨_,rfl,zbt _ _ (hc l1),?_⟩
    rw [e0]
    simp only [renB,zbb _ _ (hc l1)]
    simpa using g h1
   | 1,hi=>
    simp at hi;subst hi
    refine ⟨_,rfl,zbt _ _ (hc l2),?_⟩
    rw [e1]
    simp only [renB,zbb _ _ (hc l2)]
    simpa using g h2
   | i+2,hi=>simp at hi)
 refine ⟨v,_,_,0,?_,hk⟩
 rw [zex _ v hv] at this
 refine .base ?_
 simpa [effs,e0,e1,renB] using this
theorem lam_sq {n:Nat} {M:List (List Int)} {a:AV} (h:Sq n M a) {i j:Nat} (hi:i<n) (hj:j<n):Sq (j+1) (lamM M i j) (matC (lamM M i j))∧(lamM M i j).length=j+1:=by
 have hl:(lamM M i j).length=j+1:=by simp [lamM,selM]
 have hf:=ztf h.mat
 have hent:∀i j,i<n→j<n→(ent M i j).natAbs<BIG:=by
  intro i j hi hj
  have hc:=h.cols i hi
  unfold ent
  rw [qX (l:=M.getD i []),qZ (by omega)]
  have hm:M.getD i []∈M:=by rw [qX,qZ (by rw [h.len];exact hi)];exact qO _
  exact hf _ hm _ (qO _)
 have hb:∀x y,y<n→x∈List.range j++[y]→x<n:=by
  intro x y hy hx
  rcases List.mem_append.1 hx with e | e
  ·have:=List.mem_range.1 e;omega
  ·simp at e;omega
 refine ⟨⟨zne ?_,hl,?_,by omega,by have:=h.hi;omega⟩,hl⟩
 ·intro r hr z hz
  obtain ⟨x,hx,rfl⟩:=List.mem_map.1 hr
  obtain ⟨y,hy,rfl⟩:=List.mem_map.1 hz
  exact hent x y (hb x i hi hx) (hb y j hj hy)
 ·intro x hx
  unfold lamM selM
  rw [qX,qG,qZ (by simp;omega)]
  simp [selR]
theorem zvs {B n:Nat} {M:List (List Int)} {a:AV} {i j:Nat} {d:Int} (hB:DivB B) (h:Sq n M a) (hi:i<n) (hj:j<n) (hd:detO B (lamM M i j)=some d) (hfit:d.natAbs<B):
  Ret Tryz.prog G 129 [a,.int .i64 (i:Nat),.int .i64 (j:Nat)] [] (intV d) []:=by
 have hn8:=h.hi
 obtain ⟨hsq,hml⟩:=lam_sq h hi hj
 have tdet:=mDet hB hsq.mat (by rw [hml];omega) (fun x hx=>by rw [hml] at hx ⊢;exact hsq.cols x hx) hd
 have hb:∀x y,y<n→x∈List.range j++[y]→x<n:=by
  intro x y hy hx
  rcases List.mem_append.1 hx with e | e
  ·have:=List.mem_range.1 e;omega
  ·simp at e;omega
 have tsel:=qfk (n:=n) (rs:=List.range j++[i]) (ks:=List.range j++[j]) (c1:=none) (c2:=none) h.mat (by rw [h.len];omega) (by omega) (fun x hx=>h.cols x (by rw [←h.len];exact hx)) (fun x hx=>by rw [h.len];exact hb x i hi hx) (by simp;omega) (fun x hx=>hb x j hj hx) (by simp;omega)
 have l1:(List.range j++[i]).length=j+1:=by simp
 have l2:(List.range j++[j]).length=j+1:=by simp
 rw [l1,l2] at tsel
 have hfa:∀H0,frzI 0 H0 2 a=some a:=by
  intro H0
  obtain ⟨rows,c,rfl,_⟩:=h.mat;rfl
 have hz:zaw d (intV d):=zbr (qD hfit hB.1)
 refine zai zah Tryz.func129 comp129 _ 34 res129 nt129 (by simp) (by simp) ?_
 simp only [c129,r129_0,r129_1,r129_2,SS,reduceCtorEq]
 refine zal (fun m E H=>∃k,k+m=j∧E 0=a∧E 1= .int .i64 (i:Nat)∧E 2= .int .i64 (j:Nat)∧E 6= .ptr 0 0∧E 9= .int .i64 (k:Nat)∧Grow H 1 k (i64n (List.range k)) (E 7) [0]∧Grow H 1 k (i64n (List.range k)) (E 8) [0]∧
  (∀x m1 m2 c1 c2,E 7= .sl x 0 m1 1 c1→E 8≠ .sl x 0 m2 1 c2)∧∃u v,getB H 0=some [u,v]) (n:=j) ⟨0,by omega,?_,?_,?_,?_,?_,.inl ⟨rfl,rfl,?_⟩,.inl ⟨rfl,rfl,?_⟩,?_,⟨_,_,rfl⟩⟩ ?_
 ·simp only [zaa,zac,qY,qQ,if_false]
 ·simp only [zaa,zac,qY,qJ,qQ,if_false]
 ·simp only [zaa,zac,qY,qJ,qQ,if_false]
 ·simp only [zaa,zac,qJ,qQ,reduceIte,if_false]
 ·simp only [zaa,zac,qJ,qQ,reduceIte,if_false];rfl
 ·simp only [zaa,zac,qJ,qQ,reduceIte,if_false]
 ·simp only [zaa,zac,qJ,qQ,reduceIte,if_false]
 ·intro x m1 m2 c1 c2 e;simp only [zaa,zac,qJ,qQ,reduceIte,if_false] at e;simp at e
 rintro m E H ⟨k,hkm,e0,e1,e2,e6,e9,hG7,hG8,hdis,ru,rv,hres⟩
 refine zaf zah ?_
 simp only [l129_0,r129_3,SS,reduceCtorEq,reduceIte,qQ,e2,e9]
 have h0lt:=zav hres
 refine ⟨fun hlt=>?_,fun hge=>?_⟩
 ·obtain ⟨m,rfl⟩:∃m',m=m'+1:=⟨m-1,by omega⟩
  have w5:IntKind.i64.wrap ((k:Int)+1)=((k+1:Nat):Int):=by rw [show (k:Int)+1=((k+1:Nat):Int) by omega];exact w64 (by omega) (by omega)
  obtain ⟨ea,rda,hapa,hGa,hla,hka,_,_⟩:=zgj (bytes:=8) (xs:=[.int .i64 (k:Nat)]) hG7 rfl rfl (by omega) (by omega) (by simp)
  generalize hH1:zag ea (H++[some [.int .i64 ((k:Nat):Int)]]++[none])=H1 at*
  have hG8':Grow H1 1 k (i64n (List.range k)) (E 8) [0]:=by
   refine hG8.mono (fun id h1 h2=>?_) (fun _ _ h=>h)
   rw [hka id (zav h1) (fun m1 c1 e=>hdis id m1 k c1 none e h2)]
   exact h1
  obtain ⟨eb,rdb,hapb,hGb,hlb,hkb,_,_⟩:=zgj (bytes:=8) (xs:=[.int .i64 (k:Nat)]) hG8' rfl rfl (by omega) (by omega) (by simp)
  generalize hH2:zag eb (H1++[some [.int .i64 ((k:Nat):Int)]]++[none])=H2 at*
  have hrg:i64n (List.range k)++[.int .i64 ((k:Nat):Int)]=i64n (List.range (k+1)):=by simp [i64n,xB]
  rw [hrg] at hGa hGb
  have hold8:∀x m2 c2,E 8= .sl x 0 m2 1 c2→x<H.length:=by
   intro x m2 c2 e
   rcases hG8 with ⟨_,_,h8⟩ | ⟨_,_,id,h8,hb8,_⟩
   ·rw [h8] at e;simp at e
   ·rw [h8] at e;injection e with e;rw [←e];exact zav hb8
  simp only [r129_4,SS,reduceIte,qQ,qW,e9,zdc,hapa,hH1]
  simp only [r129_5,SS,reduceIte,qQ,qW,e9,zdc,hapb,hH2]
  simp only [r129_6,SS,reduceIte,qQ,e9,w5]
  refine ⟨m,_,_,by omega,⟨k+1,by omega,?_,?_,?_,?_,?_,?_,?_,?_,⟨ru,rv,?_⟩⟩,.refl⟩
  ·simp only [zaa,qQ,if_false,e0]
  ·simp only [zaa,qQ,if_false,e1]
  ·simp only [zaa,qQ,if_false,e2]
  ·simp only [zaa,qQ,if_false,e6]
  ·simp only [zaa,qQ,reduceIte,if_false]
  ·simp only [zaa,qQ,reduceIte,if_false]
   refine hGa.mono (fun id h1 h2=>?_) (fun _ _ h=>h)
   rw [hkb id (zav h1) (fun m1 c1 e=>?_)]
   ·exact h1
   ·injection h2 with h2
    have:=hold8 _ _ _ e
    omega
  ·simp only [zaa,qQ,reduceIte,if_false]
   exact hGb
  ·intro x m1 m2 c1 c2 h1 h2
   simp only [zaa,qQ,reduceIte,if_false] at h1 h2
   injection h1 with h1
   injection h2 with h2
   omega
  ·rw [hkb 0 (by omega) (zix hG8' (by simp)),hka 0 h0lt (zix hG7 (by simp))]
   exact hres
 ·have hm:k=j:=by omega
  subst hm
  obtain ⟨ea,rda,hapa,hGa,hla,hka,_,_⟩:=zgj (bytes:=8) (xs:=[.int .i64 (i:Nat)]) hG7 rfl rfl (by omega) (by omega) (by simp)
  generalize hH1:zag ea (H++[some [.int .i64 ((i:Nat):Int)]]++[none])=H1 at*
  have hG8':Grow H1 1 k (i64n (List.range k)) (E 8) [0]:=by
   refine hG8.mono (fun id h1 h2=>?_) (fun _ _ h=>h)
   rw [hka id (zav h1) (fun m1 c1 e=>hdis id m1 k c1 none e h2)]
   exact h1
  obtain ⟨eb,rdb,hapb,hGb,hlb,hkb,_,_⟩:=zgj (bytes:=8) (xs:=[.int .i64 (k:Nat)]) hG8' rfl rfl (by omega) (by omega) (by simp)
  generalize hH2:zag eb (H1++[some [.int .i64 ((k:Nat):Int)]]++[none])=H2 at*
  have hrg1:i64n (List.range k)++[.int .i64 ((i:Nat):Int)]=i64n (List.range k++[i]):=by simp [i64n]
  have hrg2:i64n (List.range k)++[.int .i64 ((k:Nat):Int)]=i64n (List.range k++[k]):=by simp [i64n]
  rw [hrg1] at hGa
  rw [hrg2] at hGb
  have hold8:∀x m2 c2,E 8= .sl x 0 m2 1 c2→x<H.length:=by
   intro x m2 c2 e
   rcases hG8 with ⟨_,_,h8⟩ | ⟨_,_,id,h8,hb8,_⟩
   ·rw [h8] at e;simp at e
   ·rw [h8] at e;injection e with e;rw [←e];exact zav hb8
  have ga:getB H1 (H.length+1)=some (i64n (List.range k++[i])):=by
   rcases hGa with ⟨h,_⟩ | ⟨_,_,id,h1,h2,_⟩
   ·omega
   ·injection h1 with h1;rw [h1];exact h2
  have ga2:getB H2 (H.length+1)=some (i64n (List.range k++[i])):=by
   rw [hkb _ (zav ga) (fun m1 c1 e=>by have:=hold8 _ _ _ e;omega)]
   exact ga
  have gb:getB H2 (H1.length+1)=some (i64n (List.range k++[k])):=by
   rcases hGb with ⟨h,_⟩ | ⟨_,_,id,h1,h2,_⟩
   ·omega
   ·injection h1 with h1;rw [h1];exact h2
  have g0:getB H2 0=some [ru,rv]:=by
   rw [hkb 0 (by omega) (zix hG8' (by simp)),hka 0 h0lt (zix hG7 (by simp))]
   exact hres
  simp only [r129_7,SS,reduceCtorEq,reduceIte,qQ,qW,e0,e1,e2,zdc,hapa,hH1,hapb,hH2]
  refine qaq tsel l1.symm l2.symm ga2 gb (by omega) h.closed hfa rfl ?_
  simp only [zba,zag,xD,yX,SS,reduceIte,qQ]
  refine zab tdet ?_
  have g1:getB ((H2.set (H.length+1) none).set (H1.length+1) none) 0=some [ru,rv]:=by
   rw [zat (by omega),zat (by omega)];exact g0
  simp only [SS,reduceIte,qA,qQ,qW,e6,g1,zks,show (intV d).firm=true from rfl]
  refine ⟨.inl trivial,_,zev (id:=0) (by simp only [zaa,qQ,if_false,e6]) (zbm (zav g1)),.drop _ _ rfl (by intro i cs h;omega)⟩
structure Lead (B n:Nat) (M:List (List Int)) (ds:List Int):Prop where
 eq:zjm B M=some ds
 len:ds.length=n
 fits:∀z∈ds,z.natAbs<B
theorem qfn {B n:Nat} {M:List (List Int)} {a:AV} {ds:List Int} (h:Sq n M a) (hd:zjm B M=some ds):Lead B n M ds:=⟨hd,by rw [←h.len];exact zda hd,zou hd⟩
theorem zkt {B n:Nat} {M:List (List Int)} {ds:List Int} (hB:DivB B) (h:Lead B n M ds) (k:Nat):(zcf ds k).natAbs<BIG:=by
 unfold zcf
 split
 ·exact zhz (by decide)
 ·rw [qX]
  cases e:ds[k-1]? with
  | none=>exact zhz (by decide)
  | some z=>exact qD (h.fits z (List.mem_of_getElem? e)) hB.1
theorem zth {B n:Nat} {M:List (List Int)} {ds:List Int} (hB:DivB B) (h:Lead B n M ds) (hn:n≤8) {k:Nat} (hk:k≤n):Ret Tryz.prog G 130 [rowV ds,.int .i64 (k:Nat)] [] (intV (zcf ds k)) []:=
 qvm (zjq (fun z hz=>qD (h.fits z hz) hB.1)) (by rw [h.len];exact hk) (by rw [h.len];omega)
theorem qos {B n:Nat} {M:List (List Int)} {a:AV} {ds:List Int} {i j:Nat} {b:Bool} (hB:DivB B) (h:Sq n M a) (hd:Lead B n M ds) (hi:i<n) (hj:j<n) (hb:zjn B M ds i j=some b):
  Ret Tryz.prog G 125 [a,rowV ds,.int .i64 (i:Nat),.int .i64 (j:Nat)] [] (.bool b) []:=by
 unfold zjn at hb
 simp only [qB,qE] at hb
 obtain ⟨l,hl,x,hx,rfl⟩:=hb
 obtain ⟨hdet,hlf⟩:=zfw hl
 obtain ⟨rfl,hxf⟩:=zch hx
 have hn8:=h.hi
 have t1:=zvs hB h hi hj hdet hlf
 have hz:zaw l (intV l):=zbr (qD hlf hB.1)
 obtain ⟨v2,hv2,t2⟩:=zfu 2 (by omega) (by omega)
 obtain ⟨va,hva,t3⟩:=zAbs hz
 have hf:(2*(l.natAbs:Int)).natAbs<BIG:=by have:=hB.1;omega
 obtain ⟨vm,hvm,t4⟩:=zMul hv2 hva hf
 have t5:=zth hB hd hn8 (k:=j+1) (by omega)
 have hm:zaw (zcf ds (j+1)) (intV (zcf ds (j+1))):=zbr (zkt hB hd _)
 have t6:=zCmp hvm hm
 have w5:IntKind.i64.wrap ((j:Int)+1)=((j+1:Nat):Int):=by rw [show (j:Int)+1=((j+1:Nat):Int) by omega];exact w64 (by omega) (by omega)
 have c1:qK [a,.int .i64 (i:Nat),.int .i64 (j:Nat)]=true:=by simp only [qK,h.closed,AV.closed,qC]
 have c2:qK [v2,va]=true:=by simp only [qK,hv2.closed,hva.closed,qC]
 have c3:qK [vm,intV (zcf ds (j+1))]=true:=by simp only [qK,hvm.closed,hm.closed,qC]
 refine zai zah Tryz.func125 comp125 _ 22 res125 nt125 (by simp) (by simp) ?_
 simp only [c125,r125_0,r125_1,SS,reduceCtorEq]
 refine zab t2 ?_ rfl hv2.closed
 simp only [SS,reduceCtorEq,reduceIte,qQ]
 refine zab t1 ?_ c1
 simp only [SS,reduceIte,qQ]
 refine zab t3 ?_ rfl hva.closed
 simp only [SS,reduceIte,qQ]
 refine zab t4 ?_ c2 hvm.closed
 simp only [SS,reduceIte,qQ,w5]
 refine zab t5 ?_
 simp only [SS,reduceIte,qQ]
 refine zab t6 ?_ c3
 simp only [SS,reduceIte,qQ]
 have e:decide ((if 2*(l.natAbs:Int)<zcf ds (j+1) then (-1:Int) else if 2*(l.natAbs:Int)=zcf ds (j+1) then 0 else 1)≤0)=decide (2*(l.natAbs:Int)≤zcf ds (j+1)):=by
  rw [decide_eq_decide]
  split
  ·omega
  ·split<;>omega
 rw [e]
 exact ⟨.inl trivial,_,rfl,.drop _ _ rfl (by intro i cs h;omega)⟩
theorem qfo {B n:Nat} {M:List (List Int)} {a:AV} {ds:List Int} {i:Nat} {b:Bool} (hB:DivB B) (h:Sq n M a) (hd:Lead B n M ds) (h0:0<i) (hi:i<n) (hb:lovO B M ds i=some b):
  Ret Tryz.prog G 131 [a,rowV ds,.int .i64 (i:Nat)] [] (.bool b) []:=by
 unfold lovO at hb
 simp only [qB,qE] at hb
 obtain ⟨l,hl,p,hp,q,hq,s,hs,x,hx,r,hr,y,hy,rfl⟩:=hb
 obtain ⟨hdet,hlf⟩:=zfw hl
 obtain ⟨rfl,hpf⟩:=zch hp
 obtain ⟨rfl,hqf⟩:=zch hq
 obtain ⟨rfl,hsf⟩:=zch hs
 obtain ⟨rfl,hxf⟩:=zch hx
 obtain ⟨rfl,hrf⟩:=zch hr
 obtain ⟨rfl,hyf⟩:=zch hy
 have hn8:=h.hi
 have up:∀{z:Nat},z<B→z<BIG:=fun h=>qD h hB.1
 have t1:=zvs hB h hi (show i-1<n by omega) hdet hlf
 have hz:zaw l (intV l):=zbr (up hlf)
 have mi:=fun k=>(zbr (zkt hB hd k):zaw (zcf ds k) (intV (zcf ds k)))
 obtain ⟨v4,hv4,t2⟩:=zfu 4 (by omega) (by omega)
 obtain ⟨v3,hv3,t3⟩:=zfu 3 (by omega) (by omega)
 have t4:=zth hB hd hn8 (k:=i-1) (by omega)
 have t5:=zth hB hd hn8 (k:=i+1) (by omega)
 have t6:=zth hB hd hn8 (k:=i) (by omega)
 obtain ⟨vp,hvp,t7⟩:=zMul (mi (i-1)) (mi (i+1)) (up hpf)
 obtain ⟨vq,hvq,t8⟩:=zMul hz hz (up hqf)
 obtain ⟨vs,hvs,t9⟩:=zAdd hvp hvq (up hsf)
 obtain ⟨vx,hvx,t10⟩:=zMul hv4 hvs (up hxf)
 obtain ⟨vr,hvr,t11⟩:=zMul (mi i) (mi i) (up hrf)
 obtain ⟨vy,hvy,t12⟩:=zMul hv3 hvr (up hyf)
 have t13:=zCmp hvx hvy
 have w1:IntKind.i64.wrap ((i:Int)-1)=((i-1:Nat):Int):=by rw [show (i:Int)-1=((i-1:Nat):Int) by omega];exact w64 (by omega) (by omega)
 have w2:IntKind.i64.wrap ((i:Int)+1)=((i+1:Nat):Int):=by rw [show (i:Int)+1=((i+1:Nat):Int) by omega];exact w64 (by omega) (by omega)
 have c1:qK [a,.int .i64 (i:Nat),.int .i64 ((i-1:Nat):Int)]=true:=by simp only [qK,h.closed,AV.closed,qC]
 have hx0:=hvx
 obtain ⟨lx,cx,_,_,_,rfl⟩:=hx0
 have k2:∀{u v:AV},u.closed=true→v.closed=true→qK [u,v]=true:=by
  intro u v h1 h2;simp only [qK,h1,h2,qC]
 refine zai zah Tryz.func131 comp131 _ 41 res131 nt131 (by simp) (by simp) ?_
 simp only [c131,r131_0,r131_1,SS,reduceCtorEq,reduceIte,qQ,w1]
 refine zab t1 ?_ c1
 simp only [SS,reduceIte,qA,qQ,qW,zks,show (intV l).firm=true from rfl]
 simp only [r131_2,SS]
 refine zab t2 ?_ rfl hv4.closed
 simp only [SS,reduceIte,qQ,w1]
 refine zab t4 ?_
 simp only [SS,reduceIte,qQ,w2]
 refine zab t5 ?_
 simp only [SS,reduceIte,qQ]
 refine zab t7 ?_ rfl hvp.closed
 simp only [SS,reduceIte,qA,qQ,qW]
 refine zab t8 ?_ rfl hvq.closed
 simp only [SS,reduceIte,qQ]
 refine zab t9 ?_ (k2 hvp.closed hvq.closed) hvs.closed
 simp only [SS,reduceIte,qQ]
 refine zab t10 ?_ (k2 hv4.closed hvs.closed)
 simp only [SS,reduceIte,qA,qQ,qW]
 refine ⟨rfl,?_⟩
 simp only [r131_3,SS,reduceIte,qA,qQ,qW]
 refine zab t3 ?_ rfl hv3.closed
 simp only [SS,reduceIte,qQ]
 refine zab t6 ?_
 simp only [SS,reduceIte,qQ]
 refine zab t6 ?_
 simp only [SS,reduceIte,qQ]
 refine zab t11 ?_ rfl hvr.closed
 simp only [SS,reduceIte,qQ]
 refine zab t12 ?_ (k2 hv3.closed hvr.closed) hvy.closed
 simp only [SS,reduceIte,qQ]
 refine zab t13 ?_ (k2 rfl hvy.closed)
 simp only [SS,reduceIte,qQ]
 refine ⟨rfl,?_⟩
 generalize 4*(zcf ds (i-1)*zcf ds (i+1)+l*l)=x
 generalize 3*(zcf ds i*zcf ds i)=y
 have e:decide ((0:Int)≤if x<y then (-1:Int) else if x=y then 0 else 1)=decide (y≤x):=by
  rw [decide_eq_decide]
  split
  ·omega
  ·split<;>omega
 first | rw [e] | (simp only [ge_iff_le];rw [e])
 exact ⟨.inl trivial,_,rfl,.drop _ _ rfl (by intro i cs h;omega)⟩
def zrow (n:Nat):List Int:=List.replicate n 0
def zmat (N n:Nat):List (List Int):=List.replicate N (zrow n)
def zcs (n:Nat):List AV:=zfo n [.bool false,.vec [] 0 (some 0)]
theorem zox:zaw 0 (.agg [.bool false,.vec [] 0 (some 0)]):=⟨[],some 0,zcg.nil,by simp,rfl,rfl⟩
theorem qar:∀n,RowC (zrow n) (zcs n):=by
 intro n
 induction n with
 | zero=>trivial
 | succ n ih=>exact ⟨zox,ih⟩
theorem zls {N n i:Nat} (h:i<N):(zmat N n).getD i []=zrow n:=by
 unfold zmat
 rw [qX,xY,if_pos h,yC]
def zps (n i:Nat):List (Nat×Option Nat):=(List.range i).map fun k=>(k+1,some n)
def zH (N n i:Nat):Heap:=some ((zps n i).map (zcm n)++List.replicate (N-i) nilV)::List.replicate i (some (zcs n))
theorem zqx (n i:Nat):(zps n i).length=i:=by simp [zps]
theorem qru {n i k:Nat} (h:k<i):(zps n i).getD k (0,none)=(k+1,some n):=by
 rw [qX];simp [zps,h]
theorem qvn {N n i k:Nat} (h:k<i):getB (zH N n i) (k+1)=some (zcs n):=by
 unfold getB zH
 rw [qL,xY,if_pos h]
theorem qvo (N n:Nat):MatH (zH N n N) 0 (zps n N) n (zmat N n):=by
 refine ⟨?_,by rw [zqx];simp [zmat],fun i hi=>?_,fun i hi=>?_,?_⟩
 ·show some ((zps n N).map (zcm n)++List.replicate (N-N) nilV)=_
  rw [xP,xD,yX]
 ·have hi:i<N:=by simpa [zmat] using hi
  rw [zls hi];simp [zrow]
 ·have hi:i<N:=by simpa [zmat] using hi
  rw [qru hi,zls hi]
  exact ⟨_,qvn hi,qar n⟩
 ·rw [qH]
  have e:(zps n N).map (·.1)=(List.range N).map (· + 1):=by simp [zps]
  rw [e]
  refine ⟨fun h=>?_,?_⟩
  ·obtain ⟨k,_,hk⟩:=List.mem_map.1 h
   omega
  ·refine List.pairwise_iff_getElem.2 (fun i j hi hj hij=>?_)
   rw [qI,qI,xG,xG]
   omega
theorem qfp {N n:Nat} (hN:N≤16) (hn:n≤16):Ret Tryz.prog G 123 [.int .i64 (N:Nat),.int .i64 (n:Nat)] [] (.sl 0 0 N 1 (some N)) (zH N n N):=by
 refine zai zah Tryz.func123 comp123 _ 21 res123 nt123 (by simp) (by simp) ?_
 simp only [c123,r123_0,r123_1,SS,reduceCtorEq,reduceIte,qQ,qV]
 refine ⟨by omega,⟨by omega,by omega,by omega,by omega⟩,?_⟩
 simp only [r123_2,SS,reduceIte,qQ]
 refine zal (fun k E H=>∃i,i+k=N∧H=zH N n i∧E 1= .int .i64 (n:Nat)∧E 5= .sl 0 0 N 1 (some N)∧E 10= .int .i64 (N:Nat)∧E 11= .int .i64 (i:Nat)) (n:=N) ⟨0,by omega,?_,?_,?_,?_,?_⟩ ?_
 ·simp [zH,zps]
 ·simp only [zaa,zac,qY,qJ,qQ,if_false]
 ·simp only [zaa,zac,qJ,qQ,reduceIte,if_false]
 ·simp only [zaa,zac,qJ,qQ,reduceIte,if_false]
 ·simp only [zaa,zac,qJ,qQ,reduceIte,if_false];rfl
 rintro k E H ⟨i,hik,rfl,e1,e5,e10,e11⟩
 refine zaf zah ?_
 simp only [l123_0,r123_3,SS,reduceCtorEq,reduceIte,e10,e11]
 refine ⟨fun hlt=>?_,fun hge=>?_⟩
 ·obtain ⟨k,rfl⟩:∃k',k=k'+1:=⟨k-1,by omega⟩
  have hi:i<N:=by omega
  have w5:IntKind.i64.wrap ((i:Int)+1)=((i+1:Nat):Int):=by rw [show (i:Int)+1=((i+1:Nat):Int) by omega];exact w64 (by omega) (by omega)
  have hlen:(zH N n i).length=i+1:=by simp [zH]
  have h0:getB (zH N n i++[some (zfo n [AV.bool false,AV.vec [] 0 (some 0)])]) 0=some ((zps n i).map (zcm n)++List.replicate (N-i) nilV):=rfl
  have hl0:((zps n i).map (zcm n)++List.replicate (N-i) nilV).length=N:=by simp [zqx];omega
  simp only [r123_4,r123_5,SS,reduceIte,qA,qQ,e1,e5,e11,qV,hlen,h0,hl0]
  refine ⟨by omega,⟨by omega,by omega,by omega,by omega⟩,⟨by omega,by omega⟩,by omega,?_⟩
  simp only [r123_6,SS,reduceIte,qQ,e11,w5]
  refine ⟨k,_,_,by omega,⟨i+1,by omega,?_,?_,?_,?_,?_⟩,.refl⟩
  ·have e:List.replicate (N-i) nilV=nilV::List.replicate (N-(i+1)) nilV:=by rw [←xC];congr 1;omega
   have ez:zps n (i+1)=zps n i++[(i+1,some n)]:=by simp [zps,xB]
   have hset:((zps n i).map (zcm n)++List.replicate (N-i) nilV).set i (.sl (i+1) 0 n 2 (some n))=(zps n (i+1)).map (zcm n)++List.replicate (N-(i+1)) nilV:=by
    rw [e,ez,xJ _ _ (by simp [zqx])]
    simp [zqx,zcm]
   show some (((zps n i).map (zcm n)++List.replicate (N-i) nilV).set i (.sl (i+1) 0 n 2 (some n)))::(List.replicate i (some (zcs n))++[some (zcs n)])=zH N n (i+1)
   rw [hset,←List.replicate_succ']
   rfl
  all_goals simp only [zaa,qQ,reduceIte,if_false, *]
 ·have:i=N:=by omega
  subst this
  simp only [r123_7,SS,reduceIte,qQ,e5]
  exact ⟨.inl trivial,_,rfl,.keep _ _⟩
def i64z (r:List Int):List AV:=r.map fun z=>AV.int .i64 z
theorem zax (r:List Int):(i64z r).length=r.length:=by simp [i64z]
theorem zbv (r:List Int) (j:Nat) (h:j<r.length) (d:AV):(i64z r).getD j d= .int .i64 (r.getD j 0):=by simp [i64z,h]
def In64 (z:Int):Prop:= -9223372036854775808≤z∧z<9223372036854775808
structure ImV (M:List (List Int)) (a:AV):Prop where
 val:∃rows c,a= .vec rows M.length c∧rows.length=M.length∧∀i,i<M.length→∃c',rows.getD i .junk= .vec (i64z (M.getD i [])) (M.getD i []).length c'
 fit:∀i j,In64 (ent M i j)
theorem ImV.closed {M:List (List Int)} {a:AV} (h:ImV M a):a.closed=true:=by
 obtain ⟨rows,c,rfl,_⟩:=h.val;rfl
theorem zqy {N n:Nat} {M M':List (List Int)} (h1:M.length=N) (h2:M'.length=N) (h3:∀i,i<N→(M.getD i []).length=n) (h4:∀i,i<N→(M'.getD i []).length=n) (h:∀i j,i<N→j<n→ent M i j=ent M' i j):M=M':=by
 refine xN (h1.trans h2.symm) fun i hi hi'=>?_
 have e1:M.getD i []=M[i]:=by rw [qX,qZ hi];rfl
 have e2:M'.getD i []=M'[i]:=by rw [qX,qZ hi'];rfl
 have l1:=h3 i (by omega)
 have l2:=h4 i (by omega)
 rw [e1] at l1
 rw [e2] at l2
 refine xN (l1.trans l2.symm) fun j hj hj'=>?_
 have:=h i j (by omega) (by omega)
 unfold ent at this
 rw [e1,e2,qX,qX,qZ hj,qZ hj'] at this
 simpa using this
theorem zxt {H:Heap} {o n:Nat} {ps:List (Nat×Option Nat)} {M:List (List Int)} (h:MatH H o ps n M):zxs H n ps M:=⟨h.len,fun i hi=>⟨h.cols i hi,h.rows i hi⟩⟩
theorem zia {H:Heap} {o n:Nat} {ps:List (Nat×Option Nat)} {M:List (List Int)} {cap:Option Nat} {b:Bool} (h:MatH H o ps n M):∃v,AL.Fin 0 (.tup [.sl o 0 M.length 1 cap,.bool b]) H v []∧v.wk= .tup [matC M,.bool b]:=by
 obtain ⟨vs,h1,h2,h3⟩:=zqv (zxt h)
 have hl:=h.len
 refine ⟨.tup [.vec vs M.length cap,.bool b],.freeze 4 _ _ _ ?_ (by intro i cs h;omega),?_⟩
 ·have e:frzI 0 H 3 (.sl o 0 M.length 1 cap)=some (.vec vs M.length cap):=by
   rw [frzI]
   simp only [qR,if_false,h.outer,need,qT,xV,qN,hl,qM,if_true,qP]
   rw [qU (by simp [hl]),h1]
   rfl
  rw [frzI]
  simp only [xX,List.mapM_nil,e]
  rfl
 ·have:=qfj (M:=M) (a:= .vec vs M.length cap) ⟨vs,cap,rfl,h2,h3⟩
  simp only [AV.wk,AV.wk.wkL] at this ⊢
  rw [this]
theorem zjr (N n i j:Nat):ent (zmat N n) i j=0:=by
 have hz:∀j,(zrow n).getD j 0=0:=by
  intro j
  rw [qX]
  unfold zrow
  rw [xY]
  split<;>rfl
 unfold ent
 rcases xZ i N with h | h
 ·rw [zls h];exact hz j
 ·have e:(zmat N n).getD i []=[]:=by rw [qX,xA (by rw [zmat,List.length_replicate];exact h)];rfl
  rw [e];rfl
theorem zib (N n:Nat):(zmat N n).length=N∧∀i,i<N→((zmat N n).getD i []).length=n:=⟨by simp [zmat],fun i hi=>by rw [zls hi];simp [zrow]⟩
theorem zgk {M:List (List Int)} {i j:Nat} {z:Int} (hi:i<M.length) (hj:j<(M.getD i []).length) (s t:Nat):ent (setM M i j z) s t=if s=i∧t=j then z else ent M s t:=by
 have key:∀{α:Type} {l:List α} {i j:Nat} {x d:α},i<l.length→(l.set i x).getD j d=if j=i then x else l.getD j d:=by
  intro α l i j x d h
  rw [qX,xU,qX]
  by_cases e:i=j
  ·subst e;rw [if_pos rfl,if_pos h,if_pos rfl];rfl
  ·rw [if_neg e,if_neg (Ne.symm e)]
 unfold ent setM
 rw [key hi]
 by_cases h1:s=i
 ·subst h1
  rw [if_pos rfl,key hj]
  by_cases h2:t=j
  ·rw [if_pos h2,if_pos ⟨rfl,h2⟩]
  ·rw [if_neg h2,if_neg (fun e=>h2 e.2)]
 ·rw [if_neg h1,if_neg (fun e=>h1 e.1)]
theorem zoy (H:Heap) (N n:Nat):MatH (H++(zH N n N).map (renB (zan [] H.length))) H.length ((zps n N).map fun p=>(H.length+p.1,p.2)) n (zmat N n):=zjp (qvo N n)
theorem qlq {M:List (List Int)} {rows:List AV} {c cap:Option Nat} {n:Nat} (hn:n≤16) (hN:M.length≤16) (hl:rows.length=M.length) (hr:∀i,i<M.length→∃c',rows.getD i .junk= .vec (i64z (M.getD i [])) (M.getD i []).length c') (hc:∀i,i<M.length→(M.getD i []).length=n) (hf:∀i j,In64 (ent M i j))
  {i:Nat} (hi:i<M.length) {v49 v50:AV} {Q:Post} {ps:List (Nat×Option Nat)} {X0:List (List Int)} (hX0:X0.length=M.length)
  {E:Env} {H:Heap} (hM:MatH H 0 ps n X0) (e0:E 0= .vec rows M.length c) (e6:E 6= .sl 0 0 M.length 1 cap) (e7:E 7= .int .i64 (i:Nat)) (e49:E 49=v49) (e50:E 50=v50) (e57:E 57= .int .i64 (n:Nat)) (e58:E 58= .int .i64 0)
  (hQ:∀E' H' X,MatH H' 0 ps n X→X.length=M.length→(∀s t,ent X s t=if s=i∧t<n then ent M s t else ent X0 s t)→E' 0= .vec rows M.length c→E' 6= .sl 0 0 M.length 1 cap→E' 49=v49→E' 50=v50→Q (.exit 4) E' H'):
  W Tryz.prog G 0 78 (.loop l64_2) E H Q:=by
 refine zal (fun k E H=>∃j X,j+k=n∧MatH H 0 ps n X∧X.length=M.length∧(∀s t,ent X s t=if s=i∧t<j then ent M s t else ent X0 s t)∧E 0= .vec rows M.length c∧E 6= .sl 0 0 M.length 1 cap∧E 7= .int .i64 (i:Nat)∧E 49=v49∧E 50=v50∧
  E 57= .int .i64 (n:Nat)∧E 58= .int .i64 (j:Nat)) (n:=n) ⟨0,X0,by omega,hM,hX0,fun s t=>by rw [if_neg (by omega)],e0,e6,e7,e49,e50,e57,e58⟩ ?_
 rintro k E H ⟨j,X,hjk,hM,hXl,hX,e0,e6,e7,e49,e50,e57,e58⟩
 refine zaf zah ?_
 simp only [l64_2,r64_14,SS,reduceIte,e57,e58]
 refine ⟨fun hlt=>?_,fun hge=>?_⟩
 ·obtain ⟨k,rfl⟩:∃k',k=k'+1:=⟨k-1,by omega⟩
  have hj:j<n:=by omega
  obtain ⟨ci,hci⟩:=hr i hi
  have hrl:=hc i hi
  have gz:=zbv (M.getD i []) j (by omega) .junk
  obtain ⟨csk,gk,lk,rk,fk⟩:=zer hM (i:=i) (by omega)
  have ok:=zce (ps:=ps) (n:=n) (i:=i) (by rw [hM.len];omega)
  have hol:(ps.map (zcm n)).length=M.length:=by rw [qN,hM.len];exact hXl
  have hou:=hM.outer
  obtain ⟨z1,z2⟩:=hf i j
  obtain ⟨v,hv,ts⟩:=zfu (ent M i j) (by omega) (by omega)
  have hv0:=hv
  obtain ⟨lv,cv,_,_,_,rfl⟩:=hv0
  have hset:=ziw hM (i:=i) (j:=j) (by omega) hj hv gk
  have w5:IntKind.i64.wrap ((j:Int)+1)=((j+1:Nat):Int):=by rw [show (j:Int)+1=((j+1:Nat):Int) by omega];exact w64 (by omega) (by omega)
  have hent:(M.getD i []).getD j 0=ent M i j:=rfl
  simp only [r64_15,r64_16,SS,forall_const,reduceCtorEq,reduceIte,qQ,e0,e6,e7,e58,qV,hou,hol,ok,hci,hl,gz,hent,zax,hrl]
  refine ⟨⟨by omega,by omega⟩,by omega,⟨by omega,by omega⟩,by omega,⟨by omega,by omega⟩,by omega,?_⟩
  refine zab ts ?_
  simp only [SS,reduceIte,qA,qQ,gk,lk,qV]
  refine ⟨⟨by omega,by omega⟩,by omega,rfl,?_⟩
  simp only [r64_17,SS,reduceIte,qQ,e58,w5]
  refine ⟨k,_,_,by omega,⟨j+1,setM X i j (ent M i j),by omega,hset,by rw [zcn];exact hXl,?_,?_,?_,?_,?_,?_,?_,?_⟩,.refl⟩
  ·intro s t
   rw [zgk (by omega) (by rw [hM.cols i (by omega)];exact hj),hX]
   by_cases h1:s=i∧t=j
   ·rw [if_pos h1,if_pos ⟨h1.1,by omega⟩,h1.1,h1.2]
   ·rw [if_neg h1]
    by_cases h2:s=i∧t<j
    ·rw [if_pos h2,if_pos ⟨h2.1,by omega⟩]
    ·rw [if_neg h2,if_neg (by omega)]
  all_goals simp only [zaa,qQ,reduceIte,if_false, *]
 ·have hjn:j=n:=by omega
  subst hjn
  exact hQ _ _ X hM hXl hX (by simp only [zaa,qQ,if_false,e0]) (by simp only [zaa,qQ,if_false,e6]) (by simp only [zaa,qQ,if_false,e49]) (by simp only [zaa,qQ,if_false,e50])
theorem qfq {M:List (List Int)} {rows:List AV} {c cap:Option Nat} {n:Nat} (hn:n≤16) (hN:M.length≤16) (hl:rows.length=M.length) (hr:∀i,i<M.length→∃c',rows.getD i .junk= .vec (i64z (M.getD i [])) (M.getD i []).length c') (hc:∀i,i<M.length→(M.getD i []).length=n) (hf:∀i j,In64 (ent M i j))
  {Q:Post} {ps:List (Nat×Option Nat)} {E:Env} {H:Heap} (hM:MatH H 0 ps n (zmat M.length n)) (e0:E 0= .vec rows M.length c) (e6:E 6= .sl 0 0 M.length 1 cap) (e49:E 49= .int .i64 (M.length:Nat)) (e50:E 50= .int .i64 0)
  (hQ:∀E' H',MatH H' 0 ps n M→E' 6= .sl 0 0 M.length 1 cap→Q (.exit 2) E' H'):
  W Tryz.prog G 0 78 (.loop l64_1) E H Q:=by
 refine zal (fun k E H=>∃i X,i+k=M.length∧MatH H 0 ps n X∧X.length=M.length∧(∀s t,ent X s t=if s<i∧t<n then ent M s t else 0)∧E 0= .vec rows M.length c∧E 6= .sl 0 0 M.length 1 cap∧E 49= .int .i64 (M.length:Nat)∧E 50= .int .i64 (i:Nat)) (n:=M.length) ⟨0,zmat M.length n,by omega,hM,(zib _ _).1,fun s t=>by rw [if_neg (by omega),zjr],e0,e6,e49,e50⟩ ?_
 rintro k E H ⟨i,X,hik,hM,hXl,hX,e0,e6,e49,e50⟩
 refine zaf zah ?_
 simp only [l64_1,r64_11,SS,reduceIte,e49,e50]
 refine ⟨fun hlt=>?_,fun hge=>?_⟩
 ·obtain ⟨k,rfl⟩:∃k',k=k'+1:=⟨k-1,by omega⟩
  have hi:i<M.length:=by omega
  obtain ⟨ci,hci⟩:=hr i hi
  have hrl:=hc i hi
  have w5:IntKind.i64.wrap ((i:Int)+1)=((i+1:Nat):Int):=by rw [show (i:Int)+1=((i+1:Nat):Int) by omega];exact w64 (by omega) (by omega)
  simp only [r64_12,r64_13,SS,forall_const,reduceCtorEq,reduceIte,qQ,e0,e50,qV,hci,hl,hrl]
  refine ⟨⟨by omega,by omega⟩,by omega,?_⟩
  refine qlq hn hN hl hr hc hf hi (c:=c) (cap:=cap) hXl hM (by simp only [zaa,qQ,if_false,e0]) (by simp only [zaa,qQ,if_false,e6]) (by simp only [zaa,qQ,reduceIte,if_false]) (by simp only [zaa,qQ,if_false];exact e49) (by simp only [zaa,qQ,if_false];exact e50) (by simp only [zaa,qQ,reduceIte,if_false]) (by simp only [zaa,qQ,reduceIte,if_false]) ?_
  intro E' H' X' hM' hXl' hX' f0 f6 f49 f50
  simp only [SS,reduceIte,qQ,r64_18,f50,w5]
  refine ⟨k,_,_,by omega,⟨i+1,X',by omega,hM',hXl',?_,?_,?_,?_,?_⟩,.refl⟩
  ·intro s t
   rw [hX',hX]
   by_cases h1:s=i∧t<n
   ·rw [if_pos h1,if_pos ⟨by omega,h1.2⟩]
   ·rw [if_neg h1]
    by_cases h2:s<i∧t<n
    ·rw [if_pos h2,if_pos ⟨by omega,h2.2⟩]
    ·rw [if_neg h2,if_neg (by omega)]
  all_goals simp only [zaa,qQ,reduceIte,if_false, *]
 ·have hiN:i=M.length:=by omega
  subst hiN
  have e:X=M:=by
   refine zqy hXl rfl (fun s hs=>hM.cols s (by omega)) hc fun s t hs ht=>?_
   rw [hX,if_pos ⟨hs,ht⟩]
  exact hQ _ _ (e ▸ hM) (by simp only [zaa,qQ,if_false,e6])
theorem zng {M:List (List Int)} {a:AV} {n:Nat} (h:ImV M a) (hn:1≤n∧n≤16) (hN:1≤M.length∧M.length≤16) (hc:∀i,i<M.length→(M.getD i []).length=n):
  Ret Tryz.prog G 64 [a] [] (.tup [matC M,.bool true]) []:=by
 have hf:=h.fit
 obtain ⟨rows,c,rfl,hl,hr⟩:=h.val
 refine zes zah Tryz.func64 comp64 _ 78 res64 nt64 (by simp) (by simp) ?_
 simp only [c64,r64_0,r64_1,SS,forall_const,reduceCtorEq,reduceIte,qQ]
 refine ⟨fun _=>⟨fun h=>absurd h (by omega),fun _=>?_⟩,fun h=>absurd h (by omega)⟩
 simp only [r64_3,SS,reduceCtorEq,reduceIte,qQ]
 refine zal (fun k E H=>∃i,i+k=M.length∧H=[]∧E 0= .vec rows M.length c∧E 17= .vec rows M.length c∧E 18= .int .i64 (M.length:Nat)∧E 19= .int .i64 (i:Nat)) (n:=M.length) ⟨0,by omega,rfl,by simp only [zaa,zac,qY,qQ,if_false],by simp only [zaa,zac,qJ,qQ,reduceIte,if_false],by simp only [zaa,zac,qJ,qQ,reduceIte,if_false],by simp only [zaa,zac,qJ,qQ,reduceIte,if_false];rfl⟩ ?_
 rintro k E H ⟨i,hik,rfl,e0,e17,e18,e19⟩
 obtain ⟨c0,hc0⟩:=hr 0 (by omega)
 have hrl0:=hc 0 (by omega)
 refine zaf zah ?_
 simp only [l64_0,r64_4,SS,reduceCtorEq,reduceIte,e18,e19]
 refine ⟨fun hlt=>?_,fun hge=>?_⟩
 ·obtain ⟨k,rfl⟩:∃k',k=k'+1:=⟨k-1,by omega⟩
  have hi:i<M.length:=by omega
  obtain ⟨ci,hci⟩:=hr i hi
  have hrl:=hc i hi
  have w5:IntKind.i64.wrap ((i:Int)+1)=((i+1:Nat):Int):=by rw [show (i:Int)+1=((i+1:Nat):Int) by omega];exact w64 (by omega) (by omega)
  simp only [r64_5,r64_6,SS,forall_const,reduceCtorEq,reduceIte,qQ,e0,e17,e19,qV,hci,hl,hrl,hc0,hrl0,Int.toNat_zero]
  refine ⟨⟨by omega,by omega⟩,by omega,fun _=>⟨fun _=>⟨⟨by omega,by omega⟩,by omega,?_⟩,fun h=>absurd h (by omega)⟩,fun h=>absurd h (by omega)⟩
  refine ⟨fun h=>absurd rfl h,fun _=>?_⟩
  simp only [r64_8,SS,reduceIte,qQ,e19,w5]
  refine ⟨k,_,_,by omega,⟨i+1,by omega,rfl,?_,?_,?_,?_⟩,.refl⟩
  all_goals simp only [zaa,qQ,reduceIte,if_false, *]
 ·have hiN:i=M.length:=by omega
  subst hiN
  simp only [r64_9,SS,forall_const,reduceCtorEq,reduceIte,qQ,e0,hc0,hl,hrl0,Int.toNat_zero]
  refine ⟨⟨by omega,by omega⟩,by omega,?_⟩
  refine zdt (qfp hN.2 hn.2) rfl ?_
  have hz:MatH ((zH M.length n M.length).map (renB (zan [] 0))) 0 ((zps n M.length).map fun p=>(0+p.1,p.2)) n (zmat M.length n):=zoy [] M.length n
  simp only [zba,SS,reduceIte,qQ,AV.ren,zbp,yY]
  have hH1:zag (effs (zan [] 0) 0 (zH M.length n M.length)) (List.replicate (zH M.length n M.length).length none)=(zH M.length n M.length).map (renB (zan [] 0)):=
   zgi (H:=[]) (zan [] 0) (fun i=>zbp 0 i) (zH M.length n M.length) []
  simp only [hH1]
  generalize (zH M.length n M.length).map (renB (zan [] 0))=H1 at*
  simp only [SS,reduceCtorEq,reduceIte,qQ,r64_10,e0]
  refine qfq (c:=c) (cap:=some M.length) hn.2 hN.2 hl hr hc hf hz (by simp only [zaa,qQ,if_false,e0]) (by simp only [zaa,qQ,reduceIte,if_false]) (by simp only [zaa,qQ,reduceIte,if_false]) (by simp only [zaa,qQ,reduceIte,if_false]) ?_
  intro E' H' hM' f6
  simp only [SS,reduceCtorEq,reduceIte,r64_19,f6]
  obtain ⟨v,g1,g2⟩:=zia (cap:=some M.length) (b:=true) hM'
  exact ⟨.inl trivial,_,v,rfl,g1,g2⟩
theorem mOf {M:List (List Int)} {a:AV} {n:Nat} (h:ImV M a) (hn:1≤n∧n≤16) (hN:1≤M.length∧M.length≤16) (hc:∀i,i<M.length→(M.getD i []).length=n):
  Ret Tryz.prog G 24 [a] [] (matC M) []:=by
 have ts:=zng h hn hN hc
 obtain ⟨rows,c,rfl,hl,hr⟩:=h.val
 refine zai zah Tryz.func24 comp24 _ 11 res24 nt24 (by simp) (by simp) ?_
 simp only [c24,r24_0,r24_1,SS,reduceCtorEq,reduceIte]
 refine zab ts ?_
 simp only [SS,reduceIte,qQ,r24_2,qS,qL]
 exact ⟨.inl trivial,_,rfl,.keep _ _⟩
end Go.Proofs.YtpflahgcdgdkjaaGreatDoor
namespace Go.Proofs.YtpflahgcdgdkjaaGreatDoor
open Nat renaming reduceEqDiff → qQ, le_refl → qM, not_lt_zero → qR, zero_add → qT, lt_or_ge → xZ, mul_one → xV, sub_self → xP, pow_succ → xS, div_lt_iff_lt_mul → yK, mul_le_mul → yW, pow_le_pow_right → yV
open List renaming getD_eq_getElem?_getD → qX, getElem?_eq_getElem → qZ, getD_cons_succ → qJ, getD_cons_zero → qY, take_of_length_le → qU, getElem?_map → qG, getElem_map → qI, getElem?_cons_succ → qL, drop_zero → qP, mapM_cons → xX, set_append_right → xJ, getElem?_append_left → xW, range_succ → xB, replicate_succ → xC, replicate_zero → xD, getElem_range → xG, ext_getElem → xN, map_set → xO, length_set → xT, append_nil → yX
open Int renaming toNat_natCast → qV, natCast_mul → yZ
open Option renaming getD_some → yC
set_option linter.unusedSimpArgs false
set_option linter.unusedVariables false
open Go Go.AL Go.Proofs
set_option maxRecDepth 100000
theorem qxl {z:Int} {b:Bool} (hb:b=true↔PrmZ z):Ret Tryz.prog G 74 [.int .i64 z] [] (.bool b) []:=by
 have no:¬PrmZ z→b=false:=by
  intro h
  cases b with
  | false=>rfl
  | true=>exact absurd (hb.1 rfl) h
 refine zai zah Tryz.func74 comp74 _ 21 res74 nt74 (by simp) (by simp) ?_
 by_cases h2:2≤z
 rotate_left
 ·obtain rfl:=no (fun e=>h2 e.1)
  have d1:decide (z<2)=true:=decide_eq_true (by omega)
  simp only [c74,r74_0,r74_1,SS,forall_const,reduceCtorEq,reduceIte,qQ,d1]
  simp only [r74_2,SS]
  exact ⟨.inl trivial,_,rfl,.keep _ _⟩
 have d1:decide (z<2)=false:=decide_eq_false (by omega)
 by_cases hM:z≤2147483647
 rotate_left
 ·obtain rfl:=no (fun e=>hM e.2.1)
  have d2:decide (2147483647<z)=true:=decide_eq_true (by omega)
  simp only [c74,r74_0,r74_1,SS,forall_const,reduceCtorEq,reduceIte,qQ,d1,d2]
  simp only [r74_2,SS]
  exact ⟨.inl trivial,_,rfl,.keep _ _⟩
 have d2:decide (2147483647<z)=false:=decide_eq_false (by omega)
 obtain ⟨n,rfl⟩:∃n:Nat,z=(n:Int):=⟨z.toNat,by omega⟩
 have er:∀q:Nat,Int.tmod (n:Int) (q:Int)=((n%q:Nat):Int):=fun q=>rfl
 simp only [c74,r74_0,r74_1,SS,forall_const,reduceCtorEq,reduceIte,qQ,d1,d2]
 simp only [r74_3,SS]
 refine zal (fun m E H=>∃d:Nat,d+m=46400∧2≤d∧H=[]∧E 0= .int .i64 (n:Int)∧E 3= .int .i64 (d:Int)∧∀d',2≤d'→d'<d→n%d'≠0) (n:=46398)
  ⟨2,rfl,by omega,rfl,by simp only [zaa,zac,qY,qQ,if_false],by simp only [zaa,zac,qJ,qQ,reduceIte,if_false];rfl,fun d h h'=>absurd h' (by omega)⟩ ?_
 rintro m E H ⟨d,hdm,hd2,rfl,e0,e3,hd⟩
 refine zaf zah ?_
 have hdd:d*d≤46400*46400:=yW (by omega) (by omega)
 have wq:IntKind.i64.wrap ((d:Int)*(d:Int))=((d*d:Nat):Int):=by rw [←yZ];exact w64 (by omega) (by omega)
 have erd:=er d
 simp only [l74_0,r74_4,SS,reduceCtorEq,reduceIte,qQ,e0,e3,wq]
 refine ⟨fun hle=>?_,fun hgt=>?_⟩
 ·have hle':d*d≤n:=by omega
  have hd3:d<46399:=by
   rcases xZ d 46399 with h | h
   ·exact h
   ·have:=yW h h;omega
  obtain ⟨m,rfl⟩:∃m',m=m'+1:=⟨m-1,by omega⟩
  have w5:IntKind.i64.wrap ((d:Int)+1)=((d+1:Nat):Int):=by rw [show (d:Int)+1=((d+1:Nat):Int) by omega];exact w64 (by omega) (by omega)
  simp only [r74_5,SS,reduceCtorEq,reduceIte,qQ,e0,e3,erd]
  refine ⟨by omega,fun h0=>?_,fun h0=>?_⟩
  ·obtain rfl:=no (fun e=>e.2.2.2 d hd2 (by rw [qV];exact hle') (by rw [qV];omega))
   simp only [r74_6,SS]
   exact ⟨.inl trivial,_,rfl,.keep _ _⟩
  ·simp only [r74_7,SS,reduceIte,qQ,e3,w5]
   refine ⟨m,_,_,by omega,⟨d+1,by omega,by omega,rfl,?_,?_,fun d' a b=>?_⟩,.refl⟩
   ·simp only [zaa,qQ,if_false,e0]
   ·simp only [zaa,qQ,reduceIte,if_false]
   ·rcases (by omega:d'<d∨d'=d) with h | h
    ·exact hd d' a h
    ·subst h;omega
 ·obtain rfl:b=true:=hb.2 ⟨h2,hM,by
   rw [qV]
   exact ⟨by omega,fun d' a b=>hd d' a (qrk (by omega) b)⟩⟩
  simp only [r74_8,SS]
  exact ⟨.inl trivial,_,rfl,.keep _ _⟩
theorem qlr {z:Int} {b:Bool} (hb:b=true↔z≤9973∧PrmZ z):Ret Tryz.prog G 30 [.int .i64 z] [] (.bool b) []:=by
 refine zai zah Tryz.func30 comp30 _ 9 res30 nt30 (by simp) (by simp) ?_
 by_cases h:z≤9973
 ·have d1:decide (z≤9973)=true:=decide_eq_true h
  have t:=qxl (z:=z) (b:=b) (by rw [hb];exact ⟨fun e=>e.2,fun e=>⟨h,e⟩⟩)
  simp only [c30,r30_0,r30_1,SS,forall_const,reduceCtorEq,reduceIte,qQ,d1]
  refine zab t ?_
  simp only [SS,reduceIte,qQ]
  exact ⟨.inl trivial,_,rfl,.keep _ _⟩
 ·have d1:decide (z≤9973)=false:=decide_eq_false h
  obtain rfl:b=false:=by
   cases b with
   | false=>rfl
   | true=>exact absurd (hb.1 rfl).1 h
  simp only [c30,r30_0,r30_1,SS,forall_const,reduceCtorEq,reduceIte,qQ,d1]
  exact ⟨.inl trivial,_,rfl,.keep _ _⟩
theorem qvp {a:Int} {m:Nat} (ha:In64 a) (hm:0<m) (hm2:m<2^40):Ret Tryz.prog G 75 [.int .i64 a,.int .i64 (m:Int)] [] (.int .i64 (a%(m:Int))) []:=by
 have hm0:(m:Int)≠0:=by omega
 have h1:=Int.emod_nonneg a hm0
 have h2:=Int.emod_lt_of_pos a (show (0:Int)<m by omega)
 have ht:Int.tmod a m=a%m∨Int.tmod a m<0∧Int.tmod a m+m=a%m:=by
  rcases Int.le_total 0 a with h | h
  ·exact .inl (Int.tmod_eq_emod_of_nonneg h)
  ·have e:=Int.tmod_eq_emod (a:=a) (b:=(m:Int))
   rw [e]
   split
   ·exact .inl (by omega)
   ·refine .inr ?_
    have:((m:Int).natAbs:Int)=m:=by omega
    omega
 have w0:IntKind.i64.wrap (Int.tmod a m)=Int.tmod a m:=w64 (by omega) (by omega)
 refine zai zah Tryz.func75 comp75 _ 15 res75 nt75 (by simp) (by simp) ?_
 simp only [c75,r75_0,r75_1,SS,reduceCtorEq,reduceIte,qQ]
 refine ⟨hm0,?_⟩
 simp only [r75_2,SS,reduceIte,qQ]
 rcases ht with ht | ⟨ht,ht2⟩
 ·rw [ht]
  refine ⟨fun h=>absurd h (by omega),fun _=>?_⟩
  simp only [r75_4,SS,reduceIte,qQ]
  exact ⟨.inl trivial,_,rfl,.keep _ _⟩
 ·refine ⟨fun _=>?_,fun h=>absurd ht h⟩
  have w1:IntKind.i64.wrap (Int.tmod a m+m)=a%m:=by rw [ht2];exact w64 (by omega) (by omega)
  simp only [r75_3,SS,reduceIte,qQ,w1]
  simp only [r75_4,SS,reduceIte,qQ]
  exact ⟨.inl trivial,_,rfl,.keep _ _⟩
theorem qls {p e:Nat} (hp:1≤p) (h:p^e≤2199023255552) (he:e<2^40):Ret Tryz.prog G 33 [.int .i64 (p:Int),.int .i64 (e:Int)] [] (.int .i64 ((p^e:Nat):Int)) []:=by
 have hle:∀i,i≤e→p^i≤2199023255552:=fun i hi=>Nat.le_trans (yV hp hi) h
 refine zai zah Tryz.func33 comp33 _ 16 res33 nt33 (by simp) (by simp) ?_
 simp only [c33,r33_0,r33_1,r33_2,SS,reduceCtorEq]
 refine zal (fun q E H=>∃i:Nat,i+q=e∧H=[]∧E 0= .int .i64 (p:Int)∧E 1= .int .i64 (e:Int)∧E 5= .int .i64 ((p^i:Nat):Int)∧E 6= .int .i64 (i:Int)) (n:=e)
  ⟨0,by omega,rfl,by simp only [zaa,zac,qY,qQ,if_false],by simp only [zaa,zac,qY,qJ,qQ,if_false],by simp only [zaa,zac,qJ,qQ,reduceIte,if_false];rfl,by simp only [zaa,zac,qJ,qQ,reduceIte,if_false];rfl⟩ ?_
 rintro q E H ⟨i,hiq,rfl,e0,e1,e5,e6⟩
 refine zaf zah ?_
 simp only [l33_0,r33_3,SS,reduceCtorEq,reduceIte,qQ,e1,e6]
 refine ⟨fun hlt=>?_,fun hge=>?_⟩
 ·obtain ⟨q,rfl⟩:∃q',q=q'+1:=⟨q-1,by omega⟩
  have hs:=hle (i+1) (by omega)
  have em:((p^i:Nat):Int)*(p:Int)=((p^(i+1):Nat):Int):=by rw [xS];exact (yZ _ _).symm
  have w5:IntKind.i64.wrap ((i:Int)+1)=((i+1:Nat):Int):=by rw [show (i:Int)+1=((i+1:Nat):Int) by omega];exact w64 (by omega) (by omega)
  have w6:IntKind.i64.wrap ((p^(i+1):Nat):Int)=((p^(i+1):Nat):Int):=w64 (by omega) (by omega)
  simp only [r33_4,r33_5,SS,reduceCtorEq,reduceIte,qQ,e0,e5,e6,em,w5,w6]
  refine ⟨q,_,_,by omega,⟨i+1,by omega,rfl,?_,?_,?_,?_⟩,.refl⟩
  all_goals simp only [zaa,qQ,reduceIte,if_false, *]
 ·obtain rfl:i=e:=by omega
  simp only [r33_6,SS,reduceIte,qQ,e5]
  exact ⟨.inl trivial,_,rfl,.keep _ _⟩
theorem qfr {p e:Nat} (hp:2≤p) (hp2:p<2^40) (he:e<2^40) {b:Bool} (hb:b=true↔p^e≤2097152):Ret Tryz.prog G 31 [.int .i64 (p:Int),.int .i64 (e:Int)] [] (.bool b) []:=by
 refine zai zah Tryz.func31 comp31 _ 19 res31 nt31 (by simp) (by simp) ?_
 simp only [c31,r31_0,r31_1,r31_2,SS,reduceCtorEq]
 refine zal (fun q E H=>∃i:Nat,i+q=e∧H=[]∧p^i≤2097152∧E 0= .int .i64 (p:Int)∧E 1= .int .i64 (e:Int)∧E 5= .int .i64 ((p^i:Nat):Int)∧E 6= .int .i64 (i:Int)) (n:=e)
  ⟨0,by omega,rfl,by rw [Nat.pow_zero];omega,by simp only [zaa,zac,qY,qQ,if_false],by simp only [zaa,zac,qY,qJ,qQ,if_false],by simp only [zaa,zac,qJ,qQ,reduceIte,if_false];rfl,by simp only [zaa,zac,qJ,qQ,reduceIte,if_false];rfl⟩ ?_
 rintro q E H ⟨i,hiq,rfl,hle,e0,e1,e5,e6⟩
 refine zaf zah ?_
 simp only [l31_0,r31_3,SS,reduceCtorEq,reduceIte,qQ,e1,e6]
 refine ⟨fun hlt=>?_,fun hge=>?_⟩
 ·obtain ⟨q,rfl⟩:∃q',q=q'+1:=⟨q-1,by omega⟩
  have hq:IntKind.i64.wrap (Int.tdiv 2097152 (p:Int))=((2097152/p:Nat):Int):=by
   rw [show Int.tdiv 2097152 (p:Int)=((2097152/p:Nat):Int) from rfl]
   have:=Nat.div_le_self 2097152 p
   generalize 2097152/p=y at*
   exact w64 (by omega) (by omega)
  have hp0:(p:Int)≠0:=by omega
  simp only [r31_4,SS,reduceCtorEq,reduceIte,qQ,e0,e5,hq]
  refine ⟨hp0,fun hgt=>?_,fun hng=>?_⟩
  ·have hlt2:2097152<p^i*p:=(yK (by omega)).1 (by omega)
   have hpe:p^(i+1)≤p^e:=yV (by omega) (by omega)
   rw [xS] at hpe
   obtain rfl:b=false:=by
    cases b with
    | false=>rfl
    | true=>exact absurd (hb.1 rfl) (by omega)
   simp only [r31_5,SS]
   exact ⟨.inl trivial,_,rfl,.keep _ _⟩
  ·have hs:p^(i+1)≤2097152:=by
    rw [xS]
    rcases xZ 2097152 (p^i*p) with h | h
    ·exact absurd ((yK (by omega)).2 h) (by omega)
    ·exact h
   have em:((p^i:Nat):Int)*(p:Int)=((p^(i+1):Nat):Int):=by rw [xS];exact (yZ _ _).symm
   have w5:IntKind.i64.wrap ((i:Int)+1)=((i+1:Nat):Int):=by rw [show (i:Int)+1=((i+1:Nat):Int) by omega];exact w64 (by omega) (by omega)
   have w6:IntKind.i64.wrap ((p^(i+1):Nat):Int)=((p^(i+1):Nat):Int):=w64 (by omega) (by omega)
   simp only [r31_6,r31_7,SS,reduceCtorEq,reduceIte,qQ,e0,e5,e6,em,w5,w6]
   refine ⟨q,_,_,by omega,⟨i+1,by omega,rfl,hs,?_,?_,?_,?_⟩,.refl⟩
   all_goals simp only [zaa,qQ,reduceIte,if_false, *]
 ·obtain rfl:i=e:=by omega
  obtain rfl:b=true:=hb.2 hle
  simp only [r31_8,SS]
  exact ⟨.inl trivial,_,rfl,.keep _ _⟩
open Go.Limb
def znh (n i:Nat):List AV:=(List.range i).map fun k=> .sl (k+1) 0 n 1 (some n)
def outS (N n i:Nat):List AV:=znh n i++List.replicate (N-i) nilV
def bH (N n:Nat) (rows:List (List Int)):Heap:=some (outS N n rows.length)::rows.map fun r=>some (i64z r)
theorem zhf (n i:Nat):(znh n i).length=i:=by simp [znh]
theorem zek {N n i:Nat} (h:i≤N):(outS N n i).length=N:=by simp [outS,zhf];omega
theorem zel {N n i k:Nat} (h:k<i):(outS N n i).getD k .junk= .sl (k+1) 0 n 1 (some n):=by
 unfold outS znh
 rw [qX,xW (by simpa using h),qG,List.getElem?_range h]
 rfl
theorem zxu (N n:Nat) (rows:List (List Int)):(bH N n rows).length=rows.length+1:=by simp [bH]
theorem zdv (N n:Nat) (rows:List (List Int)):getB (bH N n rows) 0=some (outS N n rows.length):=rfl
theorem zfl {N n i:Nat} {rows:List (List Int)} (h:i<rows.length):getB (bH N n rows) (i+1)=some (i64z (rows.getD i [])):=by
 unfold getB bH
 rw [qL,qG,qX,qZ h]
 rfl
theorem zgs {N n i:Nat} {rows:List (List Int)} (r:List Int):(bH N n rows).set (i+1) (some (i64z r))=bH N n (rows.set i r):=by
 unfold bH
 rw [List.set_cons_succ,xT,xO]
theorem qfs {N n i:Nat} (h:i<N):(outS N n i).set i (.sl (i+1) 0 n 1 (some n))=outS N n (i+1):=by
 unfold outS
 have e:List.replicate (N-i) nilV=nilV::List.replicate (N-(i+1)) nilV:=by rw [←xC];congr 1;omega
 have ez:znh n (i+1)=znh n i++[.sl (i+1) 0 n 1 (some n)]:=by simp [znh,xB]
 rw [e,ez,xJ _ _ (by rw [zhf];omega),zhf,xP]
 simp
theorem zxv {N n:Nat} {rows:List (List Int)} (r:List Int) (h:rows.length<N):(bH N n rows++[some (i64z r)]).set 0 (some ((outS N n rows.length).set rows.length (.sl (rows.length+1) 0 n 1 (some n))))=bH N n (rows++[r]):=by
 rw [qfs h]
 unfold bH
 simp
theorem zdl (r:List Int) (j:Nat) (z:Int):(i64z r).set j (.int .i64 z)=i64z (r.set j z):=by simp [i64z,xO]
theorem zjs (n:Nat) (z:Int):List.replicate n (AV.int .i64 z)=i64z (List.replicate n z):=by simp [i64z]
theorem zqz (r:List Int) (m d:Nat) (H:Heap):(i64z r).mapM (frzI m H (d+1))=some (i64z r):=by
 refine zlr (fun a ha=>?_)
 unfold i64z at ha
 obtain ⟨z,_,rfl⟩:=List.mem_map.1 ha
 rfl
def zcp (n:Nat) (rows:List (List Int)):List AV:=rows.map fun r=> .vec (i64z r) n (some n)
theorem qft {N n:Nat} {rows:List (List Int)} (hN:rows.length=N) (hn:∀i,i<N→(rows.getD i []).length=n):frzI 0 (bH N n rows) 3 (.sl 0 0 N 1 (some N))=some (.vec (zcp n rows) N (some N)):=by
 have e0:outS N n rows.length=znh n N:=by
  unfold outS
  rw [hN,xP,xD,yX]
 have key:(znh n N).mapM (frzI 0 (bH N n rows) 2)=some (zcp n rows):=by
  have:zcp n rows=(List.range N).map fun k=>AV.vec (i64z (rows.getD k [])) n (some n):=by
   refine xN (by simp [zcp,hN]) fun k h1 h2=>?_
   simp only [zcp,qI,xG]
   have hk:k<rows.length:=by simpa [zcp] using h1
   rw [qX,qZ hk]
   rfl
  rw [this]
  unfold znh
  rw [List.mapM_map]
  have:∀l:List Nat,(∀k∈l,k<N)→l.mapM (fun k=>frzI 0 (bH N n rows) 2 (.sl (k+1) 0 n 1 (some n)))=some (l.map fun k=>AV.vec (i64z (rows.getD k [])) n (some n)):=by
   intro l
   induction l with
   | nil=>intro _;rfl
   | cons k l ih=>
    intro h
    have hk:=h k (by simp)
    have e:frzI 0 (bH N n rows) 2 (.sl (k+1) 0 n 1 (some n))=some (.vec (i64z (rows.getD k [])) n (some n)):=by
     rw [frzI]
     have hl:=hn k hk
     simp only [qR,if_false,zfl (show k<rows.length by omega),need,qT,xV,zax,hl,qM,if_true,qP]
     rw [qU (by rw [zax];omega),zqz]
     rfl
    rw [xX,e,ih (fun x hx=>h x (by simp [hx]))]
    rfl
  exact this _ (fun k hk=>List.mem_range.1 hk)
 rw [frzI]
 simp only [qR,if_false,zdv,e0,need,qT,xV,zhf,qM,if_true,qP]
 rw [qU (by rw [zhf];omega),key]
 rfl
theorem zlt {N n:Nat} {rows:List (List Int)} {c:Option Nat} (hN:rows.length=N) (hn:∀i,i<N→(rows.getD i []).length=n) (hf:∀i j,In64 (ent rows i j)):ImV rows (.vec (zcp n rows) N c):=by
 refine ⟨⟨zcp n rows,c,by rw [hN],by simp [zcp],fun i hi=>⟨some n,?_⟩⟩,hf⟩
 have hl:=hn i (by omega)
 unfold zcp
 rw [qX,qG,qZ hi]
 rw [qX,qZ hi] at hl ⊢
 simp only [Option.map_some,yC] at hl ⊢
 rw [hl]
end Go.Proofs.YtpflahgcdgdkjaaGreatDoor
