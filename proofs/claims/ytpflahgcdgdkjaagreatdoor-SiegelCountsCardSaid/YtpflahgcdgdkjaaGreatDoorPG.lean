/- A part of the proof. -/
import Derived.Test.YtpflahgcdgdkjaaGreatDoorPE
import Derived.Test.YtpflahgcdgdkjaaGreatDoorPC
import Derived.Test.YtpflahgcdgdkjaaGreatDoorPD
import Derived.Test.YtpflahgcdgdkjaaGreatDoorPF
import Derived.Test.YtpflahgcdgdkjaaGreatDoorPA
namespace Go.Proofs.YtpflahgcdgdkjaaGreatDoor
open Nat renaming reduceEqDiff → qQ, sub_self → qC, reduceLeDiff → qD, reduceAdd → qI
open List renaming getD_eq_getElem?_getD → qX, getD_cons_succ → qJ, getElem?_append_right → qK, getElem?_cons_zero → qV, getElem?_cons_succ → qY, getElem?_eq_getElem → qE, take_of_length_le → qG, getElem?_set_ne → qH, getD_cons_zero → qL, ext_getElem → qR, getElem?_set_self → qS, set_append_right → xZ
open Go.AL.AV.closed renaming closedL → qZ
open Int renaming toNat_natCast → qW
open Bool renaming and_self → qU
set_option linter.unusedSimpArgs false
set_option linter.unusedVariables false
open Go Go.AL Go.Proofs Go.Limb
set_option maxRecDepth 100000
theorem qwo {z:Int} {a:AV} (ha:zaw z a) (hz:In64 z):Ret Tryz.prog G 97 [a] [] (.tup [.int .i64 z,.bool true]) []:=by
 obtain ⟨z1,z2⟩:=hz
 obtain ⟨l,ca,hc,hl,hv,rfl⟩:=ha
 obtain ⟨c1,t1⟩:=zlj l ca (by omega)
 have k1:=zbk hc.1
 have kv:=(zck l).trans hv
 generalize zbg l=m at*
 have hm2:=ziv k1 (by omega)
 have t2:=zlow m c1 k1.1 (by omega)
 rw [qG hm2,kv] at t2
 have d1:decide ((2:Int)<(m.length:Nat))=false:=decide_eq_false (by omega)
 by_cases hn:z<0
 ·have e1:decide (z<0)=true:=decide_eq_true hn
  have d2:decide ((z.natAbs:Int)≤9223372036854775808)=true:=decide_eq_true (by omega)
  have w1:IntKind.i64.wrap (IntKind.u64.wrap (0-(z.natAbs:Int)))=z:=by
   simp [IntKind.wrap,IntKind.bits,IntKind.signed];omega
  refine zai zah Tryz.func97 comp97 _ 35 res97 nt97 (by simp) (by simp) ?_
  simp only [c97,r97_0,r97_1,SS,forall_const,reduceCtorEq,reduceIte,qI,qQ,qD,e1]
  refine zab t1 ?_
  simp only [SS,reduceIte,qQ]
  simp only [r97_2,SS,reduceIte,qQ]
  refine zab t2 ?_
  simp only [SS,reduceIte,qQ]
  simp only [r97_3,SS,forall_const,reduceIte,qQ,d1]
  simp only [r97_5,SS,forall_const,reduceIte,qI,qQ,qD,d2]
  simp only [r97_6,SS,reduceIte,qQ,w1]
  exact ⟨.inl trivial,_,rfl,.drop _ _ rfl (by intro i cs h;omega)⟩
 ·have e1:decide (z<0)=false:=decide_eq_false hn
  have d2:decide ((z.natAbs:Int)<9223372036854775808)=true:=decide_eq_true (by omega)
  have w1:IntKind.i64.wrap (z.natAbs:Int)=z:=by
   rw [show (z.natAbs:Int)=z by omega];exact w64 z1 z2
  refine zai zah Tryz.func97 comp97 _ 35 res97 nt97 (by simp) (by simp) ?_
  simp only [c97,r97_0,r97_1,SS,forall_const,reduceCtorEq,reduceIte,qI,qQ,qD,e1]
  refine zab t1 ?_
  simp only [SS,reduceIte,qQ]
  simp only [r97_2,SS,reduceIte,qQ]
  refine zab t2 ?_
  simp only [SS,reduceIte,qQ]
  simp only [r97_3,SS,forall_const,reduceIte,qQ,d1]
  simp only [r97_5,SS,forall_const,reduceIte,qI,qQ,qD]
  simp only [r97_7,SS,forall_const,reduceIte,qI,qQ,qD,d2]
  simp only [r97_8,SS,reduceIte,qQ,w1]
  exact ⟨.inl trivial,_,rfl,.drop _ _ rfl (by intro i cs h;omega)⟩
theorem qwp {n:Nat} {M:List (List Int)} {rows:List AV} {c:Option Nat} (hn:1≤n∧n≤8) (hS:Shp n M) (hl:rows.length=n) (hr:∀i,i<n→zfv (M.getD i []) (rows.getD i .junk)) (hf:∀i j,In64 (ent M i j)) {i:Nat} (hi:i<n) {rs:List (List Int)} (hrl:rs.length=i+1) (hr0:(rs.getD i []).length=n) {E:Env} {Q:Post}
  (e0:E 0= .vec rows n c) (e5:E 5= .int .i64 (n:Nat)) (e7:E 7= .sl 0 0 n 1 (some n)) (e8:E 8= .int .i64 (i:Nat)) (e23:E 23= .int .i64 (n:Nat)) (e24:E 24= .int .i64 (i:Nat)) (e36:E 36= .int .i64 (n:Nat)) (e37:E 37= .int .i64 0)
  (hQ:∀E' r,r.length=n→(∀j,j<n→r.getD j 0=ent M i j)→E' 0= .vec rows n c→E' 5= .int .i64 (n:Nat)→E' 7= .sl 0 0 n 1 (some n)→E' 23= .int .i64 (n:Nat)→E' 24= .int .i64 (i:Nat)→Q (.exit 2) E' (bH n n (rs.set i r))):
  W Tryz.prog G 0 63 (.loop l61_1) E (bH n n rs) Q:=by
 refine zal (fun k E H=>∃j r,j+k=n∧r.length=n∧(∀t,t<j→r.getD t 0=ent M i t)∧H=bH n n (rs.set i r)∧E 0= .vec rows n c∧E 5= .int .i64 (n:Nat)∧E 7= .sl 0 0 n 1 (some n)∧E 8= .int .i64 (i:Nat)∧E 23= .int .i64 (n:Nat)∧E 24= .int .i64 (i:Nat)∧
  E 36= .int .i64 (n:Nat)∧E 37= .int .i64 (j:Nat)) (n:=n)
  ⟨0,rs.getD i [],by omega,hr0,fun t ht=>absurd ht (by omega),?_,e0,e5,e7,e8,e23,e24,e36,e37⟩ ?_
 ·congr 1
  refine qR (by simp) fun t h1 h2=>?_
  rw [List.getElem_set]
  split
  ·rename_i e;subst e;rw [qX,qE h1];rfl
  ·rfl
 clear e0 e5 e7 e8 e23 e24 e36 e37 E
 rintro k E H ⟨j,r,hjk,hrm,hr',rfl,e0,e5,e7,e8,e23,e24,e36,e37⟩
 refine zaf zah ?_
 simp only [l61_1,r61_10,SS,reduceIte,e36,e37]
 refine ⟨fun hlt=>?_,fun hge=>?_⟩
 ·obtain ⟨k,rfl⟩:∃k',k=k'+1:=⟨k-1,by omega⟩
  have hj:j<n:=by omega
  have lM:=hS.row i hi
  obtain ⟨csi,ci,hei,hci⟩:=hr i hi
  have hcl:=zcw hci
  obtain ⟨u,v,hu,hz⟩:=zei hci j (by omega)
  obtain ⟨lz,cz,hz1,hz2⟩:=zao hz
  subst hz1 hz2
  have ts:=qwo hz (hf i j)
  have w5:IntKind.i64.wrap ((j:Int)+1)=((j+1:Nat):Int):=by rw [show (j:Int)+1=((j+1:Nat):Int) by omega];exact w64 (by omega) (by omega)
  have hset:(rs.set i r).length=i+1:=by simp [hrl]
  have gr:=zfl (N:=n) (n:=n) (i:=i) (rows:=rs.set i r) (by omega)
  have gri:(rs.set i r).getD i []=r:=by rw [qX,qS (by omega)];rfl
  rw [gri] at gr
  have go:getB (bH n n (rs.set i r)) 0=some (outS n n (i+1)):=by rw [zdv,hset]
  have gol:=zek (N:=n) (n:=n) (i:=i+1) (by omega)
  have gog:=zel (N:=n) (n:=n) (i:=i+1) (k:=i) (by omega)
  have hent:(M.getD i []).getD j 0=ent M i j:=rfl
  rw [hent] at ts
  simp only [r61_11,r61_12,SS,forall_const,reduceCtorEq,reduceIte,qQ,e0,e8,e37,qW,hl,hei,hcl,lM,hu]
  refine ⟨⟨by omega,by omega⟩,by omega,⟨by omega,by omega⟩,by omega,?_⟩
  refine zab ts ?_
  simp only [SS,reduceIte,qQ,qV,qY]
  simp only [r61_13,SS,forall_const,reduceIte,qQ]
  simp only [r61_15,SS,forall_const,reduceIte,qQ,e7,e8,qW,go,gol,gog,gr,hrm,zax,zdl]
  refine ⟨⟨by omega,by omega⟩,by omega,⟨by omega,by omega⟩,by omega,?_⟩
  simp only [r61_16,SS,reduceIte,qQ,e37,w5,zgs]
  refine ⟨k,_,_,by omega,⟨j+1,r.set j (ent M i j),by omega,by simp [hrm],fun t ht=>?_,?_,?_,?_,?_,?_,?_,?_,?_,?_⟩,.refl⟩
  ·rw [qX]
   rcases (by omega:t<j∨t=j) with e | e
   ·rw [qH (by omega),←qX];exact hr' t e
   ·rw [e,qS (by omega)];rfl
  ·rw [List.set_set]
  all_goals simp only [zaa,qQ,reduceIte,if_false, *]
 ·have hjm:j=n:=by omega
  subst hjm
  exact hQ _ r hrm hr' (by simp only [zaa,qQ,if_false,e0]) (by simp only [zaa,qQ,if_false,e5]) (by simp only [zaa,qQ,if_false,e7]) (by simp only [zaa,qQ,if_false,e23]) (by simp only [zaa,qQ,if_false,e24])
theorem qtr {n:Nat} {M:List (List Int)} {a:AV} (h:Sq n M a) (hf:∀i j,In64 (ent M i j)):Ret Tryz.prog G 61 [a] [] (.tup [.vec (zcp n M) n (some n),.bool true]) []:=by
 have hn:1≤n∧n≤8:=⟨h.lo,h.hi⟩
 have hS:Shp n M:=⟨h.len,h.cols⟩
 have t1:=zsx h.mat h.shape
 rw [h.cols 0 (by omega),h.len] at t1
 have c1:qZ [a]=true:=by simp only [qZ,h.closed,qU]
 obtain ⟨rows,c,hae,hl,hr⟩:=h.mat
 subst hae
 rw [h.len] at hl hr t1 c1 ⊢
 have hTl:=hS.len
 refine zai zah Tryz.func61 comp61 _ 63 res61 nt61 (by simp) (by simp) ?_
 simp only [c61,r61_0,r61_1,SS,reduceCtorEq,reduceIte]
 refine zab t1 ?_ c1
 simp only [SS,reduceIte,qQ,qV,qY]
 simp only [r61_2,SS,forall_const,reduceIte,qQ]
 simp only [r61_4,SS,reduceIte,qQ,qW]
 refine ⟨by decide,⟨by omega,by omega,by omega,by omega⟩,?_⟩
 simp only [r61_5,SS,reduceIte,qQ]
 have hb0:[some (List.replicate n (AV.vec [] 0 (some 0)))]=bH n n []:=rfl
 rw [hb0]
 refine zal (fun k E H=>∃i,i+k=n∧H=bH n n (M.take i)∧E 0= .vec rows n c∧E 5= .int .i64 (n:Nat)∧E 7= .sl 0 0 n 1 (some n)∧E 23= .int .i64 (n:Nat)∧E 24= .int .i64 (i:Nat)) (n:=n)
  ⟨0,by omega,rfl,by simp only [zaa,zac,qL,qQ,if_false],by simp only [zaa,zac,qJ,qQ,reduceIte,if_false],by simp only [zaa,zac,qJ,qQ,reduceIte,if_false],by simp only [zaa,zac,qJ,qQ,reduceIte,if_false],by simp only [zaa,zac,qJ,qQ,reduceIte,if_false];rfl⟩ ?_
 rintro k E H ⟨i,hik,rfl,e0,e5,e7,e23,e24⟩
 refine zaf zah ?_
 simp only [l61_0,r61_6,SS,reduceCtorEq,reduceIte,e23,e24]
 refine ⟨fun hlt=>?_,fun hge=>?_⟩
 ·obtain ⟨k,rfl⟩:∃k',k=k'+1:=⟨k-1,by omega⟩
  have hi:i<n:=by omega
  have htl:(M.take i).length=i:=by rw [List.length_take];omega
  have w5:IntKind.i64.wrap ((i:Int)+1)=((i+1:Nat):Int):=by rw [show (i:Int)+1=((i+1:Nat):Int) by omega];exact w64 (by omega) (by omega)
  have hbl:(bH n n (M.take i)).length=i+1:=by rw [zxu,htl]
  have go:getB (bH n n (M.take i)++[some (i64z (List.replicate n 0))]) 0=some (outS n n i):=by
   have:getB (bH n n (M.take i)) 0=some (outS n n i):=by rw [zdv,htl]
   exact this
  have gol:=zek (N:=n) (n:=n) (i:=i) (by omega)
  have hnew:=zxv (N:=n) (n:=n) (rows:=M.take i) (List.replicate n 0) (by omega)
  rw [htl] at hnew
  simp only [r61_7,r61_8,SS,reduceIte,qQ,e5,e7,e24,qW,hbl,zjs,go,gol]
  refine ⟨by decide,⟨by omega,by omega,by omega,by omega⟩,⟨by omega,by omega⟩,by omega,?_⟩
  rw [hnew]
  have hrl:(M.take i++[List.replicate n 0]).length=i+1:=by simp;omega
  have hg0:getB (bH n n (M.take i++[List.replicate n 0])) 0=some (outS n n (i+1)):=by rw [zdv,hrl]
  have hgl:=zek (N:=n) (n:=n) (i:=i+1) (by omega)
  have hgg:=zel (N:=n) (n:=n) (i:=i+1) (k:=i) (by omega)
  simp only [r61_9,SS,forall_const,reduceIte,qQ,e7,qW,hg0,hgl,hgg]
  refine ⟨⟨by omega,by omega⟩,by omega,?_⟩
  refine qwp (rows:=rows) (c:=c) hn hS hl hr hf hi (rs:=M.take i++[List.replicate n 0]) hrl ?_ (by simp only [zaa,qQ,if_false,e0]) (by simp only [zaa,qQ,if_false,e5]) (by simp only [zaa,qQ,if_false,e7]) (by simp only [zaa,qQ,reduceIte,if_false]) (by simp only [zaa,qQ,if_false,e23]) (by simp only [zaa,qQ,if_false,e24]) (by simp only [zaa,qQ,reduceIte,if_false]) (by simp only [zaa,qQ,reduceIte,if_false]) ?_
  ·rw [qX,qK (by omega),htl,qC]
   simp
  intro E' r hrm hr' f0 f5 f7 f23 f24
  have er:r=M.getD i []:=by
   have hTi:=hS.row i hi
   refine qR (by omega) fun t h1 h2=>?_
   have h3:=hr' t (by omega)
   unfold ent at h3
   rw [qX,qE h1,qX (l:=M.getD i []),qE h2] at h3
   exact h3
  have eset:(M.take i++[List.replicate n 0]).set i r=M.take (i+1):=by
   rw [xZ _ _ (by omega),htl,qC,er]
   rw [List.take_add_one,qX,qE (by omega)]
   rfl
  rw [eset]
  simp only [r61_17,SS,reduceCtorEq,reduceIte,qQ,f24,w5]
  refine ⟨k,_,_,by omega,⟨i+1,by omega,rfl,?_,?_,?_,?_,?_⟩,.refl⟩
  all_goals simp only [zaa,qQ,reduceIte,if_false, *]
 ·have hin:i=n:=by omega
  have htl:M.take i=M:=qG (by omega)
  rw [htl]
  simp only [r61_18,SS,reduceIte,qQ,e7]
  have this:=qft (N:=n) (n:=n) (rows:=M) hS.len hS.row
  have key:frzI 0 (bH n n M) 4 (.tup [.sl 0 0 n 1 (some n),.bool true])=some (.tup [.vec (zcp n M) n (some n),.bool true]):=by
   rw [frzI]
   simp only [List.mapM_cons,List.mapM_nil,this]
   rfl
  exact ⟨.inl trivial,.tup [.sl 0 0 n 1 (some n),.bool true],rfl,.freeze 4 _ _ _ key (by intro i cs h;omega)⟩
end Go.Proofs.YtpflahgcdgdkjaaGreatDoor
namespace Go.Proofs.YtpflahgcdgdkjaaGreatDoor
open Nat renaming reduceEqDiff → qQ, le_refl → qB, zero_le → qM, lt_of_le_of_lt → qN, mul_le_mul → xK, zero_add → xA, mul_one → xD
open List renaming getD_cons_succ → qJ, getElem?_cons_zero → qV, getElem?_cons_succ → qY, take_of_length_le → qG, nil_append → qT, length_nil → xQ, drop_zero → xW
open Go.AL.AV.closed renaming closedL → qZ
open Bool renaming and_self → qU, true_and → xY
set_option linter.unusedSimpArgs false
set_option linter.unusedVariables false
open Go Go.AL Go.Det Go.Limb
set_option maxRecDepth 100000
theorem qts {n:Nat} (h1:1≤n) (h5:n≤5):FitN n BIG (bigK (16^n) (8*16^n)).toNat:=by
 rcases (by omega:n=1∨n=2∨n=3∨n=4∨n=5) with rfl | rfl | rfl | rfl | rfl
 ·exact ⟨by decide +kernel,by decide +kernel⟩
 ·exact ⟨by decide +kernel,by decide +kernel⟩
 ·exact ⟨by decide +kernel,by decide +kernel⟩
 ·exact ⟨by decide +kernel,by decide +kernel⟩
 ·exact ⟨by decide +kernel,by decide +kernel⟩
def qhu:Nat:=2^2000
def qpd:Nat:=2^12000
def zle:Nat:=2^12001
def qhv:Nat:=2^30000
theorem qhw {n:Nat} (h1:1≤n) (h5:n≤5):vecB (16^n) (8*16^n) (bigK (16^n) (8*16^n)) 7≤((qhu:Nat):Int)∧(bndS (bigK (16^n) (8*16^n)).toNat n:Int)≤((qpd:Nat):Int):=by
 rcases (by omega:n=1∨n=2∨n=3∨n=4∨n=5) with rfl | rfl | rfl | rfl | rfl
 ·exact ⟨by decide +kernel,by decide +kernel⟩
 ·exact ⟨by decide +kernel,by decide +kernel⟩
 ·exact ⟨by decide +kernel,by decide +kernel⟩
 ·exact ⟨by decide +kernel,by decide +kernel⟩
 ·exact ⟨by decide +kernel,by decide +kernel⟩
theorem qnl {n:Nat} (h1:1≤n) (h5:n≤5):1≤bigK (16^n) (8*16^n)∧bigK (16^n) (8*16^n)≤2^200:=by
 rcases (by omega:n=1∨n=2∨n=3∨n=4∨n=5) with rfl | rfl | rfl | rfl | rfl
 ·exact ⟨by decide +kernel,by decide +kernel⟩
 ·exact ⟨by decide +kernel,by decide +kernel⟩
 ·exact ⟨by decide +kernel,by decide +kernel⟩
 ·exact ⟨by decide +kernel,by decide +kernel⟩
 ·exact ⟨by decide +kernel,by decide +kernel⟩
theorem qtt {x y a b B:Nat} (hx:x≤a) (hy:y≤b) (h:64*(b*a*b)+8*(b*a)+a+b<B):64*(y*x*y)+8*(y*x)+x+y<B:=by
 have h1:=xK hy hx
 have h2:=xK h1 hy
 omega
theorem qtu {x y a b B:Nat} (hx:x≤a) (hy:y≤b) (h:8*(a*b)+a+b<B):8*(x*y)+x+y<B:=by
 have h1:=xK hx hy
 omega
theorem qwq {x y:Nat} (hx:x≤2^200) (hy:y≤zle):64*(y*x*y)+8*(y*x)+x+y<BIG:=qtt hx hy (by decide +kernel)
theorem qwr {x y:Nat} (hx:x≤qhu) (hy:y≤zle):8*(x*y)+x+y<BIG:=qtu hx hy (by decide +kernel)
theorem qws:qpd+1≤zle:=by decide +kernel
theorem qwt:qhu<qhv:=by decide +kernel
theorem qtv:zle<qhv:=by decide +kernel
theorem qnm:1≤zle:=by decide +kernel
theorem qpe:qhv<BIG:=by decide +kernel
open Go.Proofs
theorem ztx {n:Nat} {M:List (List Int)} (h:∀i,i<n→OKr (rowF M) i):StepOut n M (.tup [.vec [] 0 none,.bool false]):=
 ⟨fun i j c=>absurd ((h i c.hi).1 j c.hj) c.no,fun i c=>absurd ((h i c.hi).2 c.h0) c.no,fun _=>rfl⟩
theorem zwm {n i j:Nat} {M:List (List Int)} (h:CurA n (rowF M) i j):StepOut n M (.tup [matC (zho n M i j),.bool true]):=
 ⟨fun i' j' c=>by obtain ⟨rfl,rfl⟩:=qnb h c;rfl,fun i' c=>(qpc h c).elim,fun hk=>absurd ((hk i h.hi).1 j h.hj) h.no⟩
theorem qbp {n i:Nat} {M:List (List Int)} (h:CurS n (rowF M) i):StepOut n M (.tup [matC (zkg n i),.bool true]):=
 ⟨fun i' j' c=>(qpc c h).elim,fun i' c=>by obtain rfl:=qnc h c;rfl,fun hk=>absurd ((hk i h.hi).2 h.h0) h.no⟩
theorem qtw {H:Heap} {o n:Nat} {ps:List (Nat×Option Nat)} {M:List (List Int)} {cap:Option Nat} (h:MatH H o ps n M):∃vs,frzI 0 H 3 (.sl o 0 M.length 1 cap)=some (.vec vs M.length cap)∧MatV M (.vec vs M.length cap):=by
 obtain ⟨vs,h1,h2,h3⟩:=zqv (zxt h)
 have hl:=h.len
 refine ⟨vs,?_,⟨vs,cap,rfl,h2,h3⟩⟩
 rw [frzI]
 simp only [Nat.not_lt_zero,if_false,h.outer,need,xA,xD,List.length_map,hl,qB,if_true,xW]
 rw [qG (by simp [hl]),h1]
 rfl
theorem qpf {n y:Nat} (hy:1≤y):Bnd y (idM n):=by
 intro i j
 by_cases h:i<n∧j<n
 ·rw [znn h.1 h.2]
  split<;>simp<;>omega
 ·rw [(zfe n).out (by omega)];simp
theorem qnn {n y i j:Nat} {M:List (List Int)} (hj:j<n) (hi:i<n) (hy:1≤y) (hc:(zga (stg (rowF M) j i j) (lead (rowF M) (j+1))).natAbs≤y):Bnd y (zho n M i j):=by
 intro s t
 unfold zho addU
 rw [(zfe n).ent_set hj hi]
 split
 ·rw [Int.natAbs_neg];exact hc
 ·exact qpf hy s t
theorem qno {n y i:Nat} (hi:i<n) (hy:1≤y):Bnd y (zkg n i):=by
 intro s t
 unfold zkg
 rw [(zjv (zfe n) hi (by omega)).2]
 exact qpf hy _ _
theorem qnp {n i j:Nat} {M:List (List Int)} (hj:j<n):Shp n (zho n M i j):=zyg hj
theorem qhx {n i:Nat} (hi:i<n):Shp n (zkg n i):=(zjv (zfe n) hi (by omega)).1
theorem zkh {n:Nat} {M0 M T:List (List Int)} (h1:1≤n) (h5:n≤5) (hp:Pos n (16^n) (rowF M0)) (ha:∀s,s<n→ent M0 s s≤8*16^n) (hL:LState n (16^n) (8*16^n) M0 M T):
  Bnd (bigK (16^n) (8*16^n)).toNat M∧Bnd qhu T:=by
 have h16:(1:Int)≤16^n:=by
  have:=Nat.one_le_pow n 16 (by decide)
  exact_mod_cast this
 obtain ⟨b1,b2⟩:=hL.bound (by omega) (by omega) hp ha (qhk (n:=n) (rowF M))
 have hv:=(qhw h1 h5).1
 have hv2:vecB (16^n) (8*16^n) (bigK (16^n) (8*16^n)) 7≤((qhu:Nat):Int):=hv
 refine ⟨fun i j=>?_,fun i j=>?_⟩
 ·by_cases h:i<n∧j<n
  ·have:=b1 i j h.1 h.2
   omega
  ·rw [hL.shM.out (by omega)];simp
 ·by_cases h:i<n∧j<n
  ·have:=b2 i j h.1 h.2
   omega
  ·rw [hL.shT.out (by omega)];simp
theorem qtx {n:Nat} {M0:List (List Int)} {a:AV} (hsq:Sq n M0 a) (h5:n≤5) (hG:SmallG n M0) (hg:zij n M0):∃M' T',Red n (rowF M')∧LState n (16^n) (8*16^n) M0 M' T'∧Ret Tryz.prog G 23 [a] [] (.tup [.vec (zcp n M') n (some n),matC T',.int .i64 0]) []:=by
 have h1:=hsq.lo
 have h8:=hsq.hi
 obtain ⟨k0,M',T',hE,hst,hend,hred⟩:=qne h1 h8 hG hg
 refine ⟨M',T',hred,hend,?_⟩
 have hpos:=zyt hG hg
 have h16:(1:Int)≤16^n:=by
  have:=Nat.one_le_pow n 16 (by decide)
  exact_mod_cast this
 have hK1:(1:Int)≤8*16^n:=by omega
 have ha:∀s,s<n→ent M0 s s≤8*16^n:=by
  intro s _
  have:=(hG.bnd s s).2
  have h2:(16:Int)^1≤16^n:=by
   have:=Nat.pow_le_pow_right (n:=16) (by decide) h1
   exact_mod_cast this
  have e1:(16:Int)^1=16:=by decide
  omega
 have hF:=qts h1 h5
 have hb0:=(zkh h1 h5 hpos ha hst).1
 obtain ⟨ds,hds,hdf⟩:=zlv hF hb0 n (qB _)
 have hds':zjm BIG M0=some ds:=by unfold zjm;rw [hsq.len];exact hds
 obtain ⟨d0,hd0,hd0f⟩:=zrc (B:=BIG) hF.one (fun k hk=>(hF.all (k:=k) hk).2) hst.shM hb0
 have hd0e:d0=lead (rowF M0) n:=zhi hst.shM (fun t ht=>by have:=hpos.pos t (by omega);omega) hd0
 have hval:valZ M0 ds=0:=by
  have hsy:=(zlu hst.shM).2 hpos.sym
  have hdf2:defB M0 ds=true:=by
   unfold defB
   rw [hsy,xY,znk,zda hds]
   intro t ht
   rw [zrb hds hpos.pos t ht]
   exact hpos.pos (t+1) (by omega)
  unfold valZ
  rw [hsy,hdf2];rfl
 have t1:=znf zdq hsq hds'
 rw [hval] at t1
 have t2:=qor zdq hsq hd0 (qN hd0f hF.lt)
 have e2:decide (d0≤10000)=true:=decide_eq_true (by rw [hd0e];exact hg.2)
 rw [e2] at t2
 have t3:=qhh (n:=n) (by omega) (I:=idM n) (zfe n).len (zfe n).row (fun i j hi hj=>znn hi hj)
 obtain ⟨ps0,L,hLm,tc⟩:=qvi (n:=n) hsq.mat (by omega) (by rw [hsq.len];omega) (fun i hi=>hsq.cols i (by rw [hsq.len] at hi;exact hi))
 have hM2:=zjp (H:=[]) hLm
 have hH2:zag (effs (zan [] 0) 0 L) (List.replicate L.length none)=L.map (renB (zan [] 0)):=zgi (H:=[]) (zan [] 0) (fun i=>zbp 0 i) L []
 simp only [qT,xQ] at hM2
 have c1:qZ [a]=true:=by simp only [qZ,hsq.closed,qU]
 have hI:(matC (idM n)).closed=true:=rfl
 have hlen:=hsq.len
 obtain ⟨ar,ac,hae,hal,har⟩:=hsq.mat
 subst hae
 rw [hlen] at hsq t1 t2 tc c1 ⊢
 refine zai zah Tryz.func23 comp23 _ 49 res23 nt23 (by simp) (by simp) ?_
 simp only [c23,r23_0,r23_1,SS,reduceCtorEq,reduceIte]
 refine zab t1 ?_ c1
 simp only [SS,reduceIte,qQ]
 simp only [r23_2,SS,reduceIte,qQ]
 refine ⟨fun hne=>absurd rfl hne,fun _=>?_⟩
 simp only [r23_4,SS,reduceCtorEq,reduceIte,qQ]
 refine zab t2 ?_ c1
 simp only [SS,forall_const,reduceIte,qQ]
 simp only [r23_6,SS,reduceCtorEq,reduceIte,qQ]
 refine zdt tc c1 ?_
 simp only [zba,SS,reduceIte,qQ,AV.ren,zbp,Nat.add_zero,hH2]
 generalize L.map (renB (zan [] 0))=H2 at*
 generalize (ps0.map fun p=>(0+p.1,p.2))=ps at*
 simp only [r23_7,SS,reduceCtorEq,reduceIte,qQ]
 refine zab t3 ?_
 simp only [SS,reduceIte,qQ,qV,qY]
 obtain ⟨vs,hfz,hmv⟩:=qtw (cap:=some n) hM2
 rw [hlen] at hfz hmv
 have hsq0:Sq n M0 (.vec vs n (some n)):=⟨hmv,hlen,hst.shM.row,h1,h8⟩
 refine W.weak (zqh 0 3 (qB _) (qM _) (fun i cs h=>absurd h (by omega))) ?_
 refine zal (fun k E H=>∃M T av,Ends n M' T' k M T∧LState n (16^n) (8*16^n) M0 M T∧Sq n M av∧E 6=av∧E 7=matC T∧H=[]) (n:=k0)
  ⟨M0,idM n,_,hE,hst,hsq0,?_,?_,rfl⟩ ?_
 ·unfold frzE
  simp only [zaa,zac,qJ,qQ,reduceIte,if_false]
  rw [if_neg (by simp [AV.under]),hfz]
  rfl
 ·unfold frzE
  simp only [zaa,zac,qJ,qQ,reduceIte,if_false]
  rfl
 rintro k E H ⟨M,T,av,hEn,hL,hsM,e6,e7,rfl⟩
 refine zaf zah ?_
 obtain ⟨hbM,hbT⟩:=zkh h1 h5 hpos ha hL
 have hA200:(bigK (16^n) (8*16^n)).toNat≤2^200:=by
  have:=(qnl h1 h5).2
  have e:((2^200:Nat):Int)=(2:Int)^200:=Int.natCast_pow 2 200
  omega
 have hTsq:Sq n T (matC T):=zrm hL.shT ⟨h1,h8⟩ hbT (by
  exact Nat.lt_trans qwt qpe)
 have cM:qZ [av]=true:=by simp only [qZ,hsM.closed,qU]
 have next:∀U,Shp n U→Bnd (zle) U→Ret Tryz.prog G 62 [av,matC U] [] (matC (cgM n M U)) []∧Ret Tryz.prog G 63 [matC T,matC U] [] (matC (mulM n T U)) []∧Sq n U (matC U):=by
  intro U hU hbU
  have hUsq:=zrm hU ⟨h1,h8⟩ hbU (by
   exact Nat.lt_trans qtv qpe)
  exact ⟨qbn hsM hUsq hbM hbU (qwq hA200 (qB _)),zrr hTsq hUsq ⟨hbT,hbU,qwr (qB _) (qB _)⟩,hUsq⟩
 have y1:1≤zle:=qnm
 rcases qhm h8 hK1 (Int.le_refl _) hL hEn with ⟨hok,rfl,rfl⟩ | ⟨k',i,j,rfl,hc,hL',hE'⟩ | ⟨k',i,rfl,hc,hL',hE'⟩
 ·have tS:=qtq (ds:=[]) hsM hF hbM (qB _) hL.pos.pos (ztx hok)
  have hIn:∀i j,In64 (ent M i j):=by
   intro i j
   by_cases h:i<n∧j<n
   ·have:=hred.entry h.1 h.2
    have e:rowF M i j=ent M i j:=rfl
    unfold In64;omega
   ·rw [hL.shM.out (by omega)];unfold In64;omega
  have tI:=qtr hsM hIn
  simp only [l23_0,r23_8,SS,reduceCtorEq,reduceIte,e6]
  refine zab tS ?_ cM
  simp only [SS,reduceIte,qQ,qV,qY]
  simp only [r23_9,SS,forall_const,reduceIte,qQ]
  simp only [r23_10,SS,reduceIte,qQ,e6]
  refine zab tI ?_ cM
  simp only [SS,reduceIte,qQ,qV,qY]
  simp only [r23_11,SS,reduceIte,qQ,e7]
  exact ⟨.inl trivial,_,rfl,.drop _ _ rfl (by intro i cs h;omega)⟩
 ·have hi:=hc.hi
  have hj:=hc.hj
  have hnb:(zga (stg (rowF M) j i j) (lead (rowF M) (j+1))).natAbs≤zle:=by
   have h2:=qti (l:=stg (rowF M) j i j) (hL.pos.pos (j+1) (by omega))
   have h3:=(qho hF hbM (qB n) hL.pos.pos (i:=i) (j:=j) (by omega)).2
   have h4:=(qhw h1 h5).2
   have h5':=qws
   omega
  obtain ⟨tC,tP,hUsq⟩:=next (zho n M i j) (qnp (by omega)) (qnn (by omega) hi y1 hnb)
  have tS:=qtq (ds:=[]) hsM hF hbM (qB _) hL.pos.pos (zwm hc)
  have hcg:=zrm hL'.shM ⟨h1,h8⟩ (zkh h1 h5 hpos ha hL').1 (qN (hF.all (k:=0) (qM _)).1 hF.lt)
  have c2:qZ [av,matC (zho n M i j)]=true:=by simp only [qZ,hsM.closed,hUsq.closed,qU]
  have c3:qZ [matC T,matC (zho n M i j)]=true:=rfl
  simp only [l23_0,r23_8,SS,reduceCtorEq,reduceIte,e6]
  refine zab tS ?_ cM
  simp only [SS,reduceIte,qQ,qV,qY]
  simp only [r23_9,SS,forall_const,reduceIte,qQ]
  simp only [r23_12,SS,reduceIte,qQ,e6]
  refine zab tC ?_ c2
  simp only [SS,reduceIte,qQ,e7]
  refine zab tP ?_ c3
  simp only [SS,reduceIte,qQ]
  exact ⟨k',_,_,by omega,⟨_,_,_,hE',hL',hcg,by simp only [zaa,qQ,reduceIte,if_false],by simp only [zaa,qQ,reduceIte,if_false],rfl⟩,.refl⟩
 ·have hi:=hc.hi
  have h0:=hc.h0
  obtain ⟨tC,tP,hUsq⟩:=next (zkg n i) (qhx hi) (qno hi y1)
  have tS:=qtq (ds:=[]) hsM hF hbM (qB _) hL.pos.pos (qbp hc)
  have hcg:=zrm hL'.shM ⟨h1,h8⟩ (zkh h1 h5 hpos ha hL').1 (qN (hF.all (k:=0) (qM _)).1 hF.lt)
  have c2:qZ [av,matC (zkg n i)]=true:=by simp only [qZ,hsM.closed,hUsq.closed,qU]
  have c3:qZ [matC T,matC (zkg n i)]=true:=rfl
  simp only [l23_0,r23_8,SS,reduceCtorEq,reduceIte,e6]
  refine zab tS ?_ cM
  simp only [SS,reduceIte,qQ,qV,qY]
  simp only [r23_9,SS,forall_const,reduceIte,qQ]
  simp only [r23_12,SS,reduceIte,qQ,e6]
  refine zab tC ?_ c2
  simp only [SS,reduceIte,qQ,e7]
  refine zab tP ?_ c3
  simp only [SS,reduceIte,qQ]
  exact ⟨k',_,_,by omega,⟨_,_,_,hE',hL',hcg,by simp only [zaa,qQ,reduceIte,if_false],by simp only [zaa,qQ,reduceIte,if_false],rfl⟩,.refl⟩
theorem zrt:FitN 8 BIG 16:=⟨by decide,by decide +kernel⟩
theorem zty {n:Nat} {M:List (List Int)} (h:SmallG n M):Bnd 16 M:=by
 intro i j
 have:=h.bnd i j
 omega
theorem zwn {n:Nat} {M:List (List Int)} {ds:List Int} (hS:Shp n M) (hsy:∀i j,i<n→j<n→ent M i j=ent M j i) (hds:zdk BIG M n=some ds):valZ M ds=0↔∀k,k<n+1→0<lead (rowF M) k:=by
 have hsb:=(zlu hS).2 (fun i j hi hj=>hsy i j hi hj)
 constructor
 ·intro hv
  have hdf:defB M ds=true:=by
   unfold valZ at hv
   rw [hsb] at hv
   cases e:defB M ds with
   | true=>rfl
   | false=>rw [e] at hv;simp at hv
  unfold defB at hdf
  rw [hsb,xY,znk,zda hds] at hdf
  intro k hk
  exact (qfz hds n (qB _) hdf).1 k (by omega)
 ·intro hp
  have hdf:defB M ds=true:=by
   unfold defB
   rw [hsb,xY,znk,zda hds]
   intro t ht
   rw [zrb hds (fun k hk=>hp k (by omega)) t ht]
   exact hp (t+1) (by omega)
  unfold valZ
  rw [hsb,hdf];rfl
theorem qxw {n:Nat} {M:List (List Int)} {a:AV} (hG:SmallG n M) (ha:ImV M a) (hn:1≤n∧n≤8):Ret Tryz.prog G 69 [a] [] (.bool (decide (zij n M))) []:=by
 have hS:=hG.shp
 have hb:=zty hG
 have hsq:=zrm hS hn hb (qN (zrt.all (k:=0) (qM _)).1 zrt.lt)
 have t0:=mOf (n:=n) ha (by omega) (by rw [hS.len];omega) (fun i hi=>hS.row i (by rw [hS.len] at hi;exact hi))
 obtain ⟨ds,hds,hdf⟩:=zlv zrt hb n hn.2
 have hds':zjm BIG M=some ds:=by unfold zjm;rw [hS.len];exact hds
 obtain ⟨d0,hd0,hd0f⟩:=zrc (B:=BIG) zrt.one (fun k hk=>(zrt.all (k:=k) (by omega)).2) hS hb
 have hd0B:d0.natAbs<BIG:=by have:=(zrt.all hn.2).1;have:=zrt.lt;omega
 have t1:=znf zdq hsq hds'
 have t2:=mDet zdq hsq.mat (by rw [hsq.len];omega) (fun i hi=>by rw [hsq.len] at hi ⊢;exact hsq.cols i hi) hd0
 obtain ⟨v3,hv3,t3⟩:=zfu 10000 (by omega) (by omega)
 have t4:=zCmp (zbr hd0B) hv3
 have hviff:=zwn hS hG.sym hds
 have hcl:=hsq.closed
 have c1:qZ [a]=true:=by simp only [qZ,ha.closed,qU]
 have c2:qZ [matC M]=true:=by simp only [qZ,hcl,qU]
 have c3:qZ [intV d0,v3]=true:=by simp only [qZ,(zbr hd0B).closed,hv3.closed,qU]
 refine zai zah Tryz.func69 comp69 _ 16 res69 nt69 (by simp) (by simp) ?_
 simp only [c69,r69_0,r69_1,SS,reduceCtorEq,reduceIte]
 refine zab t0 ?_ c1
 simp only [SS,reduceIte,qQ]
 simp only [r69_2,SS,reduceIte,qQ]
 refine zab t1 ?_ c2
 simp only [SS,forall_const,reduceIte,qQ]
 refine ⟨fun h1=>?_,fun h1=>?_⟩
 ·have hp:=hviff.1 h1
  have hd0e:d0=lead (rowF M) n:=zhi hS (fun t ht=>by have:=hp t (by omega);omega) hd0
  refine zab t2 ?_ c2 (zbr hd0B).closed
  simp only [SS,forall_const,reduceIte,qQ]
  refine zab t3 ?_ rfl hv3.closed
  simp only [SS,forall_const,reduceIte,qQ]
  refine zab t4 ?_ c3
  simp only [SS,forall_const,reduceIte,qQ]
  have e:decide ((if d0<10000 then (-1:Int) else if d0=10000 then 0 else 1)≤0)=decide (zij n M):=by
   rw [decide_eq_decide]
   unfold zij
   rw [←hd0e]
   constructor
   ·intro h
    refine ⟨hp,?_⟩
    split at h
    ·omega
    ·split at h<;>omega
   ·rintro ⟨_,h⟩
    split
    ·omega
    ·split<;>omega
  rw [e]
  exact ⟨.inl trivial,_,rfl,.drop _ _ rfl (by intro i cs h;omega)⟩
 ·have hng:decide (zij n M)=false:=decide_eq_false (fun hg=>h1 (hviff.2 hg.1))
  have d1:decide (valZ M ds=0)=false:=decide_eq_false h1
  rw [hng]
  simp only [d1]
  exact ⟨.inl trivial,_,rfl,.drop _ _ rfl (by intro i cs h;omega)⟩
end Go.Proofs.YtpflahgcdgdkjaaGreatDoor
namespace Go.Proofs.YtpflahgcdgdkjaaGreatDoor
open Nat renaming reduceEqDiff → qQ, le_refl → qB, sub_self → qC, reduceLeDiff → qD, reduceAdd → qI, zero_le → qM, lt_of_le_of_lt → qN, zero_add → xA, lt_or_ge → xB, mul_one → xD
open List renaming getD_eq_getElem?_getD → qX, getD_cons_succ → qJ, getElem?_append_right → qK, getElem?_cons_zero → qV, getElem?_cons_succ → qY, getElem?_append_left → qA, getElem?_eq_getElem → qE, take_of_length_le → qG, getElem?_set_ne → qH, getD_cons_zero → qL, replicate_zero → qO, ext_getElem → qR, nil_append → qT, length_nil → xQ, append_nil → xX, set_append_right → xZ, getElem?_eq_none → xJ, drop_zero → xW, map_congr_left → xV, getElem?_set → xC
open Go.AL.AV.closed renaming closedL → qZ
open Int renaming toNat_natCast → qW, tmod_eq_emod_of_nonneg → qP, emod_lt_of_pos → xU, emod_nonneg → xE
open Bool renaming and_self → qU
set_option linter.unusedSimpArgs false
set_option linter.unusedVariables false
open Go Go.AL Go.Proofs Go.Limb
set_option maxRecDepth 100000
theorem qpg {σ:Nat→Nat} {K N n:Nat} {rows:List (List Int)} (hσ:∀j,σ j=K+j):(bH N n rows).map (renB σ)=bO K N n rows:=by
 unfold bH bO
 rw [List.map_cons,List.map_map]
 congr 1
 ·show some ((outS N n rows.length).map (AV.ren σ))=_
  congr 1
  unfold outS outO
  rw [List.map_append]
  congr 1
  ·unfold znh ziz
   rw [List.map_map]
   refine xV fun k _=>?_
   show AV.sl (σ (k+1)) 0 n 1 (some n)= .sl (K+k+1) 0 n 1 (some n)
   rw [hσ]
   rfl
  ·rw [List.map_replicate]
   rfl
 ·refine xV fun r _=>?_
  show some ((i64z r).map (AV.ren σ))=some (i64z r)
  rw [zbb _ _ (znv r)]
structure ChainR (n:Nat) (fork:Bool) (i:Nat) (R:List (List Int)):Prop where
 len:R.length=i
 row:∀s,s<i→(R.getD s []).length=n
 ent:∀s t,s<i→t<n→ent R s t=if s=t then 2 else if t<i∧(zcb n fork s t=true∨zcb n fork t s=true) then -1 else 0
def zny (n:Nat) (fork:Bool) (i:Nat):Int:=if fork=true∧i+1=n∧3<n then (i:Int)-2 else (i:Int)-1
theorem zcu {n i k:Nat} {fork:Bool}:zcb n fork i k=true↔(k:Int)=zny n fork i:=by
 unfold zcb zny
 split
 ·rw [beq_iff_eq];omega
 ·rw [beq_iff_eq];omega
theorem zdu {n i k:Nat} {fork:Bool} (h:zcb n fork i k=true):k<i:=by
 have:=zcu.1 h
 unfold zny at this
 split at this<;>omega
theorem qbq {n:Nat} {fork:Bool} {R:List (List Int)} (h:ChainR n fork n R):R=zca n fork:=by
 refine zrg (n:=n) ⟨h.len,h.row⟩ (zcj _ _) fun s t hs ht=>?_
 rw [h.ent s t hs ht]
 unfold zca
 rw [zcd hs ht]
 by_cases e:s=t
 ·rw [if_pos e,if_pos e]
 ·rw [if_neg e,if_neg e]
  by_cases e2:zcb n fork s t=true∨zcb n fork t s=true
  ·rw [if_pos ⟨ht,e2⟩,if_pos e2]
  ·rw [if_neg (fun x=>e2 x.2),if_neg e2]
def zam (n i:Nat):List Int:=(List.replicate n 0).set i 2
theorem zyu {R:List (List Int)} {i:Nat} (hl:R.length=i) (r:List Int) (s t:Nat):ent (R++[r]) s t=if s=i then r.getD t 0 else ent R s t:=by
 unfold ent
 by_cases e:s=i
 ·rw [if_pos e,e,qX (l:=R++[r]),qK (by omega),hl,qC];rfl
 ·rw [if_neg e]
  rcases xB s i with h | h
  ·rw [qX (l:=R++[r]),qA (by omega),←qX]
  ·rw [qX (l:=R++[r]),xJ (by simp;omega),qX (l:=R),xJ (by omega)]
theorem qhy {n i t:Nat} (hi:i<n):(zam n i).getD t 0=if t=i then 2 else 0:=by
 unfold zam
 rw [qX,xC]
 by_cases e:i=t
 ·rw [if_pos e,if_pos (by simpa using hi),if_pos e.symm];rfl
 ·rw [if_neg e,if_neg (fun x=>e x.symm),List.getElem?_replicate]
  split<;>rfl
theorem zgp {n i:Nat} {fork:Bool} {R:List (List Int)} (h:ChainR n fork i R) (hi:i<n) (hno:∀t,zcb n fork i t=false):ChainR n fork (i+1) (R++[zam n i]):=by
 refine ⟨by simp [h.len],fun s hs=>?_,fun s t hs ht=>?_⟩
 ·rcases (by omega:s<i∨s=i) with e | e
  ·rw [qX,qA (by rw [h.len];exact e),←qX];exact h.row s e
  ·rw [e,qX,qK (by rw [h.len];omega),h.len,qC];simp [zam]
 ·rw [zyu h.len]
  by_cases e:s=i
  ·rw [if_pos e,qhy hi]
   subst e
   by_cases e2:t=s
   ·rw [if_pos e2,if_pos e2.symm]
   ·rw [if_neg e2,if_neg (fun x=>e2 x.symm),if_neg]
    rintro ⟨h1,h2 | h2⟩
    ·rw [hno] at h2;cases h2
    ·have:=zdu h2;omega
  ·rw [if_neg e,h.ent s t (by omega) ht]
   by_cases e2:s=t
   ·rw [if_pos e2,if_pos e2]
   ·rw [if_neg e2,if_neg e2]
    by_cases e3:t<i∧(zcb n fork s t=true∨zcb n fork t s=true)
    ·rw [if_pos e3,if_pos ⟨by omega,e3.2⟩]
    ·rw [if_neg e3,if_neg]
     rintro ⟨h1,h2⟩
     rcases (by omega:t<i∨t=i) with e4 | e4
     ·exact e3 ⟨e4,h2⟩
     ·rw [e4] at h2
      rcases h2 with h2 | h2
      ·have:=zdu h2;omega
      ·rw [hno] at h2;cases h2
theorem zii {n i k:Nat} {fork:Bool} {R:List (List Int)} (h:ChainR n fork i R) (hi:i<n) (hk:zcb n fork i k=true):ChainR n fork (i+1) (setM (setM (R++[zam n i]) i k (-1)) k i (-1)):=by
 have hki:=zdu hk
 have hone:∀t,zcb n fork i t=true↔t=k:=by
  intro t
  rw [zcu,←zcu.1 hk]
  omega
 have hl:(R++[zam n i]).length=i+1:=by simp [h.len]
 have hrow:∀s,s<i+1→((R++[zam n i]).getD s []).length=n:=by
  intro s hs
  rcases (by omega:s<i∨s=i) with e | e
  ·rw [qX,qA (by rw [h.len];exact e),←qX];exact h.row s e
  ·rw [e,qX,qK (by rw [h.len];omega),h.len,qC];simp [zam]
 have hset:∀(X:List (List Int)) (a b:Nat) (z:Int),(∀s,s<i+1→(X.getD s []).length=n)→X.length=i+1→a<i+1→∀s,s<i+1→((setM X a b z).getD s []).length=n:=by
  intro X a b z hX hXl ha s hs
  unfold setM
  rw [qX,xC]
  by_cases e:a=s
  ·subst e
   rw [if_pos rfl,if_pos (by omega),Option.getD_some,List.length_set];exact hX a hs
  ·rw [if_neg e,←qX];exact hX s hs
 have h1l:(setM (R++[zam n i]) i k (-1)).length=i+1:=by rw [zcn];exact hl
 have h1r:=hset _ i k (-1) hrow hl (by omega)
 refine ⟨by rw [zcn];exact h1l,hset _ k i (-1) h1r h1l (by omega),fun s t hs ht=>?_⟩
 rw [zgk (by omega) (by rw [h1r k (by omega)];exact hi),zgk (by omega) (by rw [hrow i (by omega)];omega),zyu h.len]
 by_cases a1:s=k∧t=i
 ·obtain ⟨rfl,rfl⟩:=a1
  rw [if_pos ⟨rfl,rfl⟩,if_neg (by omega),if_pos ⟨by omega,.inr hk⟩]
 ·rw [if_neg a1]
  by_cases a2:s=i∧t=k
  ·obtain ⟨rfl,rfl⟩:=a2
   rw [if_pos ⟨rfl,rfl⟩,if_neg (by omega),if_pos ⟨by omega,.inl hk⟩]
  ·rw [if_neg a2]
   by_cases e:s=i
   ·rw [if_pos e,qhy hi]
    subst e
    by_cases e2:t=s
    ·rw [if_pos e2,if_pos e2.symm]
    ·rw [if_neg e2,if_neg (fun x=>e2 x.symm),if_neg]
     rintro ⟨h1,h2 | h2⟩
     ·exact a2 ⟨rfl,(hone t).1 h2⟩
     ·have:=zdu h2;omega
   ·rw [if_neg e,h.ent s t (by omega) ht]
    by_cases e2:s=t
    ·rw [if_pos e2,if_pos e2]
    ·rw [if_neg e2,if_neg e2]
     by_cases e3:t<i∧(zcb n fork s t=true∨zcb n fork t s=true)
     ·rw [if_pos e3,if_pos ⟨by omega,e3.2⟩]
     ·rw [if_neg e3,if_neg]
      rintro ⟨h1,h2⟩
      rcases (by omega:t<i∨t=i) with e4 | e4
      ·exact e3 ⟨e4,h2⟩
      ·rw [e4] at h2
       rcases h2 with h2 | h2
       ·have:=zdu h2;omega
       ·exact a1 ⟨(hone s).1 h2,e4⟩
set_option maxHeartbeats 4000000 in
theorem qph {n:Nat} {fork:Bool} (hn:1≤n∧n≤8):Ret Tryz.prog G 66 [.int .i64 (n:Nat),.bool fork] [] (.sl 0 0 n 1 (some n)) (bH n n (zca n fork)):=by
 refine zai zah Tryz.func66 comp66 _ 57 res66 nt66 (by simp) (by simp) ?_
 simp only [c66,r66_0,r66_1,SS,reduceCtorEq,reduceIte,qQ,qW]
 refine ⟨by decide,⟨by omega,by omega,by omega,by omega⟩,?_⟩
 simp only [r66_2,SS,reduceIte,qQ]
 have hb0:[some (List.replicate n (AV.vec [] 0 (some 0)))]=bH n n []:=rfl
 rw [hb0]
 refine zal (fun q E H=>∃i R,i+q=n∧ChainR n fork i R∧H=bH n n R∧E 0= .int .i64 (n:Nat)∧E 1= .bool fork∧E 5= .sl 0 0 n 1 (some n)∧E 11= .int .i64 (n:Nat)∧E 12= .int .i64 (i:Nat)) (n:=n)
  ⟨0,[],by omega,⟨rfl,fun s h=>absurd h (by omega),fun s t h=>absurd h (by omega)⟩,rfl,by simp only [zaa,zac,qL,qQ,if_false],by simp only [zaa,zac,qL,qJ,qQ,if_false],by simp only [zaa,zac,qJ,qQ,reduceIte,if_false],by simp only [zaa,zac,qJ,qQ,reduceIte,if_false],by simp only [zaa,zac,qJ,qQ,reduceIte,if_false];rfl⟩ ?_
 rintro q E H ⟨i,R,hiq,hR,rfl,e0,e1,e5,e11,e12⟩
 refine zaf zah ?_
 simp only [l66_0,r66_3,SS,reduceCtorEq,reduceIte,e11,e12]
 refine ⟨fun hlt=>?_,fun hge=>?_⟩
 ·obtain ⟨q,rfl⟩:∃q',q=q'+1:=⟨q-1,by omega⟩
  have hi:i<n:=by omega
  have hRl:=hR.len
  have w5:IntKind.i64.wrap ((i:Int)+1)=((i+1:Nat):Int):=by rw [show (i:Int)+1=((i+1:Nat):Int) by omega];exact w64 (by omega) (by omega)
  have w6:IntKind.i64.wrap ((i:Int)-1)=(i:Int)-1:=w64 (by omega) (by omega)
  have w7:IntKind.i64.wrap ((i:Int)-2)=(i:Int)-2:=w64 (by omega) (by omega)
  have w8:IntKind.i64.wrap ((n:Int)-1)=(n:Int)-1:=w64 (by omega) (by omega)
  have hbl:(bH n n R).length=i+1:=by rw [zxu,hRl]
  have go:getB (bH n n R++[some (i64z (List.replicate n 0))]) 0=some (outS n n i):=by
   have:getB (bH n n R) 0=some (outS n n i):=by rw [zdv,hRl]
   exact this
  have gol:=zek (N:=n) (n:=n) (i:=i) (by omega)
  have hnew:=zxv (N:=n) (n:=n) (rows:=R) (List.replicate n 0) (by omega)
  rw [hRl] at hnew
  simp only [r66_4,r66_5,SS,reduceCtorEq,reduceIte,qQ,e0,e5,e12,qW,hbl,zjs,go,gol]
  refine ⟨by decide,⟨by omega,by omega,by omega,by omega⟩,⟨by omega,by omega⟩,by omega,?_⟩
  rw [hnew]
  have hrl:(R++[List.replicate n 0]).length=i+1:=by simp [hRl]
  have g0:getB (bH n n (R++[List.replicate n 0])) 0=some (outS n n (i+1)):=by rw [zdv,hrl]
  have gl:=zek (N:=n) (n:=n) (i:=i+1) (by omega)
  have gg:=zel (N:=n) (n:=n) (i:=i+1) (k:=i) (by omega)
  have gr:=zfl (N:=n) (n:=n) (i:=i) (rows:=R++[List.replicate n 0]) (by omega)
  have grr:(R++[List.replicate n 0]).getD i []=List.replicate n 0:=by
   rw [qX,qK (by omega),hRl,qC];simp
  rw [grr] at gr
  have eset:(R++[List.replicate n 0]).set i ((List.replicate n 0).set i 2)=R++[zam n i]:=by
   rw [xZ _ _ (by omega),hRl,qC];rfl
  simp only [r66_6,SS,forall_const,reduceIte,qQ,e5,qW,g0,gl,gg,gr,zax,List.length_replicate,zdl,zgs,eset]
  refine ⟨⟨by omega,by omega⟩,by omega,⟨by omega,by omega⟩,by omega,?_⟩
  simp only [r66_7,SS,reduceIte,qQ,w6]
  have hrl2:(R++[zam n i]).length=i+1:=by simp [hRl]
  have k0:getB (bH n n (R++[zam n i])) 0=some (outS n n (i+1)):=by rw [zdv,hrl2]
  have tailS:∀k:Nat,zcb n fork i k=true→k<i∧outS n n (i+1)=outS n n (i+1):=fun k h=>⟨zdu h,rfl⟩
  rcases (by cases fork<;>simp<;>omega:fork=false∨(fork=true∧i+1≠n)∨(fork=true∧i+1=n∧¬3<n)∨(fork=true∧i+1=n∧3<n)) with hf | ⟨hf,h1⟩ | ⟨hf,h1,h2⟩ | ⟨hf,h1,h2⟩
  ·subst hf
   have hprev:zny n false i=(i:Int)-1:=by unfold zny;rw [if_neg (by simp)]
   simp only [r66_8,SS,forall_const,reduceCtorEq,reduceIte,qQ,e0,e1,w8]
   simp only [r66_10,SS,reduceIte,qQ]
   refine ⟨fun hk0=>?_,fun hk0=>?_⟩
   ·obtain ⟨k,hk⟩:∃k:Nat,(i:Int)-1=(k:Int):=⟨((i:Int)-1).toNat,by omega⟩
    have hlk:zcb n false i k=true:=zcu.2 (by rw [hprev];exact hk.symm)
    have hki:=zdu hlk
    have hnx:=zii hR hi hlk
    have gk:=zel (N:=n) (n:=n) (i:=i+1) (k:=k) (by omega)
    have r1:=zfl (N:=n) (n:=n) (i:=i) (rows:=R++[zam n i]) (by omega)
    have r2:=zfl (N:=n) (n:=n) (i:=k) (rows:=setM (R++[zam n i]) i k (-1)) (by rw [zcn];omega)
    have l1:((R++[zam n i]).getD i []).length=n:=by
     rw [qX,qK (by omega),hRl,qC];simp [zam]
    have l2:((setM (R++[zam n i]) i k (-1)).getD k []).length=n:=by
     unfold setM
     rw [qX,qH (by omega),qA (by omega),←qX]
     exact hR.row k hki
    have s1:=zgs (N:=n) (n:=n) (i:=i) (rows:=R++[zam n i]) (((R++[zam n i]).getD i []).set k (-1))
    have s1e:(R++[zam n i]).set i (((R++[zam n i]).getD i []).set k (-1))=setM (R++[zam n i]) i k (-1):=rfl
    rw [s1e] at s1
    have s2:=zgs (N:=n) (n:=n) (i:=k) (rows:=setM (R++[zam n i]) i k (-1)) (((setM (R++[zam n i]) i k (-1)).getD k []).set i (-1))
    have s2e:(setM (R++[zam n i]) i k (-1)).set k (((setM (R++[zam n i]) i k (-1)).getD k []).set i (-1))=setM (setM (R++[zam n i]) i k (-1)) k i (-1):=rfl
    rw [s2e] at s2
    simp only [r66_11,SS,forall_const,reduceIte,qQ,e5,hk,qW,k0,gl,gg,gk,r1,l1,zax,zdl,s1,r2,l2,s2]
    refine ⟨⟨by omega,by omega⟩,by omega,⟨by omega,by omega⟩,by omega,⟨by omega,by omega⟩,by omega,⟨by omega,by omega⟩,by omega,rfl,?_⟩
    simp only [r66_12,SS,reduceIte,qQ,e12,w5]
    refine ⟨q,_,_,by omega,⟨i+1,_,by omega,hnx,rfl,?_,?_,?_,?_,?_⟩,.refl⟩
    all_goals simp only [zaa,qQ,reduceIte,if_false, *]
   ·have hno:∀t,zcb n false i t=false:=by
     intro t
     cases hb:zcb n false i t with
     | false=>rfl
     | true=>have:=zcu.1 hb;rw [hprev] at this;omega
    have hnx:=zgp hR hi hno
    simp only [r66_12,SS,reduceIte,qQ,e12,w5]
    refine ⟨q,_,_,by omega,⟨i+1,_,by omega,hnx,rfl,?_,?_,?_,?_,?_⟩,.refl⟩
    all_goals simp only [zaa,qQ,reduceIte,if_false, *]
  ·subst hf
   have hprev:zny n true i=(i:Int)-1:=by unfold zny;rw [if_neg (fun e=>h1 e.2.1)]
   have d1:decide ((i:Int)=(n:Int)-1)=false:=decide_eq_false (by omega)
   simp only [r66_8,SS,forall_const,reduceCtorEq,reduceIte,qQ,e0,e1,w8,d1]
   simp only [r66_10,SS,reduceIte,qQ]
   refine ⟨fun hk0=>?_,fun hk0=>?_⟩
   ·obtain ⟨k,hk⟩:∃k:Nat,(i:Int)-1=(k:Int):=⟨((i:Int)-1).toNat,by omega⟩
    have hlk:zcb n true i k=true:=zcu.2 (by rw [hprev];exact hk.symm)
    have hki:=zdu hlk
    have hnx:=zii hR hi hlk
    have gk:=zel (N:=n) (n:=n) (i:=i+1) (k:=k) (by omega)
    have r1:=zfl (N:=n) (n:=n) (i:=i) (rows:=R++[zam n i]) (by omega)
    have r2:=zfl (N:=n) (n:=n) (i:=k) (rows:=setM (R++[zam n i]) i k (-1)) (by rw [zcn];omega)
    have l1:((R++[zam n i]).getD i []).length=n:=by
     rw [qX,qK (by omega),hRl,qC];simp [zam]
    have l2:((setM (R++[zam n i]) i k (-1)).getD k []).length=n:=by
     unfold setM
     rw [qX,qH (by omega),qA (by omega),←qX]
     exact hR.row k hki
    have s1:=zgs (N:=n) (n:=n) (i:=i) (rows:=R++[zam n i]) (((R++[zam n i]).getD i []).set k (-1))
    have s1e:(R++[zam n i]).set i (((R++[zam n i]).getD i []).set k (-1))=setM (R++[zam n i]) i k (-1):=rfl
    rw [s1e] at s1
    have s2:=zgs (N:=n) (n:=n) (i:=k) (rows:=setM (R++[zam n i]) i k (-1)) (((setM (R++[zam n i]) i k (-1)).getD k []).set i (-1))
    have s2e:(setM (R++[zam n i]) i k (-1)).set k (((setM (R++[zam n i]) i k (-1)).getD k []).set i (-1))=setM (setM (R++[zam n i]) i k (-1)) k i (-1):=rfl
    rw [s2e] at s2
    simp only [r66_11,SS,forall_const,reduceIte,qQ,e5,hk,qW,k0,gl,gg,gk,r1,l1,zax,zdl,s1,r2,l2,s2]
    refine ⟨⟨by omega,by omega⟩,by omega,⟨by omega,by omega⟩,by omega,⟨by omega,by omega⟩,by omega,⟨by omega,by omega⟩,by omega,rfl,?_⟩
    simp only [r66_12,SS,reduceIte,qQ,e12,w5]
    refine ⟨q,_,_,by omega,⟨i+1,_,by omega,hnx,rfl,?_,?_,?_,?_,?_⟩,.refl⟩
    all_goals simp only [zaa,qQ,reduceIte,if_false, *]
   ·have hno:∀t,zcb n true i t=false:=by
     intro t
     cases hb:zcb n true i t with
     | false=>rfl
     | true=>have:=zcu.1 hb;rw [hprev] at this;omega
    have hnx:=zgp hR hi hno
    simp only [r66_12,SS,reduceIte,qQ,e12,w5]
    refine ⟨q,_,_,by omega,⟨i+1,_,by omega,hnx,rfl,?_,?_,?_,?_,?_⟩,.refl⟩
    all_goals simp only [zaa,qQ,reduceIte,if_false, *]
  ·subst hf
   have hprev:zny n true i=(i:Int)-1:=by unfold zny;rw [if_neg (fun e=>h2 e.2.2)]
   have d1:decide ((i:Int)=(n:Int)-1)=true:=decide_eq_true (by omega)
   have d2:decide ((3:Int)<(n:Nat))=false:=decide_eq_false (by omega)
   simp only [r66_8,SS,forall_const,reduceCtorEq,reduceIte,qQ,e0,e1,w8,d1,d2]
   simp only [r66_10,SS,reduceIte,qQ]
   refine ⟨fun hk0=>?_,fun hk0=>?_⟩
   ·obtain ⟨k,hk⟩:∃k:Nat,(i:Int)-1=(k:Int):=⟨((i:Int)-1).toNat,by omega⟩
    have hlk:zcb n true i k=true:=zcu.2 (by rw [hprev];exact hk.symm)
    have hki:=zdu hlk
    have hnx:=zii hR hi hlk
    have gk:=zel (N:=n) (n:=n) (i:=i+1) (k:=k) (by omega)
    have r1:=zfl (N:=n) (n:=n) (i:=i) (rows:=R++[zam n i]) (by omega)
    have r2:=zfl (N:=n) (n:=n) (i:=k) (rows:=setM (R++[zam n i]) i k (-1)) (by rw [zcn];omega)
    have l1:((R++[zam n i]).getD i []).length=n:=by
     rw [qX,qK (by omega),hRl,qC];simp [zam]
    have l2:((setM (R++[zam n i]) i k (-1)).getD k []).length=n:=by
     unfold setM
     rw [qX,qH (by omega),qA (by omega),←qX]
     exact hR.row k hki
    have s1:=zgs (N:=n) (n:=n) (i:=i) (rows:=R++[zam n i]) (((R++[zam n i]).getD i []).set k (-1))
    have s1e:(R++[zam n i]).set i (((R++[zam n i]).getD i []).set k (-1))=setM (R++[zam n i]) i k (-1):=rfl
    rw [s1e] at s1
    have s2:=zgs (N:=n) (n:=n) (i:=k) (rows:=setM (R++[zam n i]) i k (-1)) (((setM (R++[zam n i]) i k (-1)).getD k []).set i (-1))
    have s2e:(setM (R++[zam n i]) i k (-1)).set k (((setM (R++[zam n i]) i k (-1)).getD k []).set i (-1))=setM (setM (R++[zam n i]) i k (-1)) k i (-1):=rfl
    rw [s2e] at s2
    simp only [r66_11,SS,forall_const,reduceIte,qQ,e5,hk,qW,k0,gl,gg,gk,r1,l1,zax,zdl,s1,r2,l2,s2]
    refine ⟨⟨by omega,by omega⟩,by omega,⟨by omega,by omega⟩,by omega,⟨by omega,by omega⟩,by omega,⟨by omega,by omega⟩,by omega,rfl,?_⟩
    simp only [r66_12,SS,reduceIte,qQ,e12,w5]
    refine ⟨q,_,_,by omega,⟨i+1,_,by omega,hnx,rfl,?_,?_,?_,?_,?_⟩,.refl⟩
    all_goals simp only [zaa,qQ,reduceIte,if_false, *]
   ·have hno:∀t,zcb n true i t=false:=by
     intro t
     cases hb:zcb n true i t with
     | false=>rfl
     | true=>have:=zcu.1 hb;rw [hprev] at this;omega
    have hnx:=zgp hR hi hno
    simp only [r66_12,SS,reduceIte,qQ,e12,w5]
    refine ⟨q,_,_,by omega,⟨i+1,_,by omega,hnx,rfl,?_,?_,?_,?_,?_⟩,.refl⟩
    all_goals simp only [zaa,qQ,reduceIte,if_false, *]
  ·subst hf
   have hprev:zny n true i=(i:Int)-2:=by unfold zny;rw [if_pos ⟨rfl,h1,h2⟩]
   have d1:decide ((i:Int)=(n:Int)-1)=true:=decide_eq_true (by omega)
   have d2:decide ((3:Int)<(n:Nat))=true:=decide_eq_true (by omega)
   simp only [r66_8,SS,forall_const,reduceCtorEq,reduceIte,qQ,e0,e1,w8,d1,d2]
   simp only [r66_9,SS,reduceIte,qQ,w7]
   simp only [r66_10,SS,reduceIte,qQ]
   refine ⟨fun hk0=>?_,fun hk0=>?_⟩
   ·obtain ⟨k,hk⟩:∃k:Nat,(i:Int)-2=(k:Int):=⟨((i:Int)-2).toNat,by omega⟩
    have hlk:zcb n true i k=true:=zcu.2 (by rw [hprev];exact hk.symm)
    have hki:=zdu hlk
    have hnx:=zii hR hi hlk
    have gk:=zel (N:=n) (n:=n) (i:=i+1) (k:=k) (by omega)
    have r1:=zfl (N:=n) (n:=n) (i:=i) (rows:=R++[zam n i]) (by omega)
    have r2:=zfl (N:=n) (n:=n) (i:=k) (rows:=setM (R++[zam n i]) i k (-1)) (by rw [zcn];omega)
    have l1:((R++[zam n i]).getD i []).length=n:=by
     rw [qX,qK (by omega),hRl,qC];simp [zam]
    have l2:((setM (R++[zam n i]) i k (-1)).getD k []).length=n:=by
     unfold setM
     rw [qX,qH (by omega),qA (by omega),←qX]
     exact hR.row k hki
    have s1:=zgs (N:=n) (n:=n) (i:=i) (rows:=R++[zam n i]) (((R++[zam n i]).getD i []).set k (-1))
    have s1e:(R++[zam n i]).set i (((R++[zam n i]).getD i []).set k (-1))=setM (R++[zam n i]) i k (-1):=rfl
    rw [s1e] at s1
    have s2:=zgs (N:=n) (n:=n) (i:=k) (rows:=setM (R++[zam n i]) i k (-1)) (((setM (R++[zam n i]) i k (-1)).getD k []).set i (-1))
    have s2e:(setM (R++[zam n i]) i k (-1)).set k (((setM (R++[zam n i]) i k (-1)).getD k []).set i (-1))=setM (setM (R++[zam n i]) i k (-1)) k i (-1):=rfl
    rw [s2e] at s2
    simp only [r66_11,SS,forall_const,reduceIte,qQ,e5,hk,qW,k0,gl,gg,gk,r1,l1,zax,zdl,s1,r2,l2,s2]
    refine ⟨⟨by omega,by omega⟩,by omega,⟨by omega,by omega⟩,by omega,⟨by omega,by omega⟩,by omega,⟨by omega,by omega⟩,by omega,rfl,?_⟩
    simp only [r66_12,SS,reduceIte,qQ,e12,w5]
    refine ⟨q,_,_,by omega,⟨i+1,_,by omega,hnx,rfl,?_,?_,?_,?_,?_⟩,.refl⟩
    all_goals simp only [zaa,qQ,reduceIte,if_false, *]
   ·have hno:∀t,zcb n true i t=false:=by
     intro t
     cases hb:zcb n true i t with
     | false=>rfl
     | true=>have:=zcu.1 hb;rw [hprev] at this;omega
    have hnx:=zgp hR hi hno
    simp only [r66_12,SS,reduceIte,qQ,e12,w5]
    refine ⟨q,_,_,by omega,⟨i+1,_,by omega,hnx,rfl,?_,?_,?_,?_,?_⟩,.refl⟩
    all_goals simp only [zaa,qQ,reduceIte,if_false, *]
 ·have hin:i=n:=by omega
  subst hin
  have e:=qbq hR
  subst e
  simp only [r66_13,SS,reduceIte,qQ,e5]
  exact ⟨.inl trivial,_,rfl,.keep _ _⟩
theorem qty {P:Heap} {m o N n:Nat} {rows:List (List Int)} (hm:m≤o) (ho:P.length=o) (hN:rows.length=N) (hn:∀i,i<N→(rows.getD i []).length=n):frzI m (P++bO o N n rows) 3 (.sl o 0 N 1 (some N))=some (.vec (zcp n rows) N (some N)):=by
 have e0:outO o N n rows.length=ziz o n N:=by
  unfold outO
  rw [hN,qC,qO,xX]
 have key:(ziz o n N).mapM (frzI m (P++bO o N n rows) 2)=some (zcp n rows):=by
  have:zcp n rows=(List.range N).map fun k=>AV.vec (i64z (rows.getD k [])) n (some n):=by
   refine qR (by simp [zcp,hN]) fun k h1 h2=>?_
   simp only [zcp,List.getElem_map,List.getElem_range]
   have hk:k<rows.length:=by simpa [zcp] using h1
   rw [qX,qE hk]
   rfl
  rw [this]
  unfold ziz
  rw [List.mapM_map]
  have:∀l:List Nat,(∀k∈l,k<N)→l.mapM (fun k=>frzI m (P++bO o N n rows) 2 (.sl (o+k+1) 0 n 1 (some n)))=some (l.map fun k=>AV.vec (i64z (rows.getD k [])) n (some n)):=by
   intro l
   induction l with
   | nil=>intro _;rfl
   | cons k l ih=>
    intro h
    have hk:=h k (by simp)
    have e:frzI m (P++bO o N n rows) 2 (.sl (o+k+1) 0 n 1 (some n))=some (.vec (i64z (rows.getD k [])) n (some n)):=by
     rw [frzI]
     have hl:=hn k hk
     simp only [show ¬o+k+1<m by omega,if_false,zld ho (show k<rows.length by omega),need,xA,xD,zax,hl,qB,if_true,xW]
     rw [qG (by rw [zax];omega),zqz]
     rfl
    rw [List.mapM_cons,e,ih (fun x hx=>h x (by simp [hx]))]
    rfl
  exact this _ (fun k hk=>List.mem_range.1 hk)
 rw [frzI]
 simp only [show ¬o<m by omega,if_false,zfn ho,e0,need,xA,xD,zff,qB,if_true,xW]
 rw [qG (by rw [zff];omega),key]
 rfl
def latC (d k:Int) (l q:List Int) (c c2:Option Nat):List AV:=[.int .u8 d,.int .u8 k,.vec (i8z l) l.length c,.vec (i8z q) q.length c2]
def tP2 (d k:Int) (l q:List Int) (c c2:Option Nat) (j:Nat):Heap:=[some (latC d k l q c c2),some (zdf l c j)]
theorem zku (d kd:Int) (l q:List Int) (c c2:Option Nat):qZ (latC d kd l q c c2)=true:=by
 simp only [latC,qZ,AV.closed,qU]
theorem zcy (l:List Int) (c:Option Nat) (j:Nat):qZ (zdf l c j)=true:=by
 simp only [zdf,qZ,AV.closed,qU]
theorem qhz {d kd:Int} {l q:List Int} {c c2:Option Nat} {j n:Nat} {M:List (List Int)} {E:Env} {Q:Post} (h:zkb l) (hj:j≤l.length) (hn:1≤n∧n≤8) (hG:SmallG n M)
  (e5:E 5= .ptr 1 0) (e6:E 6= .int .i64 (n:Nat)) (e7:E 7= .sl 2 0 n 1 (some n))
  (hQ:∀E' H',E' 4=(if zij n M then .vec (zcp n M) n (some n) else .sl 2 0 n 1 (some n))→H'=(if zij n M then tP2 d kd l q c c2 j else tP2 d kd l q c c2 (zbe l j n)++bO 2 n n (diaM l j n 2))→Q .ret E' H'):
  W Tryz.prog G 0 74 (.seq (.seq (.reg r25_19 none) (.cond (.t 69) (.seq (.reg r25_20 none) .ret) .skip)) (.seq (.reg r25_21 none) .ret)) E (tP2 d kd l q c c2 j++bO 2 n n M) Q:=by
 refine W.weak (zqh 2 3 (qM _) (by simp [tP2,bO]) (fun i cs hi hg=>?_)) ?_
 ·rcases (by omega:i=0∨i=1) with rfl | rfl
  ·obtain rfl:latC d kd l q c c2=cs:=by simpa [tP2] using hg
   exact zbt _ _ (zku ..)
  ·obtain rfl:zdf l c j=cs:=by simpa [tP2] using hg
   exact zbt _ _ (zcy ..)
 have htk:(tP2 d kd l q c c2 j++bO 2 n n M).take 2=tP2 d kd l q c c2 j:=rfl
 rw [htk]
 have hfz:=qty (P:=tP2 d kd l q c c2 j) (m:=2) (o:=2) (qB _) rfl hG.shp.len hG.shp.row
 have f5:frzE 2 3 (tP2 d kd l q c c2 j++bO 2 n n M) E 5= .ptr 1 0:=by unfold frzE;rw [e5,if_pos (by rfl)]
 have f6:frzE 2 3 (tP2 d kd l q c c2 j++bO 2 n n M) E 6= .int .i64 (n:Nat):=by unfold frzE;rw [e6,if_pos (by rfl)]
 have f7:frzE 2 3 (tP2 d kd l q c c2 j++bO 2 n n M) E 7= .vec (zcp n M) n (some n):=by unfold frzE;rw [e7,if_neg (by simp [AV.under]),hfz];rfl
 generalize frzE 2 3 (tP2 d kd l q c c2 j++bO 2 n n M) E=E1 at*
 have hIn:∀s t,In64 (ent M s t):=by
  intro s t
  have:=hG.bnd s t
  unfold In64;omega
 have hIm:ImV M (.vec (zcp n M) n (some n)):=zlt hG.shp.len hG.shp.row hIn
 have tG:=qxw hG hIm hn
 have c7:qZ [.vec (zcp n M) n (some n)]=true:=by simp only [qZ,hIm.closed,qU]
 refine zaf zah ?_
 simp only [r25_19,SS,reduceIte,f7]
 refine zab tG ?_ c7
 simp only [SS,reduceIte,qQ]
 refine ⟨fun hb=>?_,fun hb=>?_⟩
 ·have hng:¬zij n M:=by simpa using hb
  have tD:=zke (c:=c) (most:=2) h hj hn (by omega)
  have heff:=zkf (H:=tP2 d kd l q c c2 j) (id:=1) (n:=n) (cs':=zdf l c (zbe l j n)) (M:=diaM l j n 2) (by show 1<2;omega)
  simp only [r25_20,SS,reduceIte,qQ,f5,f6]
  refine callA_one (id:=1) (cs:=zdf l c j) (cs':=zdf l c (zbe l j n)) (L:=bO 1 n n (diaM l j n 2)) tD rfl rfl rfl (zcy ..) (zcy ..) ?_
  simp only [zba]
  rw [heff]
  simp only [SS,reduceIte,qQ]
  refine hQ _ _ ?_ ?_
  ·simp only [zaa,qQ,reduceIte,if_false];rw [if_neg hng];rfl
  ·rw [if_neg hng];rfl
 ·have hg:zij n M:=by simpa using hb
  simp only [r25_21,SS,reduceIte,qQ,f7]
  refine hQ _ _ ?_ ?_
  ·simp only [zaa,qQ,reduceIte,if_false];rw [if_pos hg]
  ·rw [if_pos hg]
theorem qtz {l:List Int} {kind n:Nat}:rawK l kind n≤l.length:=by
 have hz:(0:Nat)≤l.length:=qM _
 unfold rawK
 split
 ·exact zgo hz _
 split
 ·exact zgo hz 1
 split
 ·exact zgo hz 1
 ·exact zgo hz _
theorem qia (d kd:Int) (l q:List Int) (c c2:Option Nat) (j j':Nat) (X:Heap):(tP2 d kd l q c c2 j++X).set 1 (some (zdf l c j'))=tP2 d kd l q c c2 j'++X:=rfl
theorem qbr {d kd:Int} {l q:List Int} {c c2:Option Nat} {n:Nat} {E:Env} {Q:Post} (h:zkb l) (hk:0≤kd∧kd<256) (hn:1≤n∧n≤8)
  (e2:E 2= .ptr 0 0) (e5:E 5= .ptr 1 0) (e6:E 6= .int .i64 (n:Nat))
  (hQ:∀E',E' 5= .ptr 1 0→E' 6= .int .i64 (n:Nat)→E' 7= .sl 2 0 n 1 (some n)→Q .normal E' (tP2 d kd l q c c2 (rawK l (kd%8).toNat n)++bO 2 n n (rawM l (kd%8).toNat n))):
  W Tryz.prog G 0 74 (.seq (.reg r25_4 none) (.block 0 (.seq (.seq (.reg r25_5 none) (.cond (.t 24) .skip (.seq (.reg r25_6 none) (.cond (.t 24) .skip (.seq (.reg r25_7 none) (.cond (.t 24) .skip (.reg r25_8 none))))))) (.cond (.t 24) (.reg r25_9 none) (.seq (.reg r25_10 none) (.cond (.t 32) (.seq (.reg r25_11 none) (.reg r25_12 (some [(2,6),(4,6)]))) (.seq (.reg r25_13 none) (.cond (.t 45) (.seq (.reg r25_14 none) (.reg r25_15 (some [(4,10),(8,10)]))) (.seq (.reg r25_16 none) (.cond (.t 62) (.reg r25_17 none) (.reg r25_18 none))))))))))) E (tP2 d kd l q c c2 0) Q:=by
 have hz:(0:Nat)≤l.length:=qM _
 have g0:getB (tP2 d kd l q c c2 0) 0=some (latC d kd l q c c2):=rfl
 have g1:getB (tP2 d kd l q c c2 0) 1=some (zdf l c 0):=rfl
 have hrem:Int.tmod kd 8=kd%8:=qP hk.1
 have tGen:=qmx (c:=c) h hz hn
 have h9:(1:Int)≤9∧(9:Int)≤9:=by omega
 have tD9:=zke (c:=c) (most:=9) h hz hn (by omega)
 have tD1:=zke (c:=c) (most:=1) h hz hn (by omega)
 have effG:=zkf (H:=tP2 d kd l q c c2 0) (id:=1) (n:=n) (cs':=zdf l c (zbe l 0 (n+triK n))) (M:=genM l 0 n) (by show 1<2;omega)
 have eff9:=zkf (H:=tP2 d kd l q c c2 0) (id:=1) (n:=n) (cs':=zdf l c (zbe l 0 n)) (M:=diaM l 0 n 9) (by show 1<2;omega)
 have eff1:=zkf (H:=tP2 d kd l q c c2 0) (id:=1) (n:=n) (cs':=zdf l c (zbe l 0 n)) (M:=diaM l 0 n 1) (by show 1<2;omega)
 refine zaf zah ?_
 simp only [r25_4,SS,forall_const,reduceIte,qI,qQ,qD,e2,g0,latC]
 refine ⟨by decide,?_⟩
 rw [hrem]
 rcases (by omega:kd%8=0∨kd%8=1∨kd%8=2∨kd%8=3∨kd%8=4∨kd%8=5∨kd%8=6∨kd%8=7) with e | e | e | e | e | e | e | e
 all_goals
  rw [e] at hQ ⊢
  simp only [r25_5,r25_6,r25_7,r25_8,r25_9,r25_10,r25_11,r25_13,r25_14,r25_16,r25_17,r25_18,SS,forall_const,reduceIte,qQ,e5,e6,Int.reduceEq,decide_true,decide_false]
 iterate 4
  ·refine callA_one (id:=1) (cs:=zdf l c 0) (cs':=zdf l c (zbe l 0 (n+triK n))) (L:=bO 1 n n (genM l 0 n)) tGen rfl rfl rfl (zcy ..) (zcy ..) ?_
   simp only [zba]
   rw [effG]
   simp only [SS,reduceIte,qQ]
   exact hQ _ (by simp only [zaa,qQ,if_false,e5]) (by simp only [zaa,qQ,if_false,e6]) (by simp only [zaa,qQ,reduceIte,if_false];rfl)
 ·have tC:=qph (n:=n) (fork:=false) (by omega)
  have hS:Shp n (zca n false):=zcj _ _
  have hcl:qZ [.int .i64 (n:Nat),.bool false]=true:=rfl
  have effC:zag (effs (zan [] (tP2 d kd l q c c2 0).length) 0 (bH n n (zca n false))) (tP2 d kd l q c c2 0++List.replicate (bH n n (zca n false)).length none)=tP2 d kd l q c c2 0++bO 2 n n (zca n false):=by
   have:=zgi (H:=tP2 d kd l q c c2 0) (zan [] (tP2 d kd l q c c2 0).length) (fun i=>zbp _ i) (bH n n (zca n false)) []
   simp only [xQ,qT] at this
   rw [this]
   exact congrArg (tP2 d kd l q c c2 0++ ·) (qpg (K:=2) (fun i=>zbp 2 i))
  have hv:AV.ren (zan [] (tP2 d kd l q c c2 0).length) (.sl 0 0 n 1 (some n))= .sl 2 0 n 1 (some n):=rfl
  have tB:=qhe (c:=c) (k:=0) (m:=3) h hz (by omega)
  have ko:∀j,getB (tP2 d kd l q c c2 j++bO 2 n n (zca n false)) 2=some (outO 2 n n n):=fun j=>by
   have:=zfn (P:=tP2 d kd l q c c2 j) (o:=2) (N:=n) (n:=n) (rows:=zca n false) rfl
   rw [hS.len] at this;exact this
  have kl:=zkc (o:=2) (N:=n) (n:=n) (i:=n) (qB _)
  have kg:=zkd (o:=2) (N:=n) (n:=n) (i:=n) (k:=0) (by omega)
  have gr:=fun j=>zld (P:=tP2 d kd l q c c2 j) (o:=2) (N:=n) (n:=n) (rows:=zca n false) rfl (i:=0) (by rw [hS.len];omega)
  have lr:=hS.row 0 (by omega)
  have gz:(i64z ((zca n false).getD 0 [])).getD 0 .junk= .int .i64 2:=by
   rw [zbv _ _ (by omega)]
   have:=zey (fork:=false) (show 0<n by omega)
   unfold ent at this
   rw [this]
  have hbz:=zfm l 0 (show (1:Int)≤3 by decide)
  have w2:IntKind.i64.wrap (2+zdi l 0%3)=2+zdi l 0%3:=w64 (by omega) (by omega)
  have hs:=fun j=>ztw (P:=tP2 d kd l q c c2 j) (o:=2) (N:=n) (n:=n) (rows:=zca n false) rfl (i:=0) (((zca n false).getD 0 []).set 0 (2+zdi l 0%3))
  refine zdt tC hcl ?_
  simp only [zba,SS,reduceIte,qQ]
  rw [effC,hv]
  have z0:Int.toNat 0=0:=rfl
  simp only [r25_12,SS,forall_const,reduceIte,qI,qQ,z0,ko,kl,kg,gr,lr,gz,zax,e5]
  refine ⟨by omega,by omega,by omega,by omega,?_⟩
  refine zfz (id:=1) tB rfl rfl ?_
  simp only [zba,zag,keys,qO,xX,SS,reduceIte,qQ,qia,z0,gr,lr,zax,w2,zdl]
  have hr:rawM l 4 n=(zca n false).set 0 (((zca n false).getD 0 []).set 0 (2+zdi l 0%3)):=by
   unfold rawM
   rw [if_neg (by decide),if_pos rfl]
   unfold qbm
   rw [zey (by omega)]
   rfl
  have h3:=hs (zhn l 0)
  rw [←hr] at h3
  refine ⟨⟨by omega,by omega⟩,by omega,rfl,?_⟩
  refine Eq.mp (congrArg _ h3.symm) ?_
  exact hQ _ (by simp only [zaa,qQ,if_false,e5]) (by simp only [zaa,qQ,if_false,e6]) (by simp only [zaa,qQ,reduceIte,if_false])
 ·have tC:=qph (n:=n) (fork:=true) (by omega)
  have hS:Shp n (zca n true):=zcj _ _
  have hcl:qZ [.int .i64 (n:Nat),.bool true]=true:=rfl
  have effC:zag (effs (zan [] (tP2 d kd l q c c2 0).length) 0 (bH n n (zca n true))) (tP2 d kd l q c c2 0++List.replicate (bH n n (zca n true)).length none)=tP2 d kd l q c c2 0++bO 2 n n (zca n true):=by
   have:=zgi (H:=tP2 d kd l q c c2 0) (zan [] (tP2 d kd l q c c2 0).length) (fun i=>zbp _ i) (bH n n (zca n true)) []
   simp only [xQ,qT] at this
   rw [this]
   exact congrArg (tP2 d kd l q c c2 0++ ·) (qpg (K:=2) (fun i=>zbp 2 i))
  have hv:AV.ren (zan [] (tP2 d kd l q c c2 0).length) (.sl 0 0 n 1 (some n))= .sl 2 0 n 1 (some n):=rfl
  have tB:=qhe (c:=c) (k:=0) (m:=2) h hz (by omega)
  have ko:∀j,getB (tP2 d kd l q c c2 j++bO 2 n n (zca n true)) 2=some (outO 2 n n n):=fun j=>by
   have:=zfn (P:=tP2 d kd l q c c2 j) (o:=2) (N:=n) (n:=n) (rows:=zca n true) rfl
   rw [hS.len] at this;exact this
  have kl:=zkc (o:=2) (N:=n) (n:=n) (i:=n) (qB _)
  have kg:=zkd (o:=2) (N:=n) (n:=n) (i:=n) (k:=(n-1)) (by omega)
  have gr:=fun j=>zld (P:=tP2 d kd l q c c2 j) (o:=2) (N:=n) (n:=n) (rows:=zca n true) rfl (i:=(n-1)) (by rw [hS.len];omega)
  have lr:=hS.row (n-1) (by omega)
  have gz:(i64z ((zca n true).getD (n-1) [])).getD (n-1) .junk= .int .i64 2:=by
   rw [zbv _ _ (by omega)]
   have:=zey (fork:=true) (show (n-1)<n by omega)
   unfold ent at this
   rw [this]
  have hbz:=zfm l 0 (show (1:Int)≤2 by decide)
  have w2:IntKind.i64.wrap (2+zdi l 0%2)=2+zdi l 0%2:=w64 (by omega) (by omega)
  have hs:=fun j=>ztw (P:=tP2 d kd l q c c2 j) (o:=2) (N:=n) (n:=n) (rows:=zca n true) rfl (i:=(n-1)) (((zca n true).getD (n-1) []).set (n-1) (2+zdi l 0%2))
  refine zdt tC hcl ?_
  simp only [zba,SS,reduceIte,qQ]
  rw [effC,hv]
  have w1:IntKind.i64.wrap ((n:Int)-1)=((n-1:Nat):Int):=by rw [show (n:Int)-1=((n-1:Nat):Int) by omega];exact w64 (by omega) (by omega)
  simp only [r25_15,SS,forall_const,reduceIte,qQ,w1,qW,ko,kl,kg,gr,lr,gz,zax,e5,e6]
  refine ⟨⟨by omega,by omega⟩,by omega,⟨by omega,by omega⟩,by omega,?_⟩
  refine zfz (id:=1) tB rfl rfl ?_
  simp only [zba,zag,keys,qO,xX,SS,reduceIte,qQ,qia,qW,gr,lr,zax,w2,zdl]
  have hr:rawM l 5 n=(zca n true).set (n-1) (((zca n true).getD (n-1) []).set (n-1) (2+zdi l 0%2)):=by
   unfold rawM
   rw [if_neg (by decide),if_neg (by decide),if_pos rfl]
   unfold qbm
   rw [zey (by omega)]
   rfl
  have h3:=hs (zhn l 0)
  rw [←hr] at h3
  refine ⟨⟨by omega,by omega⟩,by omega,?_,?_⟩
  ·have hne:2+(n-1)≠0:=by omega
   generalize 2+(n-1)=s at hne
   simp [dynB,zuv]
   exact hne
  refine Eq.mp (congrArg _ h3.symm) ?_
  exact hQ _ (by simp only [zaa,qQ,if_false,e5]) (by simp only [zaa,qQ,if_false,e6]) (by simp only [zaa,qQ,reduceIte,if_false])
 ·refine callA_one (id:=1) (cs:=zdf l c 0) (cs':=zdf l c (zbe l 0 n)) (L:=bO 1 n n (diaM l 0 n 9)) tD9 rfl rfl rfl (zcy ..) (zcy ..) ?_
  simp only [zba]
  rw [eff9]
  simp only [SS,reduceIte,qQ]
  exact hQ _ (by simp only [zaa,qQ,if_false,e5]) (by simp only [zaa,qQ,if_false,e6]) (by simp only [zaa,qQ,reduceIte,if_false];rfl)
 ·refine callA_one (id:=1) (cs:=zdf l c 0) (cs':=zdf l c (zbe l 0 n)) (L:=bO 1 n n (diaM l 0 n 1)) tD1 rfl rfl rfl (zcy ..) (zcy ..) ?_
  simp only [zba]
  rw [eff1]
  simp only [SS,reduceIte,qQ]
  exact hQ _ (by simp only [zaa,qQ,if_false,e5]) (by simp only [zaa,qQ,if_false,e6]) (by simp only [zaa,qQ,reduceIte,if_false];rfl)
theorem qib {P:Program} {Γ:Glob} {f:FuncId} {fn:Func} {c:CC} {args:List AV} {H:Heap} {v:AV} {Hout:Heap} (hm:P.follows .mixedOrders=true) (hf:P.funcs[f]?=some fn) (hc:fn.body.bind (zdb P Γ fn.ntmps)=some c) (rs:List ResultVar) (nt:Nat)
  (hrs:fn.results.toList=rs) (hnt:fn.ntmps=nt) (hn:args.length≤nt) (hlen:H.length≤Hout.length)
  (h:W P Γ H.length nt c (zkn args) H (fun x E' H'=>(x= .ret∨x= .normal)∧∃v',resA P rs E' H'=some v'∧Fin H.length v' H' v Hout)) (hne:f≠4095:=by decide):Ret P Γ f args H v Hout:=by
 subst hrs hnt
 cases hb:fn.body with
 | none=>rw [hb] at hc;simp at hc
 | some code=>
  rw [hb] at hc
  exact zmq hf hb hc hn hlen hne h
theorem qxx {d kd most:Int} {l q:List Int} {c c2:Option Nat} {n:Nat} (h:zkb l) (hd:0≤d∧d<256) (hk:0≤kd∧kd<256) (hm:1≤most∧most≤8) (hn:(n:Int)=1+d%most):
  Ret Tryz.prog G 25 [.agg (latC d kd l q c c2),.int .i64 most] [] (.vec (zcp n (zwk l (kd%8).toNat n)) n (some n)) []:=by
 have hz:(0:Nat)≤l.length:=qM _
 have hmod:=xU d (show 0<most by omega)
 have hmod0:=xE d (show most≠0 by omega)
 have hn8:1≤n∧n≤8:=by omega
 have g0:getB [some (latC d kd l q c c2)] 0=some (latC d kd l q c c2):=rfl
 refine qib zah Tryz.func25 comp25 _ 74 res25 nt25 (by simp) (by simp) ?_
 unfold c25
 refine zeq (zaf zah ?_)
 simp only [r25_0,SS]
 refine zeq (zaf zah ?_)
 simp only [r25_1,SS,forall_const,reduceIte,qI,qQ,qD]
 refine ⟨by show 3≤4;omega,⟨rfl,rfl⟩,?_⟩
 have eH:([some (latC d kd l q c c2),some (setL [AV.vec [] 0 (some 0),AV.int IntKind.i64 0] 0 ((latC d kd l q c c2).getD 2 AV.junk).cells)]:Heap)=tP2 d kd l q c c2 0:=rfl
 rw [eH]
 have g1:getB (tP2 d kd l q c c2 0) 0=some (latC d kd l q c c2):=rfl
 have gd:(latC d kd l q c c2).getD 0 .junk= .int .u8 d:=rfl
 have gl:(latC d kd l q c c2).length=4:=rfl
 have wd:IntKind.i64.wrap d=d:=w64 (by omega) (by omega)
 have et:Int.tmod d most=d%most:=qP hd.1
 have wm:IntKind.i64.wrap (d%most)=d%most:=w64 (by omega) (by omega)
 have wn:IntKind.i64.wrap (1+d%most)=(n:Int):=by rw [←hn];exact w64 (by omega) (by omega)
 refine zeq (zaf zah ?_)
 simp only [r25_2,SS,forall_const,reduceIte,qQ,qD,g1,gd,gl,wd,et,wn]
 refine ⟨by omega,?_⟩
 refine zeq (zaf zah ?_)
 simp only [r25_3,SS]
 refine zeq (qbr h hk hn8 (by simp only [zaa,zac,qJ,qQ,reduceIte,if_false]) (by simp only [zaa,zac,qJ,qQ,reduceIte,if_false]) (by simp only [zaa,zac,qJ,qQ,reduceIte,if_false]) fun E1 f5 f6 f7=>?_)
 simp only [SS]
 refine qhz h qtz hn8 (ztu hn8.1) f5 f6 f7 fun E2 H2 e4 eH2=>?_
 refine ⟨.inl rfl,_,rfl,?_⟩
 rw [e4,eH2]
 unfold zwk
 by_cases hg:zij n (rawM l (kd%8).toNat n)
 ·rw [if_pos hg,if_pos hg,if_pos hg]
  exact .freeze 1 _ _ _ rfl (by intro i cs h;omega)
 ·rw [if_neg hg,if_neg hg,if_neg hg]
  have hS:=znu l (rawK l (kd%8).toNat n) n 2
  have:=qwg (P:=tP2 d kd l q c c2 (zbe l (rawK l (kd%8).toNat n) n)) (o:=2) rfl hS.len hS.row
  exact .freeze 3 _ _ _ this (by intro i cs h;omega)
open Go.Det
theorem qxy {d kd most:Int} {l q:List Int} {c c2:Option Nat} {n:Nat} (h:zkb l) (hd:0≤d∧d<256) (hk:0≤kd∧kd<256) (hm:1≤most∧most≤5) (hn:(n:Int)=1+d%most):
  ∃M' T',Red n (rowF M')∧LState n (16^n) (8*16^n) (zwk l (kd%8).toNat n) M' T'∧Ret Tryz.prog G 8 [.agg (latC d kd l q c c2),.int .i64 most] [] (.vec (zcp n M') n (some n)) []:=by
 have hmod:=xU d (show 0<most by omega)
 have hmod0:=xE d (show most≠0 by omega)
 have hn8:1≤n∧n≤8:=by omega
 have tG:=qxx (c:=c) (c2:=c2) (q:=q) h hd hk (by omega:1≤most∧most≤8) hn
 obtain ⟨hG,hg⟩:=qtg (l:=l) (kind:=(kd%8).toNat) hn8.1 hn8.2
 generalize zwk l (kd%8).toNat n=M0 at*
 have hS:=hG.shp
 have hIn:∀s t,In64 (ent M0 s t):=by
  intro s t
  have:=hG.bnd s t
  unfold In64;omega
 have hIm:ImV M0 (.vec (zcp n M0) n (some n)):=zlt hS.len hS.row hIn
 have tO:=mOf (n:=n) hIm (by omega) (by rw [hS.len];omega) (fun i hi=>hS.row i (by rw [hS.len] at hi;exact hi))
 have hsq:=zrm hS hn8 (zty hG) (qN (zrt.all (k:=0) (qM _)).1 zrt.lt)
 obtain ⟨M',T',hred,hL,tR⟩:=qtx hsq (by omega) hG hg
 refine ⟨M',T',hred,hL,?_⟩
 have c1:qZ [.agg (latC d kd l q c c2),.int .i64 most]=true:=by simp only [qZ,AV.closed,zku,qU]
 have c2':qZ [.vec (zcp n M0) n (some n)]=true:=by simp only [qZ,hIm.closed,qU]
 have c3:qZ [matC M0]=true:=by simp only [qZ,hsq.closed,qU]
 have g0:getB [some (latC d kd l q c c2)] 0=some (latC d kd l q c c2):=rfl
 refine zai zah Tryz.func8 comp8 _ 18 res8 nt8 (by simp) (by simp) ?_
 simp only [c8,r8_0,r8_1,SS,reduceCtorEq,reduceIte,qQ,g0]
 have et4:List.take 4 (latC d kd l q c c2)=latC d kd l q c c2:=rfl
 refine ⟨by show 4≤4;omega,?_⟩
 rw [et4]
 refine zab tG ?_ c1 hIm.closed
 simp only [zba,SS,reduceIte,qQ]
 refine zab tO ?_ c2' hsq.closed
 simp only [zba,SS,reduceIte,qQ]
 refine zab tR ?_ c3 (by simp only [AV.closed,qZ,qU];rfl)
 simp only [zba,SS,reduceIte,qQ,qV,qY,r8_2]
 exact ⟨.inl trivial,_,rfl,.freeze 1 _ _ _ rfl (by intro i cs h;omega)⟩
end Go.Proofs.YtpflahgcdgdkjaaGreatDoor
namespace Go.Proofs.YtpflahgcdgdkjaaGreatDoor
open Nat renaming reduceEqDiff → qQ, lt_or_ge → xB
open List renaming getD_cons_succ → qJ, getElem?_cons_zero → qV, getElem?_cons_succ → qY, getD_cons_zero → qL
open Go.AL.AV.closed renaming closedL → qZ
open Bool renaming and_self → qU
set_option linter.unusedSimpArgs false
set_option linter.unusedVariables false
open Go Go.AL Go.Proofs Go.Det
set_option maxRecDepth 100000
theorem zoe {P:Program} {Γ:Glob} {n0:Nat} {E:Env} {H:Heap} {d:Option Nat} {g:Nat} {want:Bool} {k:CK} {os:List COp} {Q:List FP→Env→Heap→Prop} (h:E g= .bool want):regA P Γ n0 (⟨d,some (g,want),k⟩::os) E H Q=regA P Γ n0 (⟨d,none,k⟩::os) E H Q:=by
 rw [zms,h]
 simp only [zsk,zau,zhx h,true_implies]
 apply propext
 refine ⟨fun x=>x.1,fun x=>⟨x,fun e=>?_⟩⟩
 cases want<;>simp at e
theorem qnq {P:Program} {Γ:Glob} {n0:Nat} {E:Env} {H:Heap} {d:Option Nat} {g:Nat} {want:Bool} {k:CK} {os:List COp} {Q:List FP→Env→Heap→Prop} (h:E g= .bool (!want)):regA P Γ n0 (⟨d,some (g,want),k⟩::os) E H Q=regA P Γ n0 os (updO E d .junk) H (fun l=>Q (([],[])::l)):=by
 rw [zms,h]
 simp only [zsk,zau,zhx h,true_implies]
 apply propext
 refine ⟨fun x=>x.2,fun x=>⟨fun e=>?_,x⟩⟩
 cases want<;>simp at e
theorem qua (x:Int):In64 (IntKind.i64.wrap x):=by
 simp [In64,IntKind.wrap,IntKind.bits,IntKind.signed]
 omega
theorem qub {n:Nat} {M:List (List Int)} (hS:Shp n M) (h:Red n (rowF M)):ImV M (.vec (zcp n M) n (some n))∧M.length≤8∧∀i,i<M.length→(M.getD i []).length≤8:=
 ⟨zlt hS.len hS.row (qmo hS h),by rw [hS.len];exact h.n8,fun i hi=>by rw [hS.row i (by rw [←hS.len];exact hi)];exact h.n8⟩
section
variable {a:AV} {M:List (List Int)} {z k:Int} {H:Heap} {Q:Post}
theorem qwu (hV:ImV M a) (h8:M.length≤8∧∀i,i<M.length→(M.getD i []).length≤8) (hk:In64 k) (hA:Ret Tryz.prog G 7 [] [] (.bool true) []) {E:Env} (e0:E 0=a) (e4:E 4= .int .i64 k) (e17:E 17= .int .i64 z) (hQ:∀E' H',E' 16= .bool true→Q .ret E' H'):
  W Tryz.prog G 0 94 (.seq (.reg r3_12 none) (.seq (.reg r3_13 none) (.seq (.reg r3_14 none) .ret))) E H Q:=by
 obtain ⟨fin,c,e,hlen,t1,t2⟩:=qbk hV h8.1 h8.2 (z:=z) hk
 have hca:=hV.closed
 have c1:qZ [a,.int .i64 z,.int .i64 k]=true:=by simp only [qZ,hca];rfl
 have cV:AV.closed (.tup [.vec (ints fin) fin.length c,.int .i64 e])=true:=by simp only [AV.closed,qZ,qU]
 have c2:qZ [.vec (ints fin) fin.length c,.vec (ints fin) fin.length c]=true:=by simp only [AV.closed,qZ,qU]
 have t3:=qmt fin c (by omega)
 refine zaf zah ?_
 simp only [r3_12,SS,reduceIte,qQ,e0,e4,e17]
 refine zab t1 ?_ c1 cV
 simp only [zba,SS,reduceIte,qQ,qV,qY]
 simp only [r3_13,SS,reduceCtorEq,reduceIte,qQ,e0,e4,e17]
 refine zab t2 ?_ c1 cV
 simp only [zba,SS,reduceIte,qQ,qV,qY]
 simp only [r3_14,SS,forall_const,reduceIte,qQ,decide_true]
 refine zab t3 ?_ c2
 simp only [zba,SS,forall_const,reduceIte,qQ]
 refine zab hA ?_
 simp only [zba,SS,reduceIte,qQ]
 refine hQ _ _ ?_
 simp only [zaa,qQ,reduceIte,if_false]
theorem qpi (hV:ImV M a) (h8:M.length≤8∧∀i,i<M.length→(M.getD i []).length≤8) (hk:In64 k) (hA:Ret Tryz.prog G 7 [] [] (.bool true) []) {E:Env} (e0:E 0=a) (e4:E 4= .int .i64 k) (e17:E 17= .int .i64 z) (hQ:∀E' H',E' 16= .bool true→Q .ret E' H'):
  W Tryz.prog G 0 94 (.seq (.seq (.reg r3_10 none) (.cond (.t 67) (.seq (.reg r3_11 none) .ret) .skip)) (.seq (.reg r3_12 none) (.seq (.reg r3_13 none) (.seq (.reg r3_14 none) .ret)))) E H Q:=by
 have hV0:=hV
 obtain ⟨rows,c,rfl,_,_⟩:=hV.val
 have tp:=qbl z (IntKind.i64.wrap (k*(M.length:Nat))) 2097152 (qua _).2
 generalize pwF z 2097152 (IntKind.i64.wrap (k*(M.length:Nat))).toNat 1=r at*
 refine zeq (zaf zah ?_)
 have go:∀E' H',E' 0= .vec rows M.length c→E' 4= .int .i64 k→E' 17= .int .i64 z→W Tryz.prog G 0 94 (.seq (.reg r3_12 none) (.seq (.reg r3_13 none) (.seq (.reg r3_14 none) .ret))) E' H' Q:=fun E' H' f0 f4 f17=>qwu hV0 h8 hk hA f0 f4 f17 hQ
 by_cases b1:0<k
 rotate_left
 ·have d1:decide (0<k)=false:=decide_eq_false b1
  simp only [r3_10,↓qnq,SS,forall_const,reduceIte,qQ,e4,d1]
  refine go _ _ ?_ ?_ ?_<;>simp only [zaa,qQ,if_false, *]
 have d1:decide (0<k)=true:=decide_eq_true b1
 by_cases b2:1<z
 rotate_left
 ·have d2:decide (1<z)=false:=decide_eq_false b2
  simp only [r3_10,↓zoe,↓qnq,SS,forall_const,reduceIte,qQ,e4,e17,d1,d2]
  refine go _ _ ?_ ?_ ?_<;>simp only [zaa,qQ,if_false, *]
 have d2:decide (1<z)=true:=decide_eq_true b2
 by_cases b3:IntKind.i64.wrap (k*(M.length:Nat))<64
 rotate_left
 ·have d3:decide (IntKind.i64.wrap (k*(M.length:Nat))<64)=false:=decide_eq_false b3
  simp only [r3_10,↓zoe,↓qnq,SS,forall_const,reduceCtorEq,reduceIte,qQ,e0,e4,e17,d1,d2,d3]
  refine go _ _ ?_ ?_ ?_<;>simp only [zaa,qQ,if_false, *]
 have d3:decide (IntKind.i64.wrap (k*(M.length:Nat))<64)=true:=decide_eq_true b3
 by_cases b4:20000<r
 rotate_left
 ·have d4:decide (20000<r)=false:=decide_eq_false b4
  simp only [r3_10,↓zoe,SS,reduceCtorEq,reduceIte,qQ,e0,e4,e17,d1,d2,d3]
  refine zab tp ?_
  simp only [zba,↓zoe,↓qnq,SS,forall_const,reduceIte,qQ,d4]
  refine go _ _ ?_ ?_ ?_<;>simp only [zaa,qQ,if_false, *]
 have d4:decide (20000<r)=true:=decide_eq_true b4
 by_cases b5:r≤2097152
 ·have d5:decide (r≤2097152)=true:=decide_eq_true b5
  simp only [r3_10,↓zoe,SS,reduceCtorEq,reduceIte,qQ,e0,e4,e17,d1,d2,d3]
  refine zab tp ?_
  simp only [zba,↓zoe,SS,reduceCtorEq,reduceIte,qQ,e0,e4,e17,d4]
  refine zab tp ?_
  simp only [zba,↓zoe,SS,forall_const,reduceIte,qQ,d5]
  simp only [r3_11,SS]
  refine zab hA ?_
  simp only [zba,SS,reduceIte,qQ]
  refine hQ _ _ ?_
  simp only [zaa,qQ,reduceIte,if_false]
 ·have d5:decide (r≤2097152)=false:=decide_eq_false b5
  simp only [r3_10,↓zoe,SS,reduceCtorEq,reduceIte,qQ,e0,e4,e17,d1,d2,d3]
  refine zab tp ?_
  simp only [zba,↓zoe,SS,reduceCtorEq,reduceIte,qQ,e0,e4,e17,d4]
  refine zab tp ?_
  simp only [zba,↓zoe,SS,forall_const,reduceIte,qQ,d5]
  refine go _ _ ?_ ?_ ?_<;>simp only [zaa,qQ,if_false, *]
theorem qnr (x:Int):In64 (Int.tmod x 5):=by
 have h:=Int.natAbs_tmod x 5
 have h2:=Nat.mod_lt x.natAbs (show 0<(5:Int).natAbs by decide)
 rw [←h] at h2
 have:(5:Int).natAbs=5:=rfl
 unfold In64
 omega
theorem zyv {small:Bool} (hV:ImV M a) (h8:M.length≤8∧∀i,i<M.length→(M.getD i []).length≤8) (hk:In64 k) (hA:Ret Tryz.prog G 7 [] [] (.bool true) []) {E:Env} (e0:E 0=a) (e4:E 4= .int .i64 k) (e7:E 7= .bool small) (e17:E 17= .int .i64 z) (hQ:∀E' H',E' 16= .bool true→Q .ret E' H'):
  W Tryz.prog G 0 94 (.seq (.seq (.reg r3_8 none) (.cond (.t 32) (.reg r3_9 none) .skip)) (.seq (.seq (.reg r3_10 none) (.cond (.t 67) (.seq (.reg r3_11 none) .ret) .skip)) (.seq (.reg r3_12 none) (.seq (.reg r3_13 none) (.seq (.reg r3_14 none) .ret))))) E H Q:=by
 refine zeq (zaf zah ?_)
 cases small with
 | false=>
  simp only [r3_8,SS,forall_const,reduceIte,e7]
  refine qpi (z:=z) hV h8 hk hA ?_ ?_ ?_ hQ<;>simp only [zaa,qQ,if_false, *]
 | true=>
  simp only [r3_8,r3_9,SS,forall_const,reduceIte,qQ,e4,e7]
  refine ⟨by decide,by decide,?_⟩
  refine qpi (z:=z) hV h8 (qnr (IntKind.i64.wrap (Int.tmod k 5+5))) hA ?_ ?_ ?_ hQ
  ·simp only [zaa,qQ,if_false,e0]
  ·simp only [zaa,qQ,reduceIte,if_false]
  ·simp only [zaa,qQ,if_false,e17]
theorem qic {wild small:Bool} {p raw:Int} (hV:ImV M a) (h8:M.length≤8∧∀i,i<M.length→(M.getD i []).length≤8) (hk:In64 k) (hA:Ret Tryz.prog G 7 [] [] (.bool true) []) (tP:Ret Tryz.prog G 9 [.int .u8 p] [] (.int .i64 z) []) {E:Env} (e0:E 0=a) (e2:E 2= .int .u8 p) (e3:E 3= .int .i64 raw) (e4:E 4= .int .i64 k) (e5:E 5= .bool wild) (e7:E 7= .bool small) (hQ:∀E' H',E' 16= .bool true→Q .ret E' H'):
  W Tryz.prog G 0 94 (.seq (.reg r3_5 none) (.seq (.seq (.reg r3_6 none) (.cond (.t 30) (.reg r3_7 none) .skip)) (.seq (.seq (.reg r3_8 none) (.cond (.t 32) (.reg r3_9 none) .skip)) (.seq (.seq (.reg r3_10 none) (.cond (.t 67) (.seq (.reg r3_11 none) .ret) .skip)) (.seq (.reg r3_12 none) (.seq (.reg r3_13 none) (.seq (.reg r3_14 none) .ret))))))) E H Q:=by
 refine zeq (zaf zah ?_)
 simp only [r3_5,SS,reduceIte,e2]
 refine zab tP ?_
 simp only [zba,SS,reduceIte,qQ]
 refine zeq (zaf zah ?_)
 cases wild with
 | false=>
  simp only [r3_6,SS,forall_const,reduceIte,qQ,e5]
  refine zyv (small:=small) (z:=z) hV h8 hk hA ?_ ?_ ?_ ?_ hQ<;>simp only [zaa,qQ,reduceIte,if_false, *]
 | true=>
  simp only [r3_6,r3_7,SS,forall_const,reduceIte,qQ,e3,e5]
  refine zyv (small:=small) (z:=raw) hV h8 hk hA ?_ ?_ ?_ ?_ hQ<;>simp only [zaa,qQ,reduceIte,if_false, *]
end
set_option maxHeartbeats 2000000 in
theorem qid {M:List (List Int)} {h:AV} {d kd p raw k:Int} {l q:List Int} {c1 c2:Option Nat} {wild made small:Bool} (hV:ImV M h)
  (hT:zkb l) (hd:0≤d∧d<256) (hkd:0≤kd∧kd<256) (hp:0≤p∧p<256) (hk:In64 k) (hA:Ret Tryz.prog G 7 [] [] (.bool true) []):
  Ret Tryz.prog G 3 [h,.agg (latC d kd l q c1 c2),.int .u8 p,.int .i64 raw,.int .i64 k,.bool wild,.bool made,.bool small] [] (.bool true) []:=by
 obtain ⟨n,hn⟩:∃n:Nat,(n:Int)=1+d%4:=⟨(1+d%4).toNat,by omega⟩
 obtain ⟨M',T',hred,hL,tF⟩:=qxy (c:=c1) (c2:=c2) (q:=q) (most:=4) hT hd hkd (by omega) hn
 have hS:Shp n M':=hL.shM
 have cF:qZ [.agg (latC d kd l q c1 c2),.int .i64 4]=true:=by simp only [qZ,AV.closed,zku,qU]
 have hclF:AV.closed (.vec (zcp n M') n (some n))=true:=by simp only [AV.closed]
 have g0:getB [some (latC d kd l q c1 c2)] 0=some (latC d kd l q c1 c2):=rfl
 have et4:List.take 4 (latC d kd l q c1 c2)=latC d kd l q c1 c2:=rfl
 have hch:=hV.closed
 have c0:qZ [h]=true:=by simp only [qZ,hch,qU]
 obtain ⟨bL,hbL⟩:=zwi (8<M.length∨∃i,i<M.length∧8<(M.getD i []).length)
 have tL:=qta hV hbL
 obtain ⟨z,hz,tP⟩:=qtb hp
 refine qib zah Tryz.func3 comp3 _ 94 res3 nt3 (by simp) (by simp) ?_
 unfold c3
 refine zeq (zaf zah ?_)
 simp only [r3_0,SS]
 refine zeq (zaf zah ?_)
 simp only [r3_1,SS,reduceCtorEq,reduceIte,qQ]
 refine zab tL ?_ c0
 simp only [zba,SS,reduceIte,qQ]
 cases bL with
 | true=>
  simp only [r3_2,SS,forall_const]
  refine zab hA ?_
  simp only [zba,SS,reduceIte,qQ]
  exact ⟨.inl trivial,_,rfl,.freeze 1 _ _ _ rfl (by intro i cs h;omega)⟩
 | false=>
  have hM8:M.length≤8∧∀i,i<M.length→(M.getD i []).length≤8:=by
   refine ⟨?_,fun i hi=>?_⟩
   ·rcases xB 8 M.length with e | e
    ·have:=hbL.2 (.inl e);simp at this
    ·exact e
   ·rcases xB 8 (M.getD i []).length with e | e
    ·have:=hbL.2 (.inr ⟨i,hi,e⟩);simp at this
    ·exact e
  have hfinal:∀(E':Env) (H':Heap),E' 16= .bool true→(fun (x:Exit) (E':Env) (H':Heap)=>(x=Exit.ret∨x=Exit.normal)∧∃v',resA Tryz.prog [ResultVar.tmp 16] E' H'=some v'∧AL.Fin 0 v' H' (AV.bool true) []) .ret E' H':=fun E' H' h=>⟨.inl rfl,.bool true,by simp [resA,zgr,h],.freeze 1 _ _ _ rfl (by intro i cs h;omega)⟩
  simp only [SS,forall_const]
  refine zeq (zaf zah ?_)
  cases made with
  | false=>
   simp only [r3_3,SS,forall_const,reduceIte,qQ]
   refine qic (z:=z) (p:=p) (raw:=raw) (wild:=wild) (small:=small) hV hM8 hk hA tP ?_ ?_ ?_ ?_ ?_ ?_ hfinal
   all_goals simp only [zaa,zac,qL,qJ,qQ,if_false]
  | true=>
   obtain ⟨hV',h8a,h8b⟩:=qub hS hred
   simp only [r3_3,r3_4,SS,forall_const,reduceIte,qQ]
   refine ⟨by show 4≤4;omega,?_⟩
   rw [et4]
   refine zab tF ?_ cF hclF
   simp only [zba,SS,reduceIte,qQ]
   refine qic (z:=z) (p:=p) (raw:=raw) (wild:=wild) (small:=small) hV' ⟨h8a,h8b⟩ hk hA tP ?_ ?_ ?_ ?_ ?_ ?_ hfinal
   all_goals simp only [zaa,zac,qL,qJ,qQ,reduceIte,if_false]
end Go.Proofs.YtpflahgcdgdkjaaGreatDoor
