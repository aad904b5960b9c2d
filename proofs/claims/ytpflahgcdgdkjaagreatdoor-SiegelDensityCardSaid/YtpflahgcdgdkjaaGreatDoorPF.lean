/- A part of the proof. -/
import Derived.Test.YtpflahgcdgdkjaaGreatDoorPE
import Derived.Test.YtpflahgcdgdkjaaGreatDoorPC
import Derived.Test.YtpflahgcdgdkjaaGreatDoorPD
import Derived.Test.YtpflahgcdgdkjaaGreatDoorPA
set_option linter.all false
set_option maxRecDepth 100000
namespace Go.Proofs.YtpflahgcdgdkjaaGreatDoor
open Nat renaming reduceEqDiff -> qQ, pow_le_pow_right -> qD, le_trans -> qP, pow_succ -> yQ, pow_one -> yD
open Go.AL.AV.closed renaming closedL -> qX
open List renaming getElem?_cons_succ -> qW, getElem?_cons_zero -> qV
open Int renaming natCast_mul -> qO
open Go Go.AL Go.Proofs
theorem zxm {p e:Nat} (hp:1<=p) (h:p^e<=2097152) (he:e<2^40):Rt 27 [.int .i64 (p:Int),.int .i64 (e:Int)] [] (.tup [.int .i64 ((p^e:Nat):Int),.bool true]) []:=by
 have hle:∀i,i<=e->p^i<=2097152:=fun i hi=>qP (qD hp hi) h
 refine oF o27 ?_
 simp only [c27,r27_0,r27_1,r27_2,SS,reduceCtorEq,reduceIte,qQ]
 refine zai (fun q E H=>∃i:Nat,i+q=e/\H=[]/\E 0= .int .i64 (p:Int)/\E 6= .int .i64 ((p^i:Nat):Int)/\E 7= .int .i64 (e:Int)/\E 8= .int .i64 (i:Int)) (n:=e)
  ⟨0,by omega,rfl,by simp only [UU,qQ],by simp only [UU,qQ,reduceIte];rfl,by simp only [UU,qQ,reduceIte],by simp only [UU,qQ,reduceIte];rfl⟩ ?_
 rintro q E H ⟨i,hiq,rfl,e0,e6,e7,e8⟩
 refine wM ?_
 simp only [l27_0,r27_3,SS,reduceCtorEq,reduceIte,e7,e8]
 refine ⟨fun hlt=>?_,fun hge=>?_⟩
 ·obtain ⟨q,rfl⟩:∃q',q=q'+1:=⟨q-1,by omega⟩
  have hs:=hle (i+1) (by omega)
  have em:((p^i:Nat):Int)*(p:Int)=((p^(i+1):Nat):Int):=by rw [yQ];exact (qO _ _).symm
  have w5:=wS1 i (by omega)
  have w6:IntKind.i64.wrap ((p^(i+1):Nat):Int)=((p^(i+1):Nat):Int):=zim (by omega)
  simp only [r27_4,r27_5,r27_6,r27_7,SS,reduceCtorEq,reduceIte,qQ,e0,e6,e8,em,w5,w6]
  refine ⟨fun hgt=>absurd hgt (by omega),fun _=>⟨q,_,_,by omega,⟨i+1,by omega,rfl,?_,?_,?_,?_⟩,.refl⟩⟩
  all_goals simp only [UU,qQ,reduceIte, *]
 ·have hie:i=e:=by omega
  subst hie
  simp only [r27_8,SS,reduceIte,qQ,e6]
  exact ⟨.inl trivial,_,rfl,.keep _ _⟩
theorem qph {hs:List AV} {ch:Option Nat} {n p e:Nat} {v:AV} (hcl:(AV.vec hs n ch).closed=true) (hchk:Rt 26 [.vec hs n ch,.int .i64 (p:Int)] [] (.int .i64 0) [])
  (hp:1<=p) (he:1<=e) (he2:e<2^40) (hn:1<=n) (hn2:n<2^40) (hpow:(p^e)^n<=2097152) (hcnt:Rt 28 [.vec hs n ch,.int .i64 ((p^e:Nat):Int)] [] v []) (hv:v.closed=true):
  Rt 11 [.vec hs n ch,.int .i64 (p:Int),.int .i64 (e:Int)] [] (.tup [v,.int .i64 0]) []:=by
 have h1:1<=p^e:=Nat.one_le_pow _ _ hp
 have hpe:p^e<=2097152:=qP (by have:=qD (n:=p^e) h1 hn;rwa [yD] at this) hpow
 have t1:=zxm hp hpe he2
 have t2:=zxm h1 hpow hn2
 have c0:qX [.vec hs n ch,.int .i64 (p:Int)]=true:=by simp only [qX,hcl];rfl
 have c1:qX [.vec hs n ch,.int .i64 ((p^e:Nat):Int)]=true:=by simp only [qX,hcl];rfl
 refine oF o11 ?_
 simp only [c11,r11_0,r11_1,SS,reduceCtorEq,reduceIte,qQ]
 refine zaa hchk ?_ c0
 simp only [zaj,SS,reduceIte,qQ]
 simp only [r11_2,SS,reduceIte,qQ]
 refine ⟨fun hne=>absurd rfl hne,fun _=>?_⟩
 simp only [r11_4,SS,reduceIte,qQ]
 refine ⟨fun hlt=>absurd hlt (by omega),fun _=>?_⟩
 simp only [r11_6,SS,reduceIte,qQ]
 refine zaa t1 ?_
 simp only [zaj,SS,reduceIte,qQ,qV,qW]
 simp only [r11_7,r11_9,SS,fC,reduceCtorEq,reduceIte,qQ]
 refine zaa t2 ?_
 simp only [zaj,SS,reduceIte,qQ,qV,qW]
 simp only [r11_10,r11_12,SS,fC,reduceCtorEq,reduceIte,qQ]
 refine zaa hcnt ?_ c1 hv
 simp only [zaj,SS,reduceIte,qQ]
 exact ⟨.inl trivial,_,rfl,.keep _ _⟩
end Go.Proofs.YtpflahgcdgdkjaaGreatDoor
namespace Go.Count
open Nat renaming mod_lt -> xW
open List renaming countP_cons -> yK
theorem qiy (f:List Nat->Nat) (P:Nat->Bool) (M:Nat):∀l:List (List Nat),(∀y∈l,f y<M)->sumN (fun i=>if P i=true then l.countP (fun y=>decide (f y=i)) else 0) M=l.countP fun y=>P (f y):=by
 intro l
 induction l with
 | nil=>intro _;exact zfy fun i _=>by simp
 | cons y l ih=>
  intro h
  rw [yK,<-ih (fun z hz=>h z (by simp [hz]))]
  have e:sumN (fun i=>if P i=true then (y::l).countP (fun y=>decide (f y=i)) else 0) M=sumN (fun i=>(if P i=true then l.countP (fun y=>decide (f y=i)) else 0)+(if f y=i/\P i=true then 1 else 0)) M:=by
   refine zdo fun i _=>?_
   rw [yK]
   by_cases hp:P i=true
   ·by_cases hf:f y=i
    ·simp [hp,hf]
    ·simp [hp,hf]
   ·simp [hp]
  rw [e,zig]
  congr 1
  rw [zsj (h y (by simp)) (f:=fun i=>if f y=i/\P i=true then 1 else 0) (fun j _ hne=>if_neg (fun e=>hne e.1.symm))]
  by_cases hp:P (f y)=true
  ·simp [hp]
  ·simp [hp]
theorem total {g:List (List Nat)} {n M:Nat} (hM:0<M) {ca:List Nat} (ha:∀t,ca.getD t 0=(allV M n).countP fun y=>decide (nrm g n y%M=t)):sumN (fun i=>ca.getD i 0) M=M^n:=by
 have e1:sumN (fun i=>ca.getD i 0) M=sumN (fun i=>if (true=true) then (allV M n).countP (fun y=>decide (nrm g n y%M=i)) else 0) M:=zdo fun i _=>by rw [ha];simp
 rw [e1,qiy (fun y=>nrm g n y%M) (fun _=>true) M _ (fun y _=>xW _ hM)]
 simp [allV_len]
end Go.Count
namespace Go.Proofs.YtpflahgcdgdkjaaGreatDoor
open List renaming getD_eq_getElem?_getD -> qZ, getElem?_map -> qT, mem_of_getElem? -> xM
open Int renaming emod_lt_of_pos -> xZ, emod_nonneg -> xY, toNat_of_nonneg -> xP
open Option renaming getD_some -> yW
open Go Go.AL Go.Proofs
def gN (n:Nat) (M:List (List Int)) (m:Nat):List (List Nat):=(modM n M (m:Int)).map fun r=>r.map Int.toNat
theorem qae (n:Nat) (M:List (List Int)) (m i:Nat):(gN n M m).getD i []=((modM n M (m:Int)).getD i []).map Int.toNat:=by
 unfold gN
 rw [qZ,qT,qZ]
 cases (modM n M (m:Int))[i]?<;>rfl
theorem qiz {n:Nat} {M:List (List Int)} {m i j:Nat}:Count.ent (gN n M m) i j=(ent (modM n M (m:Int)) i j).toNat:=by
 unfold Count.ent
 rw [qae]
 unfold ent
 generalize (modM n M (m:Int)).getD i []=r
 rw [qZ,qT,qZ]
 cases r[j]?<;>rfl
theorem qja {r:List Int} (h:∀z∈r,0<=z):i64z r=ints (r.map Int.toNat):=by
 unfold i64z ints
 rw [List.map_map]
 refine List.map_congr_left fun z hz=>?_
 show AV.int .i64 z= .int .i64 ((z.toNat:Nat):Int)
 rw [xP (h z hz)]
theorem qaf {n:Nat} {M:List (List Int)} {m i:Nat} (hm:0<m):∀z∈(modM n M (m:Int)).getD i [],0<=z/\z<m:=by
 intro z hz
 rw [qZ] at hz
 cases h:(modM n M (m:Int))[i]? with
 | none=>rw [h] at hz;simp at hz
 | some r=>
  rw [h,yW] at hz
  have hr:r∈modM n M (m:Int):=xM h
  unfold modM mkM at hr
  obtain ⟨i',_,rfl⟩:=List.mem_map.1 hr
  obtain ⟨j',_,rfl⟩:=List.mem_map.1 hz
  exact ⟨xY _ (by omega),xZ _ (by omega)⟩
end Go.Proofs.YtpflahgcdgdkjaaGreatDoor
namespace Go.Count
open Nat renaming mod_lt -> xW
open List renaming getD_eq_getElem?_getD -> qZ, getElem?_replicate -> xD, reverse_cons -> yX
theorem zur (f:Nat->Nat->Nat) (M:Nat):∀K,sumN (fun a=>sumN (fun b=>f a b) M) K=sumN (fun b=>sumN (fun a=>f a b) K) M:=by
 intro K
 induction K with
 | zero=>exact (zfy fun _ _=>rfl).symm
 | succ K ih=>
  show sumN _ K+sumN (fun b=>f K b) M=_
  rw [ih,<-zig]
  rfl
theorem zxn (M:Nat):∀(n:Nat) (P:List Nat->Bool),(allV M (n+1)).countP P=sumN (fun a=>(allV M n).countP fun r=>P (r++[a])) M:=by
 intro n
 induction n with
 | zero=>intro P;exact zgm P M _
 | succ n ih=>
  intro P
  have e1:(allV M (n+1+1)).countP P=sumN (fun a=>(allV M (n+1)).countP fun r=>P (a::r)) M:=zgm P M _
  rw [e1]
  have e2:sumN (fun a=>(allV M (n+1)).countP fun r=>P (a::r)) M=sumN (fun a=>sumN (fun b=>(allV M n).countP fun r=>P (a::(r++[b]))) M) M:=zdo fun a _=>ih fun r=>P (a::r)
  rw [e2,zur]
  refine zdo fun b _=>?_
  exact (zgm (fun r=>P (r++[b])) M _).symm
theorem qdb (M:Nat):∀(n:Nat) (P:List Nat->Bool),(allV M n).countP (fun y=>P y.reverse)=(allV M n).countP P:=by
 intro n
 induction n with
 | zero=>intro P;rfl
 | succ n ih=>
  intro P
  rw [zxn M n P]
  have e1:(allV M (n+1)).countP (fun y=>P y.reverse)=sumN (fun a=>(allV M n).countP fun r=>P (a::r).reverse) M:=zgm (fun y=>P y.reverse) M _
  rw [e1]
  refine zdo fun a _=>?_
  simp only [yX]
  exact ih fun r=>P (r++[a])
theorem nrm_rows (g:List (List Nat)) (n:Nat) (x:List Nat):nrm g n x=sumN (fun i=>sumN (fun j=>ent g i j*x.getD i 0*x.getD j 0) n) n:=by
 rw [zur]
 unfold nrm gx
 exact zdo fun j _=>(qpc _ _ _).symm
theorem acc_mod {a b c d m:Nat}:(a%m+b*c%m*d)%m=(a+b*c*d)%m:=by
 rw [Nat.add_mod,Nat.mod_mod,Nat.mul_mod,Nat.mod_mod,<-Nat.mul_mod,<-Nat.add_mod]
theorem ref_fin {g:List (List Nat)} {n M:Nat} (hM:0<M):((allV M n).foldl (fun c y=>tally c (nrm g n y.reverse%M)) (List.replicate M 0)).length=M/\∀t,((allV M n).foldl (fun c y=>tally c (nrm g n y.reverse%M)) (List.replicate M 0)).getD t 0=(allV M n).countP fun y=>decide (nrm g n y%M=t):=by
 obtain ⟨h1,h2⟩:=zog (fun y=>nrm g n y.reverse%M) M (allV M n) (List.replicate M 0) (by simp) (fun y _=>xW _ hM)
 refine ⟨h1,fun t=>?_⟩
 have h3:=h2 t
 rw [<-qdb M n fun y=>decide (nrm g n y%M=t)]
 rw [h3]
 have:(List.replicate M 0).getD t 0=0:=by
  rw [qZ,xD];split<;>rfl
 omega
end Go.Count
namespace Go.Proofs.YtpflahgcdgdkjaaGreatDoor
open Nat renaming reduceEqDiff -> qQ, reduceLeDiff -> qA, pow_le_pow_right -> qD, le_refl -> qG, sub_self -> qI, eq_zero_or_pos -> qM, pow_le_pow_left -> qR, lt_or_ge -> qS, mul_le_mul -> xQ, mod_lt -> xW, zero_add -> xH, div_le_self -> xL, pow_succ -> yQ, pow_one -> yD, pow_mul -> yE
open Go.AL.AV.closed renaming closedL -> qX
open List renaming getD_eq_getElem?_getD -> qZ, getElem?_cons_succ -> qW, getElem?_cons_zero -> qV, getElem?_eq_getElem -> qU, getElem?_append_right -> qE, set_append_right -> qH, take_of_length_le -> qL, ext_getElem -> xX, append_assoc -> xK, getElem?_replicate -> xD, getElem?_set_self -> xI, reverse_reverse -> xN, reverse_append -> xR, mem_replicate -> xS, reverse_cons -> yX, take_add_one -> yZ, length_cons -> yV, length_drop -> yU, getElem_set -> yA, length_take -> yB, foldl_cons -> yH
open Int renaming toNat_natCast -> qK, toNat_zero -> qN, natCast_mul -> qO, emod_lt_of_pos -> xZ, emod_nonneg -> xY, toNat_of_nonneg -> xP
open Bool renaming and_self -> qC, and_eq_true -> yY
open Option renaming bind_eq_some_iff -> xJ
open Option.some renaming injEq -> xC
open Go Go.AL Go.Proofs
section
variable {n m:Nat} {M:List (List Int)} {rows:List AV} {c:Option Nat} {cts X:List Nat}
def psum (g:List (List Nat)) (n:Nat) (X:List Nat) (i:Nat):Nat:=Count.sumN (fun i=>Count.sumN (fun j=>Count.ent g i j*X.getD i 0*X.getD j 0) n) i
def prow (g:List (List Nat)) (X:List Nat) (i j:Nat):Nat:=Count.sumN (fun j=>Count.ent g i j*X.getD i 0*X.getD j 0) j
theorem zoi {l:List Nat} {i m:Nat} (h:∀a∈l,a<m) (hi:i<l.length):l.getD i 0<m:=by
 rw [qZ,qU hi]
 exact h _ (List.getElem_mem _)
theorem qzv (hS:Shp n M) (hIn:∀i j,In64 (ent M i j)) (hn:n<=8) (hm:0<m) (hm2:m<=2097152) (hrl:rows.length=n) (hr:∀i,i<n->∃c',rows.getD i .junk= .vec (i64z (M.getD i [])) n c') (hX:X.length=n) (hXm:∀a∈X,a<m) {i:Nat} (hi:i<n) {s0:Nat} {v5 v6 v19:AV}
  {E:Env} {Q:Post} (e0:E 0= .vec rows n c) (e1:E 1= .int .i64 (m:Int)) (e5:E 5=v5) (e6:E 6=v6) (e7:E 7= .sl 1 0 n 1 (some n)) (e8:E 8= .int .i64 ((s0%m:Nat):Int)) (e9:E 9= .int .i64 (i:Int)) (e19:E 19=v19) (e20:E 20= .int .i64 (i:Int)) (e24:E 24= .int .i64 (n:Int)) (e25:E 25= .int .i64 0)
  (hQ:∀E',E' 0= .vec rows n c->E' 1= .int .i64 (m:Int)->E' 5=v5->E' 6=v6->E' 7= .sl 1 0 n 1 (some n)->E' 8= .int .i64 (((s0+prow (gN n M m) X i n)%m:Nat):Int)->E' 19=v19->E' 20= .int .i64 (i:Int)->Q (.exit 4) E' [some (ints cts),some (ints X)]):
  Wg 0 88 (.loop l32_2) E [some (ints cts),some (ints X)] Q:=by
 refine zai (fun k E H=>∃j:Nat,j+k=n/\H=[some (ints cts),some (ints X)]/\E 0= .vec rows n c/\E 1= .int .i64 (m:Int)/\E 5=v5/\E 6=v6/\E 7= .sl 1 0 n 1 (some n)/\E 8= .int .i64 (((s0+prow (gN n M m) X i j)%m:Nat):Int)/\E 9= .int .i64 (i:Int)/\E 19=v19/\E 20= .int .i64 (i:Int)/\E 24= .int .i64 (n:Int)/\E 25= .int .i64 (j:Int)) (n:=n)
  ⟨0,by omega,rfl,e0,e1,e5,e6,e7,e8,e9,e19,e20,e24,e25⟩ ?_
 clear e0 e1 e5 e6 e7 e8 e9 e19 e20 e24 e25 E
 rintro k E H ⟨j,hjk,rfl,e0,e1,e5,e6,e7,e8,e9,e19,e20,e24,e25⟩
 refine wM ?_
 simp only [l32_2,r32_9,SS,reduceIte,e24,e25]
 refine ⟨fun hlt=>?_,fun hge=>?_⟩
 ·obtain ⟨k,rfl⟩:∃k',k=k'+1:=⟨k-1,by omega⟩
  have hj:j<n:=by omega
  obtain ⟨c',hc'⟩:=hr i hi
  have lr:=hS.row i hi
  have gr:=zbq (M.getD i []) j (by omega) AV.junk
  have tM:=qzu (a:=ent M i j) (hIn i j) hm (by omega)
  have hg:ent M i j%(m:Int)=((Count.ent (gN n M m) i j:Nat):Int):=by
   rw [qiz]
   unfold modM
   rw [zby hi hj,xP (xY _ (by omega))]
  rw [hg] at tM
  have hgm:Count.ent (gN n M m) i j<m:=by
   have:=xZ (ent M i j) (show (0:Int)<m by omega)
   omega
  have hxi:=zoi hXm (i:=i) (by omega)
  have hxj:=zoi hXm (i:=j) (by omega)
  have gi:=zcm X i (by omega) AV.junk
  have gj:=zcm X j (by omega) AV.junk
  have hp1:Count.ent (gN n M m) i j*X.getD i 0<=2097152*2097152:=xQ (by omega) (by omega)
  have hr1:=xW (Count.ent (gN n M m) i j*X.getD i 0) hm
  have hp2:Count.ent (gN n M m) i j*X.getD i 0%m*X.getD j 0<=2097152*2097152:=xQ (by omega) (by omega)
  have hr2:=xW (s0+prow (gN n M m) X i j) hm
  have hsum:((s0+prow (gN n M m) X i j)%m+Count.ent (gN n M m) i j*X.getD i 0%m*X.getD j 0)%m=(s0+prow (gN n M m) X i (j+1))%m:=by
   rw [Count.acc_mod]
   unfold prow
   simp only [Count.sumN,Nat.add_assoc]
  generalize Count.ent (gN n M m) i j=g at*
  have w1:IntKind.i64.wrap ((g:Int)*((X.getD i 0:Nat):Int))=((g*X.getD i 0:Nat):Int):=by rw [<-qO];exact zim (by omega)
  have t1:Int.tmod ((g*X.getD i 0:Nat):Int) (m:Int)=((g*X.getD i 0%m:Nat):Int):=rfl
  have w2:IntKind.i64.wrap (((g*X.getD i 0%m:Nat):Int)*((X.getD j 0:Nat):Int))=((g*X.getD i 0%m*X.getD j 0:Nat):Int):=by rw [<-qO];exact zim (by omega)
  have w3:IntKind.i64.wrap ((((s0+prow (gN n M m) X i j)%m:Nat):Int)+((g*X.getD i 0%m*X.getD j 0:Nat):Int))=(((s0+prow (gN n M m) X i j)%m+g*X.getD i 0%m*X.getD j 0:Nat):Int):=by rw [<-Int.natCast_add];exact zim (by omega)
  have t3:Int.tmod (((s0+prow (gN n M m) X i j)%m+g*X.getD i 0%m*X.getD j 0:Nat):Int) (m:Int)=(((s0+prow (gN n M m) X i (j+1))%m:Nat):Int):=by rw [<-hsum];rfl
  have w5:=wS1 j (by omega)
  have hm0:(m:Int)≠0:=by omega
  simp only [r32_10,r32_11,SS,fC,reduceCtorEq,reduceIte,qQ,e0,e1,e8,e9,e25,hrl,hc',lr,zav,gr,qK]
  refine ⟨⟨by omega,by omega⟩,by omega,⟨by omega,by omega⟩,by omega,?_⟩
  refine zaa tM ?_
  simp only [SS,fC,reduceIte,qQ,e1,e7,e9,qK,gi,gj,zdb,hX,w1,t1,w2,w3,t3]
  refine ⟨⟨by omega,by omega⟩,by omega,hm0,⟨by omega,by omega⟩,by omega,hm0,rfl,?_⟩
  simp only [r32_12,SS,reduceIte,qQ,e25,w5]
  refine ⟨k,_,_,by omega,⟨j+1,by omega,rfl,?_,?_,?_,?_,?_,?_,?_,?_,?_,?_,?_⟩,.refl⟩
  all_goals simp only [UU,qQ,reduceIte, *]
 ·obtain rfl:j=n:=by omega
  exact hQ _ (by simp only [UU,qQ,e0]) (by simp only [UU,qQ,e1]) (by simp only [UU,qQ,e5]) (by simp only [UU,qQ,e6]) (by simp only [UU,qQ,e7]) (by simp only [UU,qQ,e8]) (by simp only [UU,qQ,e19]) (by simp only [UU,qQ,e20])
theorem qwl (hS:Shp n M) (hIn:∀i j,In64 (ent M i j)) (hn:n<=8) (hm:0<m) (hm2:m<=2097152) (hrl:rows.length=n) (hr:∀i,i<n->∃c',rows.getD i .junk= .vec (i64z (M.getD i [])) n c') (hX:X.length=n) (hXm:∀a∈X,a<m) {v5 v6:AV}
  {E:Env} {Q:Post} (e0:E 0= .vec rows n c) (e1:E 1= .int .i64 (m:Int)) (e5:E 5=v5) (e6:E 6=v6) (e7:E 7= .sl 1 0 n 1 (some n)) (e8:E 8= .int .i64 0) (e19:E 19= .int .i64 (n:Int)) (e20:E 20= .int .i64 0)
  (hQ:∀E',E' 0= .vec rows n c->E' 1= .int .i64 (m:Int)->E' 5=v5->E' 6=v6->E' 7= .sl 1 0 n 1 (some n)->E' 8= .int .i64 ((Count.nrm (gN n M m) n X%m:Nat):Int)->Q (.exit 2) E' [some (ints cts),some (ints X)]):
  Wg 0 88 (.loop l32_1) E [some (ints cts),some (ints X)] Q:=by
 refine zai (fun k E H=>∃i:Nat,i+k=n/\H=[some (ints cts),some (ints X)]/\E 0= .vec rows n c/\E 1= .int .i64 (m:Int)/\E 5=v5/\E 6=v6/\E 7= .sl 1 0 n 1 (some n)/\E 8= .int .i64 ((psum (gN n M m) n X i%m:Nat):Int)/\E 19= .int .i64 (n:Int)/\E 20= .int .i64 (i:Int)) (n:=n)
  ⟨0,by omega,rfl,e0,e1,e5,e6,e7,by rw [e8];unfold psum;rw [show Count.sumN _ 0=0 from rfl,Nat.zero_mod];rfl,e19,e20⟩ ?_
 clear e0 e1 e5 e6 e7 e8 e19 e20 E
 rintro k E H ⟨i,hik,rfl,e0,e1,e5,e6,e7,e8,e19,e20⟩
 refine wM ?_
 simp only [l32_1,r32_6,SS,reduceIte,e19,e20]
 refine ⟨fun hlt=>?_,fun hge=>?_⟩
 ·obtain ⟨k,rfl⟩:∃k',k=k'+1:=⟨k-1,by omega⟩
  have hi:i<n:=by omega
  have w5:=wS1 i (by omega)
  simp only [r32_7,r32_8,SS,reduceCtorEq,reduceIte,qQ,e0,e20]
  refine qzv (c:=c) hS hIn hn hm hm2 hrl hr hX hXm hi (s0:=psum (gN n M m) n X i) (v5:=v5) (v6:=v6) (v19:= .int .i64 (n:Int)) (by simp only [UU,qQ,e0]) (by simp only [UU,qQ,e1]) (by simp only [UU,qQ,e5]) (by simp only [UU,qQ,e6]) (by simp only [UU,qQ,e7]) (by simp only [UU,qQ,e8]) (by simp only [UU,qQ,reduceIte]) (by simp only [UU,qQ,e19]) (by simp only [UU,qQ,e20]) (by simp only [UU,qQ,reduceIte]) (by simp only [UU,qQ,reduceIte]) ?_
  intro E' f0 f1 f5 f6 f7 f8 f19 f20
  simp only [r32_13,SS,reduceIte,qQ,f20,w5]
  refine ⟨k,_,_,by omega,⟨i+1,by omega,rfl,?_,?_,?_,?_,?_,?_,?_,?_⟩,.refl⟩
  ·simp only [UU,qQ,f0]
  ·simp only [UU,qQ,f1]
  ·simp only [UU,qQ,f5]
  ·simp only [UU,qQ,f6]
  ·simp only [UU,qQ,f7]
  ·simp only [UU,qQ,f8];rfl
  ·simp only [UU,qQ,f19]
  ·simp only [UU,qQ,reduceIte]
 ·obtain rfl:i=n:=by omega
  refine hQ _ (by simp only [UU,qQ,e0]) (by simp only [UU,qQ,e1]) (by simp only [UU,qQ,e5]) (by simp only [UU,qQ,e6]) (by simp only [UU,qQ,e7]) ?_
  simp only [UU,qQ,e8]
  rw [Count.nrm_rows]
  rfl
end
section
variable {n m:Nat} {M:List (List Int)} {rows:List AV} {c:Option Nat} {cts:List Nat}
theorem qpi (hn:n<=8) (hm:0<m) (hm2:m<=2097152) {X:List Nat} (hX:X.length=n) (hXm:∀a∈X,a<m) {v0 v5 v6:AV} {E:Env} {Q:Post} (e0:E 0=v0) (e1:E 1= .int .i64 (m:Int)) (e5:E 5=v5) (e6:E 6=v6) (e7:E 7= .sl 1 0 n 1 (some n)) (e11:E 11= .int .i64 ((n:Int)-1))
  (hQ0:∀E' X',Count.inc m X.reverse=none->E' 0=v0->E' 5=v5->E' 11= .int .i64 (-1)->Q (.exit 6) E' [some (ints cts),some (ints X')])
  (hQ1:∀E' P a t,P.length+1+t=n->a+1<m->(∀b∈P,b<m)->Count.inc m X.reverse=some (P++(a+1)::List.replicate t 0).reverse->E' 0=v0->E' 1= .int .i64 (m:Int)->E' 5=v5->E' 6=v6->E' 7= .sl 1 0 n 1 (some n)->E' 11= .int .i64 (P.length:Int)->Q (.exit 6) E' [some (ints cts),some (ints (P++a::List.replicate t 0))]):
  Wg 0 88 (.loop l32_3) E [some (ints cts),some (ints X)] Q:=by
 refine zai (fun k E H=>∃P t,P.length=k/\k+t=n/\(∀b∈P,b<m)/\H=[some (ints cts),some (ints (P++List.replicate t 0))]/\Count.inc m X.reverse=(Count.inc m P.reverse).map (List.replicate t 0++ ·)/\E 0=v0/\E 1= .int .i64 (m:Int)/\E 5=v5/\E 6=v6/\E 7= .sl 1 0 n 1 (some n)/\E 11= .int .i64 ((k:Int)-1)) (n:=n)
  ⟨X,0,hX,rfl,hXm,by simp,by cases Count.inc m X.reverse<;>simp,e0,e1,e5,e6,e7,e11⟩ ?_
 clear e0 e1 e5 e6 e7 e11 E
 rintro k E H ⟨P,t,hP,hkt,hPm,rfl,hinc,e0,e1,e5,e6,e7,e11⟩
 refine wM ?_
 have wm:IntKind.i64.wrap ((m:Int)-1)=((m-1:Nat):Int):=wQ (by omega)
 rcases qM k with hk | hk
 ·subst hk
  obtain rfl:P=[]:=List.length_eq_zero_iff.1 hP
  have d1:decide ((0:Int)<=((0:Nat):Int)-1)=false:=by decide
  have hnone:Count.inc m X.reverse=none:=by rw [hinc];rfl
  simp only [l32_3,r32_16,SS,fC,reduceIte,qQ,e11,d1]
  refine hQ0 _ _ hnone ?_ ?_ ?_
  ·simp only [UU,qQ,e0]
  ·simp only [UU,qQ,e5]
  ·simp only [UU,qQ,e11];rfl
 ·obtain ⟨k,rfl⟩:∃k',k=k'+1:=⟨k-1,by omega⟩
  obtain ⟨P',a,rfl⟩:∃P' a,P=P'++[a]:=⟨P.dropLast,P.getLast (by intro e;subst e;simp at hP),(List.dropLast_concat_getLast _).symm⟩
  have hP':P'.length=k:=by simpa using hP
  have ha:a<m:=hPm a (by simp)
  have hk1:(((k+1:Nat):Int))-1=(k:Int):=by omega
  have d1:decide ((0:Int)<=(k:Int))=true:=decide_eq_true (by omega)
  rw [xR,List.reverse_singleton,List.singleton_append] at hinc
  have hl:(P'++[a]++List.replicate t 0).length=n:=by simp;omega
  have hga:(P'++[a]++List.replicate t 0).getD k 0=a:=by
   rw [xK,qZ,qE (by omega),hP',qI];rfl
  have gx:=zcm (P'++[a]++List.replicate t 0) k (by omega) AV.junk
  rw [hga] at gx
  rw [hk1] at e11
  have w1:IntKind.i64.wrap ((k:Int)-1)=(k:Int)-1:=w64 (by omega) (by omega)
  by_cases hmax:a+1<m
  ·have d2:decide ((a:Int)=((m-1:Nat):Int))=false:=decide_eq_false (by omega)
   have hi:Count.inc m X.reverse=some (P'++(a+1)::List.replicate t 0).reverse:=by
    rw [hinc]
    simp only [Count.inc,if_pos hmax,Option.map_some,xC]
    simp [xR,yX]
   simp only [l32_3,r32_16,SS,fC,reduceIte,qQ,e1,e7,e11,d1,d2,wm,qK,gx,zdb,hl]
   refine ⟨⟨by omega,by omega⟩,by omega,?_⟩
   rw [show P'++[a]++List.replicate t 0=P'++a::List.replicate t 0 by simp]
   refine hQ1 _ P' a t (by omega) hmax (fun b hb=>hPm b (by simp [hb])) hi ?_ ?_ ?_ ?_ ?_ ?_
   ·simp only [UU,qQ,e0]
   ·simp only [UU,qQ,e1]
   ·simp only [UU,qQ,e5]
   ·simp only [UU,qQ,e6]
   ·simp only [UU,qQ,e7]
   ·simp only [UU,qQ,e11,hP']
  ·have d2:decide ((a:Int)=((m-1:Nat):Int))=true:=decide_eq_true (by omega)
   have hset:(ints (P'++[a]++List.replicate t 0)).set k (.int .i64 0)=ints (P'++List.replicate (t+1) 0):=by
    rw [show (AV.int .i64 0)= .int .i64 ((0:Nat):Int) from rfl,zih,xK,qH _ _ (by omega),hP',qI]
    rfl
   simp only [l32_3,r32_16,SS,fC,reduceIte,qQ,e1,e7,e11,d1,d2,wm,qK,gx,zdb,hl]
   refine ⟨⟨by omega,by omega⟩,by omega,?_⟩
   simp only [r32_17,r32_18,SS,reduceIte,qQ,e7,e11,qK,zdb,hl,hset,w1]
   refine ⟨⟨by omega,by omega⟩,by omega,k,_,_,by omega,⟨P',t+1,hP',by omega,fun b hb=>hPm b (by simp [hb]),rfl,?_,?_,?_,?_,?_,?_,?_⟩,.refl⟩
   ·rw [hinc]
    simp only [Count.inc,if_neg hmax]
    cases Count.inc m P'.reverse with
    | none=>rfl
    | some y=>simp [List.replicate_succ',xK]
   ·simp only [UU,qQ,e0]
   ·simp only [UU,qQ,e1]
   ·simp only [UU,qQ,e5]
   ·simp only [UU,qQ,e6]
   ·simp only [UU,qQ,e7]
   ·simp only [UU,qQ,reduceIte]
end
theorem qpj {n m:Nat} {M:List (List Int)} (hS:Shp n M) (hIn:∀i j,In64 (ent M i j)) (hn:1<=n/\n<=8) (hm:2<=m) (hm2:m<=2097152) (hpow:m^n<=2097152):
  ∃fin:List Nat,fin.length=m/\(∀t,fin.getD t 0=(Count.allV m n).countP fun y=>decide (Count.nrm (gN n M m) n y%m=t))/\∀a,ImV M a->Rt 32 [a,.int .i64 (m:Int)] [] (.vec (ints fin) m (some m)) []:=by
 obtain ⟨hfl,hfin⟩:=Count.ref_fin (g:=gN n M m) (n:=n) (M:=m) (by omega)
 refine ⟨_,hfl,hfin,fun a hV=>?_⟩
 generalize hF:List.foldl _ _ _=fin at*
 obtain ⟨rows,c,rfl,hl,hr⟩:=hV.val
 have hMl:=hS.len
 rw [hMl] at hl
 have hr':∀i,i<n->∃c',rows.getD i .junk= .vec (i64z (M.getD i [])) n c':=by
  intro i hi
  obtain ⟨c',h⟩:=hr i (by omega)
  rw [hS.row i hi] at h
  exact ⟨c',h⟩
 have hz:∀k:Nat,List.replicate k (AV.int .i64 0)=ints (List.replicate k 0):=fun k=>by simp [ints]
 rw [hMl]
 refine oF o32 ?_
 simp only [c32,r32_0,r32_1,r32_2,r32_3,SS,reduceCtorEq,reduceIte,qQ,qK,hz]
 refine ⟨by omega,⟨by omega,by omega,by omega,by omega⟩,by omega,⟨by omega,by omega,by omega,by omega⟩,?_⟩
 refine zai (fun f E H=>∃X l cts,l.length=f/\Count.Chain m X.reverse l/\X.length=n/\(∀a∈X,a<m)/\cts.length=m/\(∀t,cts.getD t 0+l.length<=2097152)/\l.foldl (fun c y=>Count.tally c (Count.nrm (gN n M m) n y.reverse%m)) cts=fin/\H=[some (ints cts),some (ints X)]/\E 0= .vec rows n c/\E 1= .int .i64 (m:Int)/\E 5= .sl 0 0 m 1 (some m)/\E 6= .int .i64 (n:Int)/\E 7= .sl 1 0 n 1 (some n)) (n:=m^n)
  ⟨List.replicate n 0,Count.allV m n,List.replicate m 0,Count.allV_len m n,by rw [List.reverse_replicate];exact Count.chain_all (by omega) n,by simp,fun a ha=>by rw [xS] at ha;omega,by simp,fun t=>?_,hF,rfl,by simp only [UU,qQ],by simp only [UU,qQ],by simp only [UU,qQ,reduceIte],by simp only [UU,qQ,reduceIte],by simp only [UU,qQ,reduceIte]⟩ ?_
 ·rw [Count.allV_len,qZ,xD]
  split
  ·show 0+_<=_;omega
  ·show 0+_<=_;omega
 rintro f E H ⟨X,l,cts,hlf,hch,hX,hXm,hcl,hcb,hfold,rfl,e0,e1,e5,e6,e7⟩
 refine wM ?_
 simp only [l32_0,r32_4,r32_5,SS,reduceCtorEq,reduceIte,e0]
 refine qwl (c:=c) (v5:= .sl 0 0 m 1 (some m)) (v6:= .int .i64 (n:Int)) hS hIn hn.2 (by omega) hm2 hl hr' hX hXm (by simp only [UU,qQ,e0]) (by simp only [UU,qQ,e1]) (by simp only [UU,qQ,e5]) (by simp only [UU,qQ,e6]) (by simp only [UU,qQ,e7]) (by simp only [UU,qQ,reduceIte]) (by simp only [UU,qQ,reduceIte]) (by simp only [UU,qQ,reduceIte]) ?_
 intro E1 f0 f1 f5 f6 f7 f8
 have hs:=xW (Count.nrm (gN n M m) n X) (show 0<m by omega)
 generalize hsv:Count.nrm (gN n M m) n X%m=s at*
 have gc:=zcm cts s (by omega) AV.junk
 have hcs:=hcb s
 have wc:IntKind.i64.wrap (((cts.getD s 0:Nat):Int)+1)=((cts.getD s 0+1:Nat):Int):=wQ (by omega)
 have wn:IntKind.i64.wrap ((n:Int)-1)=(n:Int)-1:=w64 (by omega) (by omega)
 have ht:(Count.tally cts s).length=m:=(Count.tally_len _ _).trans hcl
 have hset:(ints cts).set s (.int .i64 ((cts.getD s 0+1:Nat):Int))=ints (Count.tally cts s):=zih _ _ _
 have hl1:1<=l.length:=by cases hch<;>simp
 simp only [r32_14,r32_15,SS,fC,reduceCtorEq,reduceIte,qQ,f5,f6,f8,qK,gc,zdb,hcl,wc,wn,hset]
 refine ⟨⟨by omega,by omega⟩,by omega,⟨by omega,by omega⟩,by omega,?_⟩
 refine qpi (v0:= .vec rows n c) (v5:= .sl 0 0 m 1 (some m)) (v6:= .int .i64 (n:Int)) hn.2 (by omega) hm2 hX hXm (by simp only [UU,qQ,f0]) (by simp only [UU,qQ,f1]) (by simp only [UU,qQ,f5]) (by simp only [UU,qQ,f6]) (by simp only [UU,qQ,f7]) (by simp only [UU,qQ,reduceIte]) ?_ ?_
 ·intro E2 X' hnone g0 g5 g11
  have hlast:l=[X.reverse]:=by
   cases hch with
   | last _=>rfl
   | next h _=>rw [hnone] at h;cases h
  subst hlast
  have hfin2:Count.tally cts s=fin:=by
   rw [<-hfold,yH,List.foldl_nil,xN,hsv]
  have d1:decide ((-1:Int)<0)=true:=rfl
  simp only [r32_19,SS,fC,reduceCtorEq,reduceIte,qQ,g11,d1]
  simp only [r32_20,SS,reduceIte,qQ,g5]
  refine ⟨.inl trivial,_,rfl,?_⟩
  rw [hfin2]
  exact zze (l:=fin) rfl hfl.symm
 ·intro E2 P a t hPt ha hPm hinc g0 g1 g5 g6 g7 g11
  have d1:decide (((P.length:Nat):Int)<0)=false:=decide_eq_false (by omega)
  have hPl:(P++a::List.replicate t 0).length=n:=by simp;omega
  have hga:(P++a::List.replicate t 0).getD P.length 0=a:=by
   rw [qZ,qE (qG _),qI];rfl
  have gx:=zcm (P++a::List.replicate t 0) P.length (by omega) AV.junk
  rw [hga] at gx
  have wa:=wS1 a (by omega)
  have hset2:(ints (P++a::List.replicate t 0)).set P.length (.int .i64 ((a+1:Nat):Int))=ints (P++(a+1)::List.replicate t 0):=by
   rw [zih,qH _ _ (qG _),qI];rfl
  obtain ⟨l',hl',hch'⟩:∃l',l=X.reverse::l'/\Count.Chain m (P++(a+1)::List.replicate t 0).reverse l':=by
   cases hch with
   | last h=>rw [hinc] at h;cases h
   | next h h2=>rw [hinc] at h;injection h with h;subst h;exact ⟨_,rfl,h2⟩
  subst hl'
  simp only [r32_19,SS,fC,reduceCtorEq,reduceIte,qQ,g11,d1]
  simp only [r32_21,SS,fC,reduceIte,qQ,g7,g11,qK,gx,zdb,hPl,wa,hset2]
  refine ⟨⟨by omega,by omega⟩,by omega,⟨by omega,by omega⟩,by omega,l'.length,_,_,by rw [<-hlf];simp,⟨P++(a+1)::List.replicate t 0,l',Count.tally cts s,rfl,hch',by simp;omega,fun b hb=>?_,ht,fun u=>?_,?_,rfl,?_,?_,?_,?_,?_⟩,.refl⟩
  ·rcases List.mem_append.1 hb with h | h
   ·exact hPm b h
   ·rcases List.mem_cons.1 h with h | h
    ·omega
    ·rw [xS] at h;omega
  ·rw [Count.tally_get (by omega)]
   have:=hcb u
   rw [yV] at this
   split<;>omega
  ·rw [<-hfold,yH,xN,hsv]
  ·simp only [UU,qQ,g0]
  ·simp only [UU,qQ,g1]
  ·simp only [UU,qQ,g5]
  ·simp only [UU,qQ,g6]
  ·simp only [UU,qQ,g7]
def chkZ (bR bP:Bool):Int:=if bR=true then (if bP=true then 0 else 20) else 6
theorem zpy {a:AV} {z:Int} {bR bP:Bool} (h1:Rt 70 [a] [] (.bool bR) []) (hc:a.closed=true) (hp:bP=true↔z<=9973/\PrmZ z):Rt 26 [a,.int .i64 z] [] (.int .i64 (chkZ bR bP)) []:=by
 have c1:qX [a]=true:=by simp only [qX,hc,qC]
 refine oF o26 ?_
 simp only [c26,r26_0,r26_1,SS,reduceCtorEq,reduceIte]
 refine zaa h1 ?_ c1
 simp only [zaj,SS,reduceIte,qQ]
 cases bR with
 | false=>
  simp only [r26_2,SS,fC]
  exact ⟨.inl trivial,_,rfl,.keep _ _⟩
 | true=>
  by_cases hz:z<=9973
  ·have d1:decide (9973<z)=false:=decide_eq_false (by omega)
   have t:=prIs (z:=z) (b:=bP) (by rw [hp];exact ⟨fun e=>e.2,fun e=>⟨hz,e⟩⟩)
   simp only [r26_3,SS,fC,reduceIte,qQ,d1]
   refine zaa t ?_
   simp only [zaj,SS,fC,reduceIte,qQ]
   cases bP with
   | false=>
    simp only [r26_4,SS,fC]
    exact ⟨.inl trivial,_,rfl,.keep _ _⟩
   | true=>
    simp only [r26_5,SS,fC]
    exact ⟨.inl trivial,_,rfl,.keep _ _⟩
  ·have d1:decide (9973<z)=true:=decide_eq_true (by omega)
   obtain rfl:bP=false:=by
    cases bP with
    | false=>rfl
    | true=>exact absurd (hp.1 rfl).1 hz
   simp only [r26_3,r26_4,SS,fC,reduceIte,qQ,d1]
   exact ⟨.inl trivial,_,rfl,.keep _ _⟩
theorem zpz {p e:Nat} (hp:2<=p) (hp2:p<=2097152) (he:e<9223372036854775808) (h:2097152<p^e):Rt 27 [.int .i64 (p:Int),.int .i64 (e:Int)] [] (.tup [.int .i64 0,.bool false]) []:=by
 refine oF o27 ?_
 simp only [c27,r27_0,r27_1,r27_2,SS,reduceCtorEq,reduceIte,qQ]
 refine zai (fun q E H=>∃i:Nat,i+q=e/\H=[]/\p^i<=2097152/\E 0= .int .i64 (p:Int)/\E 6= .int .i64 ((p^i:Nat):Int)/\E 7= .int .i64 (e:Int)/\E 8= .int .i64 (i:Int)) (n:=e)
  ⟨0,by omega,rfl,by rw [Nat.pow_zero];omega,by simp only [UU,qQ],by simp only [UU,qQ,reduceIte];rfl,by simp only [UU,qQ,reduceIte],by simp only [UU,qQ,reduceIte];rfl⟩ ?_
 rintro q E H ⟨i,hiq,rfl,hle,e0,e6,e7,e8⟩
 refine wM ?_
 simp only [l27_0,r27_3,SS,reduceCtorEq,reduceIte,e7,e8]
 refine ⟨fun hlt=>?_,fun hge=>?_⟩
 ·obtain ⟨q,rfl⟩:∃q',q=q'+1:=⟨q-1,by omega⟩
  have hpp:p^(i+1)<=2097152*2097152:=by rw [yQ];exact xQ hle hp2
  have em:((p^i:Nat):Int)*(p:Int)=((p^(i+1):Nat):Int):=by rw [yQ];exact (qO _ _).symm
  have w5:=wS1 i (by omega)
  have w6:IntKind.i64.wrap ((p^(i+1):Nat):Int)=((p^(i+1):Nat):Int):=zim (by omega)
  simp only [r27_4,r27_5,SS,reduceCtorEq,reduceIte,qQ,e0,e6,em,w6]
  refine ⟨fun hgt=>?_,fun hng=>?_⟩
  ·simp only [r27_6,SS]
   exact ⟨.inl trivial,_,rfl,.keep _ _⟩
  ·simp only [r27_7,SS,reduceIte,qQ,e8,w5]
   refine ⟨q,_,_,by omega,⟨i+1,by omega,rfl,by omega,?_,?_,?_,?_⟩,.refl⟩
   all_goals simp only [UU,qQ,reduceIte, *]
 ·have hie:i=e:=by omega
  subst hie
  omega
section
variable {hs:List AV} {ch:Option Nat} {n:Nat}
theorem zxo {z k e:Int} (hcl:(AV.vec hs n ch).closed=true) (he:e≠0) (hchk:Rt 26 [.vec hs n ch,.int .i64 z] [] (.int .i64 e) []):Rt 11 [.vec hs n ch,.int .i64 z,.int .i64 k] [] (.tup [.vec [] 0 (some 0),.int .i64 e]) []:=by
 have c0:qX [.vec hs n ch,.int .i64 z]=true:=by simp only [qX,hcl];rfl
 refine oF o11 ?_
 simp only [c11,r11_0,r11_1,SS,reduceCtorEq,reduceIte,qQ]
 refine zaa hchk ?_ c0
 simp only [zaj,SS,reduceIte,qQ]
 simp only [r11_2,SS,reduceIte,qQ]
 refine ⟨fun _=>?_,fun h=>absurd he h⟩
 simp only [r11_3,SS,reduceIte,qQ]
 exact ⟨.inl trivial,_,rfl,.keep _ _⟩
theorem zxp {z k:Int} (hcl:(AV.vec hs n ch).closed=true) (hchk:Rt 26 [.vec hs n ch,.int .i64 z] [] (.int .i64 0) []) (hk:k<1):Rt 11 [.vec hs n ch,.int .i64 z,.int .i64 k] [] (.tup [.vec [] 0 (some 0),.int .i64 1]) []:=by
 have c0:qX [.vec hs n ch,.int .i64 z]=true:=by simp only [qX,hcl];rfl
 refine oF o11 ?_
 simp only [c11,r11_0,r11_1,SS,reduceCtorEq,reduceIte,qQ]
 refine zaa hchk ?_ c0
 simp only [zaj,SS,reduceIte,qQ]
 simp only [r11_2,SS,reduceIte,qQ]
 refine ⟨fun hne=>absurd rfl hne,fun _=>?_⟩
 simp only [r11_4,SS,reduceIte,qQ]
 refine ⟨fun _=>?_,fun h=>absurd hk h⟩
 simp only [r11_5,SS]
 exact ⟨.inl trivial,_,rfl,.keep _ _⟩
theorem zxq {p e:Nat} (hcl:(AV.vec hs n ch).closed=true) (hchk:Rt 26 [.vec hs n ch,.int .i64 (p:Int)] [] (.int .i64 0) []) (hp:2<=p) (hp2:p<=9973) (he:1<=e) (he2:e<9223372036854775808) (hn:n<=8) (hpow:2097152<p^(e*n)):
  Rt 11 [.vec hs n ch,.int .i64 (p:Int),.int .i64 (e:Int)] [] (.tup [.vec [] 0 (some 0),.int .i64 7]) []:=by
 have c0:qX [.vec hs n ch,.int .i64 (p:Int)]=true:=by simp only [qX,hcl];rfl
 have h1:2<=p^e:=by
  have:=qD (n:=p) (by omega) he
  rw [yD] at this;omega
 refine oF o11 ?_
 simp only [c11,r11_0,r11_1,SS,reduceCtorEq,reduceIte,qQ]
 refine zaa hchk ?_ c0
 simp only [zaj,SS,reduceIte,qQ]
 simp only [r11_2,SS,reduceIte,qQ]
 refine ⟨fun hne=>absurd rfl hne,fun _=>?_⟩
 simp only [r11_4,SS,reduceIte,qQ]
 refine ⟨fun hlt=>absurd hlt (by omega),fun _=>?_⟩
 simp only [r11_6,SS,reduceIte,qQ]
 rcases qS 2097152 (p^e) with hb | hb
 ·refine zaa (zpz hp (by omega) he2 hb) ?_
  simp only [zaj,SS,reduceIte,qQ,qV,qW]
  simp only [r11_7,r11_8,SS,fC,reduceIte,qQ]
  exact ⟨.inl trivial,_,rfl,.keep _ _⟩
 ·have he3:e<2^40:=by
   rcases qS e 22 with h | h
   ·omega
   ·have a1:=qD (n:=p) (by omega) h
    have a2:=qR hp 22
    omega
  rw [yE] at hpow
  refine zaa (zxm (by omega) hb he3) ?_
  simp only [zaj,SS,reduceIte,qQ,qV,qW]
  simp only [r11_7,r11_9,SS,fC,reduceCtorEq,reduceIte,qQ]
  refine zaa (zpz h1 hb (by omega) hpow) ?_
  simp only [zaj,SS,reduceIte,qQ,qV,qW]
  simp only [r11_10,r11_11,SS,fC,reduceIte,qQ]
  exact ⟨.inl trivial,_,rfl,.keep _ _⟩
end
open Go.Limb
theorem qjb {B:Nat} {M:List (List Int)} {ds:List Int} {m i:Nat} {b:Bool} (h:redI B M ds (m+1) i=some b):
  ∃b1,redJ B M ds i i 0=some b1/\(b1=false->b=false)/\(b1=true->i=0->redI B M ds m (i+1)=some b)/\(b1=true->0<i->∃b2,lovO B M ds i=some b2/\(b2=false->b=false)/\(b2=true->redI B M ds m (i+1)=some b)):=by
 simp only [redI,xJ] at h
 obtain ⟨b1,h1,h2⟩:=h
 refine ⟨b1,h1,fun e=>?_,fun e e0=>?_,fun e e0=>?_⟩
 ·subst e;simpa using h2.symm
 ·subst e;subst e0;simpa using h2
 ·subst e
  rw [if_neg (by decide),if_neg (by omega),xJ] at h2
  obtain ⟨b2,h3,h4⟩:=h2
  refine ⟨b2,h3,fun e=>?_,fun e=>?_⟩
  ·subst e;simpa using h4.symm
  ·subst e;simpa using h4
theorem qjc {B:Nat} {M:List (List Int)} {ds:List Int} {m i j:Nat} {b:Bool} (h:redJ B M ds i (m+1) j=some b):
  ∃b1,zju B M ds i j=some b1/\(b1=false->b=false)/\(b1=true->redJ B M ds i m (j+1)=some b):=by
 simp only [redJ,xJ] at h
 obtain ⟨b1,h1,h2⟩:=h
 refine ⟨b1,h1,fun e=>?_,fun e=>?_⟩
 ·subst e;simpa using h2.symm
 ·subst e;simpa using h2
theorem qpk {B n:Nat} {M:List (List Int)} {a:AV} {ds:List Int} {b:Bool} (hB:DivB B) (h:Sq n M a) (hd:zjt B M=some ds) (hb:redI B M ds n 0=some b):
  Rt 73 [a] [] (.bool b) []:=by
 have hL:=qhn h hd
 have t1:=zrt hB h hd
 have c1:qX [a]=true:=by simp only [qX,h.closed,qC]
 have hs:=h
 obtain ⟨⟨rows,c,rfl,hl,hr⟩,hlen,hc,hlo,hhi⟩:=h
 rw [hlen] at hs t1 c1 ⊢
 refine oF o73 ?_
 simp only [c73,r73_0,r73_1,SS,reduceCtorEq,reduceIte]
 refine zaa t1 ?_ c1
 simp only [SS,reduceIte,qQ,qV,qW]
 simp only [r73_2,SS,reduceCtorEq,reduceIte,qQ]
 refine zai (fun m E H=>∃i,i+m=n/\E 0= .vec rows n c/\E 3=rowV ds/\E 13= .int .i64 (n:Nat)/\E 14= .int .i64 (i:Nat)/\H=[]/\redI B M ds m i=some b) (n:=n) ⟨0,by omega,?_,?_,?_,?_,rfl,hb⟩ ?_
 ·simp only [UU,qQ]
 ·simp only [UU,qQ,reduceIte]
 ·simp only [UU,qQ,reduceIte]
 ·simp only [UU,qQ,reduceIte];rfl
 rintro m E H ⟨i,him,e0,e3,e13,e14,rfl,hi0⟩
 refine wM ?_
 simp only [l73_0,r73_3,SS,reduceCtorEq,reduceIte,e13,e14]
 refine ⟨fun hlt=>?_,fun hge=>?_⟩
 ·obtain ⟨m,rfl⟩:∃m',m=m'+1:=⟨m-1,by omega⟩
  have hi:i<n:=by omega
  have w5:=wS1 i (by omega)
  obtain ⟨b1,hj0,k1,k2,k3⟩:=qjb hi0
  simp only [r73_4,r73_5,SS,reduceIte,qQ,e14]
  refine zai (fun m2 E H=>∃j,j+m2=i/\E 0= .vec rows n c/\E 3=rowV ds/\E 5= .int .i64 (i:Nat)/\E 6= .int .i64 (j:Nat)/\E 13= .int .i64 (n:Nat)/\E 14= .int .i64 (i:Nat)/\H=[]/\redJ B M ds i m2 j=some b1) (n:=i) ⟨0,by omega,?_,?_,?_,?_,?_,?_,rfl,hj0⟩ ?_
  ·simp only [UU,qQ,e0]
  ·simp only [UU,qQ,e3]
  ·simp only [UU,qQ,reduceIte]
  ·simp only [UU,qQ,reduceIte];rfl
  ·simp only [UU,qQ,e13]
  ·simp only [UU,qQ,e14]
  rintro m2 E2 H2 ⟨j,hjm,f0,f3,f5,f6,f13,f14,rfl,hj1⟩
  refine wM ?_
  simp only [l73_1,r73_6,SS,reduceCtorEq,reduceIte,qQ,f5,f6]
  refine ⟨fun hlt3=>?_,fun hge3=>?_⟩
  ·obtain ⟨m2,rfl⟩:∃m',m2=m'+1:=⟨m2-1,by omega⟩
   obtain ⟨b2,hs2,q1,q2⟩:=qjc hj1
   have t2:=qrk hB hs hL hi (show j<n by omega) hs2
   have c2:qX [.vec rows n c,rowV ds,.int .i64 (i:Nat),.int .i64 (j:Nat)]=true:=by
    simp only [qX,yY] at c1 ⊢
    exact ⟨c1.1,rfl,rfl,rfl,trivial⟩
   have w6:=wS1 j (by omega)
   cases b2 with
   | false=>
    have hb1:=q1 rfl
    subst hb1
    have hb0:=k1 rfl
    subst hb0
    simp only [r73_7,SS,reduceCtorEq,reduceIte,qQ,f0,f3,f5,f6]
    refine zaa t2 ?_ c2
    simp only [r73_8,SS,fC,reduceIte,qQ]
    exact ⟨.inl trivial,_,rfl,.drop _ _ rfl (by intro i cs h;omega)⟩
   | true=>
    simp only [r73_7,SS,reduceCtorEq,reduceIte,qQ,f0,f3,f5,f6]
    refine zaa t2 ?_ c2
    simp only [r73_9,SS,fC,reduceIte,qQ,f6,w6]
    refine ⟨m2,_,_,by omega,⟨j+1,by omega,?_,?_,?_,?_,?_,?_,rfl,q2 rfl⟩,.refl⟩<;>simp only [UU,qQ,reduceIte, *]
  ·have hm2:m2=0:=by omega
   subst hm2
   simp only [redJ,xC] at hj1
   subst hj1
   rcases qM i with h0 | h0
   ·have d0:decide ((0:Int)<(i:Nat))=false:=decide_eq_false (by omega)
    simp only [r73_10,r73_12,SS,fC,reduceCtorEq,reduceIte,qQ,f0,f3,f5,f14,d0,w5]
    refine ⟨m,_,_,by omega,⟨i+1,by omega,?_,?_,?_,?_,rfl,k2 rfl h0⟩,.refl⟩<;>simp only [UU,qQ,reduceIte, *]
   ·have d0:decide ((0:Int)<(i:Nat))=true:=decide_eq_true (by omega)
    obtain ⟨b2,hl2,q1,q2⟩:=k3 rfl h0
    have t3:=qho hB hs hL h0 hi hl2
    have c3:qX [.vec rows n c,rowV ds,.int .i64 (i:Nat)]=true:=by
     simp only [qX,yY] at c1 ⊢
     exact ⟨c1.1,rfl,rfl,trivial⟩
    cases b2 with
    | false=>
     have hb0:=q1 rfl
     subst hb0
     simp only [r73_10,SS,fC,reduceCtorEq,reduceIte,qQ,f0,f3,f5,d0]
     refine zaa t3 ?_ c3
     simp only [r73_11,SS,fC,reduceIte,qQ]
     exact ⟨.inl trivial,_,rfl,.drop _ _ rfl (by intro i cs h;omega)⟩
    | true=>
     simp only [r73_10,SS,fC,reduceCtorEq,reduceIte,qQ,f0,f3,f5,d0]
     refine zaa t3 ?_ c3
     simp only [r73_12,SS,fC,reduceIte,qQ,f14,w5]
     refine ⟨m,_,_,by omega,⟨i+1,by omega,?_,?_,?_,?_,rfl,q2 rfl⟩,.refl⟩<;>simp only [UU,qQ,reduceIte, *]
 ·have hm:m=0:=by omega
  subst hm
  simp only [redI,xC] at hi0
  subst hi0
  simp only [r73_13,SS]
  exact ⟨.inl trivial,_,rfl,.drop _ _ rfl (by intro i cs h;omega)⟩
open Go.Det
theorem qdc {B n N A0:Nat} {M:List (List Int)} {a:AV} (hB:DivB B) (h:ImV M a) (hS:Shp n M) (hn:1<=n/\n<=8) (hnN:n<=N) (hF:FitN N B A0) (hb:Bnd A0 M) {b:Bool} (hr:b=true↔Red n (rowF M)):
  Rt 29 [a] [] (.bool b) []:=by
 have hlt:=hF.lt
 have hBB:=hB.1
 have hA:A0<BIG:=by
  have:=(hF.all (k:=0) (by omega)).1
  have e:bndS A0 0=A0:=rfl
  omega
 have hsq:=zsh hS hn hb hA
 have t0:=znv h (n:=n) (by omega) (by rw [hS.len];omega) (fun i hi=>hS.row i (by rw [hS.len] at hi;exact hi))
 obtain ⟨ds,hds,hdf⟩:=zmf hF hb n hnN
 have hds':zjt B M=some ds:=by unfold zjt;rw [hS.len];exact hds
 obtain ⟨d0,hd0,hd0f⟩:=zry (B:=B) hF.one (fun k hk=>(hF.all (k:=k) (by omega)).2) hS hb
 have hd0B:d0.natAbs<B:=by have:=(hF.all hnN).1;omega
 obtain ⟨br,hbr⟩:=qvk hF hb hdf n 0 (by omega)
 have t1:=znu hB hsq hds'
 have t2:=qrj hB hsq hd0 hd0B
 have t3:=qpk hB hsq hds' hbr
 have hcl:=hsq.closed
 have hiff:(valZ M ds=0/\d0<=10000/\br=true)↔b=true:=by
  rw [hr]
  constructor
  ·rintro ⟨h1,h2,h3⟩
   exact qve hS hn.1 hn.2 hds hd0 ⟨h1,h2,br,hbr,h3⟩
  ·intro hR
   obtain ⟨h1,h2,h3⟩:=qvf hS hds hd0 hR
   exact ⟨h1,h2,h3 br hbr⟩
 have hca:a.closed=true:=h.closed
 have c1:qX [a]=true:=by simp only [qX,hca,qC]
 have c2:qX [matC M]=true:=by simp only [qX,hcl,qC]
 refine oF o29 ?_
 simp only [c29,r29_0,r29_1,SS,reduceCtorEq,reduceIte]
 refine zaa t0 ?_ c1
 simp only [SS,reduceIte,qQ,qV,qW]
 simp only [r29_2,SS,fC,reduceIte,qQ]
 refine zaa t1 ?_ c2
 simp only [SS,fC,reduceIte,qQ]
 refine ⟨fun h1=>?_,fun h1=>?_⟩
 ·refine zaa t2 ?_ c2
  simp only [SS,fC,reduceIte,qQ]
  refine ⟨fun h2=>?_,fun h2=>?_⟩
  ·refine zaa t3 ?_ c2
   simp only [SS,reduceIte,qQ]
   have hbb:b=br:=by
    cases br with
    | true=>exact hiff.1 ⟨h1,h2,rfl⟩
    | false=>
     cases b with
     | false=>rfl
     | true=>exact absurd (hiff.2 rfl).2.2 (by simp)
   subst hbb
   exact ⟨.inl trivial,_,rfl,.drop _ _ rfl (by intro i cs h;omega)⟩
  ·have d2:decide (d0<=10000)=false:=decide_eq_false h2
   have hbb:b=false:=by
    cases b with
    | false=>rfl
    | true=>exact absurd (hiff.2 rfl).2.1 h2
   subst hbb
   simp only [d2]
   exact ⟨.inl trivial,_,rfl,.drop _ _ rfl (by intro i cs h;omega)⟩
 ·have d1:decide (valZ M ds=0)=false:=decide_eq_false h1
  have hbb:b=false:=by
   cases b with
   | false=>rfl
   | true=>exact absurd (hiff.2 rfl).1 h1
  subst hbb
  simp only [d1]
  exact ⟨.inl trivial,_,rfl,.drop _ _ rfl (by intro i cs h;omega)⟩
def zit (M:List (List Int)):Prop:=1<=M.length/\M.length<=8/\Shp M.length M/\∀i j,i<M.length->j<M.length->ent M i j=ent M j i/\ -262144<ent M i j/\ent M i j<262144
theorem qrs {M:List (List Int)} {a:AV} (h:ImV M a) (h62:M.length<4611686018427387904) (hr62:∀i,i<M.length->(M.getD i []).length<4611686018427387904) {b:Bool} (hb:b=true↔zit M):Rt 136 [a] [] (.bool b) []:=by
 have hf:=h.fit
 obtain ⟨rows,c,rfl,hl,hr⟩:=h.val
 have no:¬zit M->b=false:=by
  intro hn
  cases b with
  | false=>rfl
  | true=>exact absurd (hb.1 rfl) hn
 refine oF o136 ?_
 by_cases h1:M.length<1\/8<M.length
 ·have hbf:=no (fun hS=>by have:=hS.1;have:=hS.2.1;omega)
  subst hbf
  by_cases h2:M.length<1
  ·have d1:decide ((M.length:Int)<1)=true:=decide_eq_true (by omega)
   simp only [c136,r136_0,r136_1,r136_2,SS,fC,reduceCtorEq,reduceIte,qQ,d1]
   simp only [r136_3,SS]
   exact ⟨.inl trivial,_,rfl,.drop _ _ rfl (by intro i cs h;omega)⟩
  ·have d1:decide ((M.length:Int)<1)=false:=decide_eq_false (by omega)
   have d2:decide ((8:Int)<(M.length:Nat))=true:=decide_eq_true (by omega)
   simp only [c136,r136_0,r136_1,r136_2,SS,fC,reduceCtorEq,reduceIte,qQ,d1,d2]
   simp only [r136_3,SS]
   exact ⟨.inl trivial,_,rfl,.drop _ _ rfl (by intro i cs h;omega)⟩
 have d1:decide ((M.length:Int)<1)=false:=decide_eq_false (by omega)
 have d2:decide ((8:Int)<(M.length:Nat))=false:=decide_eq_false (by omega)
 simp only [c136,r136_0,r136_1,r136_2,SS,fC,reduceCtorEq,reduceIte,qQ,d1,d2]
 simp only [r136_4,SS,reduceCtorEq,reduceIte,qQ]
 refine zai (fun k E H=>∃i,i+k=M.length/\E 0= .vec rows M.length c/\E 3= .int .i64 (M.length:Nat)/\E 18= .vec rows M.length c/\E 19= .int .i64 (M.length:Nat)/\E 20= .int .i64 (i:Nat)/\H=[]/\∀s,s<i->(M.getD s []).length=M.length) (n:=M.length)
  ⟨0,by omega,by simp only [UU,qQ],by simp only [UU,qQ,reduceIte],by simp only [UU,qQ,reduceIte],by simp only [UU,qQ,reduceIte],by simp only [UU,qQ,reduceIte];rfl,rfl,fun s hs=>absurd hs (by omega)⟩ ?_
 rintro k E H ⟨i,hik,e0,e3,e18,e19,e20,rfl,hsh⟩
 refine wM ?_
 simp only [l136_0,r136_5,SS,reduceCtorEq,reduceIte,e19,e20]
 refine ⟨fun hlt=>?_,fun hge=>?_⟩
 ·obtain ⟨k,rfl⟩:∃k',k=k'+1:=⟨k-1,by omega⟩
  have hi:i<M.length:=by omega
  obtain ⟨ci,hei⟩:=hr i hi
  have hri:=hr62 i hi
  have w5:=wS1 i (by omega)
  simp only [r136_6,r136_7,SS,fC,reduceIte,qQ,e3,e18,e20,qK,hei,hl]
  refine ⟨⟨by omega,by omega⟩,by omega,fun hne=>?_,fun heq=>?_⟩
  ·have hbf:=no (fun hS=>hne (by rw [hS.2.2.1.row i hi]))
   subst hbf
   simp only [r136_8,SS]
   exact ⟨.inl trivial,_,rfl,.drop _ _ rfl (by intro i cs h;omega)⟩
  ·have heq:(M.getD i []).length=M.length:=by
    have:=Decidable.not_not.1 heq
    omega
   simp only [r136_9,SS,reduceIte,qQ,e20,w5]
   refine ⟨k,_,_,by omega,⟨i+1,by omega,?_,?_,?_,?_,?_,rfl,fun s hs=>?_⟩,.refl⟩
   ·simp only [UU,qQ, *]
   ·simp only [UU,qQ, *]
   ·simp only [UU,qQ, *]
   ·simp only [UU,qQ, *]
   ·simp only [UU,qQ,reduceIte, *]
   ·rcases (by omega:s<i\/s=i) with e | e
    ·exact hsh s e
    ·rw [e];exact heq
 ·have hin:i=M.length:=by omega
  subst hin
  clear hge e20 e19 e18 hik k
  have hS:Shp M.length M:=⟨rfl,hsh⟩
  simp only [r136_10,SS,reduceCtorEq,reduceIte,qQ,e0]
  refine zai (fun k E H=>∃i,i+k=M.length/\E 0= .vec rows M.length c/\E 29= .vec rows M.length c/\E 30= .int .i64 (M.length:Nat)/\E 31= .int .i64 (i:Nat)/\H=[]/\∀s t,s<i->t<M.length->ent M s t=ent M t s/\ -262144<ent M s t/\ent M s t<262144) (n:=M.length)
   ⟨0,by omega,by simp only [UU,qQ,e0],by simp only [UU,qQ,reduceIte],by simp only [UU,qQ,reduceIte],by simp only [UU,qQ,reduceIte];rfl,rfl,fun s t hs=>absurd hs (by omega)⟩ ?_
  clear e0 e3 hsh E
  rintro k E H ⟨i,hik,e0,e29,e30,e31,rfl,hP⟩
  refine wM ?_
  simp only [l136_1,r136_11,SS,reduceCtorEq,reduceIte,e30,e31]
  refine ⟨fun hlt=>?_,fun hge=>?_⟩
  ·obtain ⟨k,rfl⟩:∃k',k=k'+1:=⟨k-1,by omega⟩
   have hi:i<M.length:=by omega
   obtain ⟨ci,hei⟩:=hr i hi
   have w5:=wS1 i (by omega)
   have hcol:=hS.row i hi
   simp only [r136_12,r136_13,SS,fC,reduceIte,qQ,e29,e31,qK,hei,hl,hcol]
   refine ⟨⟨by omega,by omega⟩,by omega,?_⟩
   refine zai (fun k2 E H=>∃j,j+k2=M.length/\E 0= .vec rows M.length c/\E 6= .int .i64 (i:Nat)/\E 29= .vec rows M.length c/\E 30= .int .i64 (M.length:Nat)/\E 31= .int .i64 (i:Nat)/\E 36= .vec (i64z (M.getD i [])) M.length ci/\E 37= .int .i64 (M.length:Nat)/\E 38= .int .i64 (j:Nat)/\H=[]/\∀t,t<j->ent M i t=ent M t i/\ -262144<ent M i t/\ent M i t<262144) (n:=M.length)
    ⟨0,by omega,by simp only [UU,qQ,e0],by simp only [UU,qQ,reduceIte],by simp only [UU,qQ,e29],by simp only [UU,qQ,e30],by simp only [UU,qQ,e31],by simp only [UU,qQ,reduceIte],by simp only [UU,qQ,reduceIte],by simp only [UU,qQ,reduceIte];rfl,rfl,fun t ht=>absurd ht (by omega)⟩ ?_
   clear e0 e29 e30 e31 E
   rintro k2 E H ⟨j,hjk,e0,e6,e29,e30,e31,e36,e37,e38,rfl,hP2⟩
   refine wM ?_
   simp only [l136_2,r136_14,SS,reduceCtorEq,reduceIte,qQ,e37,e38]
   refine ⟨fun hlt2=>?_,fun hge2=>?_⟩
   ·obtain ⟨k2,rfl⟩:∃k',k2=k'+1:=⟨k2-1,by omega⟩
    have hj:j<M.length:=by omega
    obtain ⟨cj,hej⟩:=hr j hj
    have hcj:=hS.row j hj
    have w6:=wS1 j (by omega)
    have g1:(i64z (M.getD i [])).getD j .junk= .int .i64 (ent M i j):=zbq _ j (by omega) _
    have g2:(i64z (M.getD j [])).getD i .junk= .int .i64 (ent M j i):=zbq _ i (by omega) _
    simp only [r136_15,r136_16,SS,fC,reduceCtorEq,reduceIte,qQ,e0,e6,e36,e38,qK,hej,hl,hcj,zav,hcol,g1,g2]
    have bad:¬(ent M i j=ent M j i/\ -262144<ent M i j/\ent M i j<262144)->b=false:=fun hn=>no fun hSm=>hn (hSm.2.2.2 i j hi hj)
    refine ⟨⟨by omega,by omega⟩,by omega,⟨by omega,by omega⟩,by omega,⟨by omega,by omega⟩,by omega,fun h1=>⟨fun h2=>⟨fun h3=>?_,fun h3=>?_⟩,fun h2=>?_⟩,fun h1=>?_⟩
    ·obtain rfl:=bad (by omega)
     simp only [r136_17,SS]
     exact ⟨.inl trivial,_,rfl,.drop _ _ rfl (by intro i cs h;omega)⟩
    ·simp only [r136_18,SS,reduceIte,qQ,e38,w6]
     refine ⟨k2,_,_,by omega,⟨j+1,by omega,?_,?_,?_,?_,?_,?_,?_,?_,rfl,fun t ht=>?_⟩,.refl⟩
     ·simp only [UU,qQ, *]
     ·simp only [UU,qQ, *]
     ·simp only [UU,qQ, *]
     ·simp only [UU,qQ, *]
     ·simp only [UU,qQ, *]
     ·simp only [UU,qQ, *]
     ·simp only [UU,qQ, *]
     ·simp only [UU,qQ,reduceIte, *]
     ·rcases (by omega:t<j\/t=j) with e | e
      ·exact hP2 t e
      ·rw [e];exact ⟨Decidable.not_not.1 h1,by omega,by omega⟩
    ·obtain rfl:=bad (by omega)
     simp only [r136_17,SS]
     exact ⟨.inl trivial,_,rfl,.drop _ _ rfl (by intro i cs h;omega)⟩
    ·obtain rfl:=bad (fun e=>h1 e.1)
     simp only [r136_17,SS]
     exact ⟨.inl trivial,_,rfl,.drop _ _ rfl (by intro i cs h;omega)⟩
   ·have hj:j=M.length:=by omega
    subst hj
    simp only [r136_19,SS,reduceIte,qQ,e31,w5]
    refine ⟨k,_,_,by omega,⟨i+1,by omega,?_,?_,?_,?_,rfl,fun s t hs ht=>?_⟩,.refl⟩
    ·simp only [UU,qQ, *]
    ·simp only [UU,qQ, *]
    ·simp only [UU,qQ, *]
    ·simp only [UU,qQ,reduceIte, *]
    ·rcases (by omega:s<i\/s=i) with e | e
     ·exact hP s t e ht
     ·rw [e];exact hP2 t ht
  ·have hin:i=M.length:=by omega
   subst hin
   obtain rfl:=hb.2 ⟨by omega,by omega,hS,fun s t hs ht=>hP s t hs ht⟩
   simp only [r136_20,SS]
   exact ⟨.inl trivial,_,rfl,.drop _ _ rfl (by intro i cs h;omega)⟩
def qag (n:Nat) (M:List (List Int)):Prop:=0<ent M 0 0/\ent M 0 0<65536/\∀i,0<i->i<n->2*ent M i 0<=ent M 0 0/\ -(2*ent M i 0)<=ent M 0 0
theorem qrt {n:Nat} {M:List (List Int)} {a:AV} (h:ImV M a) (hS:Shp n M) (hn:1<=n/\n<=8) (hbd:∀i,i<n-> -1099511627776<=ent M i 0/\ent M i 0<=1099511627776) {b:Bool} (hb:b=true↔qag n M):Rt 137 [a] [] (.bool b) []:=by
 obtain ⟨rows,c,rfl,hl,hr⟩:=h.val
 have no:¬qag n M->b=false:=by
  intro hn
  cases b with
  | false=>rfl
  | true=>exact absurd (hb.1 rfl) hn
 have hlen:=hS.len
 obtain ⟨c0,he0⟩:=hr 0 (by omega)
 have hc0:=hS.row 0 (by omega)
 have g0:(i64z (M.getD 0 [])).getD 0 .junk= .int .i64 (ent M 0 0):=zbq _ 0 (by omega) _
 have hb0:=hbd 0 (by omega)
 refine oF o137 ?_
 simp only [c137,r137_0,r137_1,SS,fC,reduceCtorEq,reduceIte,qQ,he0,hc0,hl,hlen,g0,zav,qN]
 refine ⟨⟨by omega,by omega⟩,by omega,⟨by omega,by omega⟩,by omega,?_⟩
 simp only [r137_2,SS,fC,reduceIte,qQ]
 refine ⟨fun h1=>⟨fun h2=>?_,fun h2=>?_⟩,fun h1=>?_⟩
 ·obtain rfl:=no (fun hp=>by have:=hp.2.1;omega)
  simp only [r137_3,SS]
  exact ⟨.inl trivial,_,rfl,.drop _ _ rfl (by intro i cs h;omega)⟩
 ·simp only [r137_4,SS,reduceCtorEq,reduceIte,qQ,hl,hlen]
  have t1:Int.toNat 1=1:=rfl
  have htail:List.take (n-1) (List.drop 1 rows)=rows.drop 1:=qL (by rw [yU];omega)
  have hdl:(rows.drop 1).length=n-1:=by rw [yU];omega
  have hdg:∀i,(rows.drop 1).getD i .junk=rows.getD (i+1) .junk:=by
   intro i
   rw [qZ,List.getElem?_drop,qZ,Nat.add_comm]
  simp only [t1,htail]
  refine ⟨by omega,⟨by omega,by omega,by omega⟩,?_⟩
  refine zai (fun k E H=>∃i,i+k=n-1/\E 3= .int .i64 (ent M 0 0)/\E 18= .vec (rows.drop 1) (n-1) (zdv 1 c)/\E 19= .int .i64 ((n-1:Nat):Int)/\E 20= .int .i64 (i:Nat)/\H=[]/\∀s,0<s->s<i+1->2*ent M s 0<=ent M 0 0/\ -(2*ent M s 0)<=ent M 0 0) (n:=n-1)
   ⟨0,by omega,by simp only [UU,qQ,reduceIte],by simp only [UU,qQ,reduceIte],by simp only [UU,qQ,reduceIte],by simp only [UU,qQ,reduceIte];rfl,rfl,fun s hs hs2=>absurd hs2 (by omega)⟩ ?_
  rintro k E H ⟨i,hik,e3,e18,e19,e20,rfl,hP⟩
  refine wM ?_
  simp only [l137_0,r137_5,SS,reduceCtorEq,reduceIte,e19,e20]
  refine ⟨fun hlt=>?_,fun hge=>?_⟩
  ·obtain ⟨k,rfl⟩:∃k',k=k'+1:=⟨k-1,by omega⟩
   have hi:i+1<n:=by omega
   obtain ⟨ci,hei⟩:=hr (i+1) (by omega)
   have hci:=hS.row (i+1) hi
   have gi:(i64z (M.getD (i+1) [])).getD 0 .junk= .int .i64 (ent M (i+1) 0):=zbq _ 0 (by omega) _
   have hbi:=hbd (i+1) hi
   have w5:=wS1 i (by omega)
   have w6:IntKind.i64.wrap (2*ent M (i+1) 0)=2*ent M (i+1) 0:=w64 (by omega) (by omega)
   have w7:IntKind.i64.wrap (-2*ent M (i+1) 0)= -2*ent M (i+1) 0:=w64 (by omega) (by omega)
   have bad:¬(2*ent M (i+1) 0<=ent M 0 0/\ -(2*ent M (i+1) 0)<=ent M 0 0)->b=false:=fun hne=>no fun hp=>hne (hp.2.2 (i+1) (by omega) hi)
   simp only [r137_6,r137_7,SS,fC,reduceIte,qQ,e3,e18,e20,qK,hdg,hdl,hei,hci,gi,zav,qN,w6,w7]
   refine ⟨⟨by omega,by omega⟩,by omega,⟨by omega,by omega⟩,by omega,fun h3=>⟨⟨by omega,by omega⟩,by omega,fun h4=>?_,fun h4=>?_⟩,fun h3=>?_⟩
   ·obtain rfl:=bad (by omega)
    simp only [r137_8,SS]
    exact ⟨.inl trivial,_,rfl,.drop _ _ rfl (by intro i cs h;omega)⟩
   ·simp only [r137_9,SS,reduceIte,qQ,e20,w5]
    refine ⟨k,_,_,by omega,⟨i+1,by omega,?_,?_,?_,?_,rfl,fun s h0 hs=>?_⟩,.refl⟩
    ·simp only [UU,qQ, *]
    ·simp only [UU,qQ, *]
    ·simp only [UU,qQ, *]
    ·simp only [UU,qQ,reduceIte, *]
    ·rcases (by omega:s<i+1\/s=i+1) with e | e
     ·exact hP s h0 e
     ·rw [e];exact ⟨by omega,by omega⟩
   ·obtain rfl:=bad (by omega)
    simp only [r137_8,SS]
    exact ⟨.inl trivial,_,rfl,.drop _ _ rfl (by intro i cs h;omega)⟩
  ·have hin:i=n-1:=by omega
   subst hin
   obtain rfl:=hb.2 ⟨by omega,by omega,fun s h0 hs=>hP s h0 (by omega)⟩
   simp only [r137_10,SS]
   exact ⟨.inl trivial,_,rfl,.drop _ _ rfl (by intro i cs h;omega)⟩
 ·obtain rfl:=no (fun hp=>by have:=hp.1;omega)
  simp only [r137_3,SS]
  exact ⟨.inl trivial,_,rfl,.drop _ _ rfl (by intro i cs h;omega)⟩
def zbg (n k:Nat) (M:List (List Int)):List (List Int):=mkM (n-k) fun i j=>stg (rowF M) k (k+i) (k+j)
theorem zoj (n k:Nat) (M:List (List Int)):Shp (n-k) (zbg n k M):=zcg _ _
theorem zcn {n k i j:Nat} {M:List (List Int)} (hi:i<n-k) (hj:j<n-k):ent (zbg n k M) i j=stg (rowF M) k (k+i) (k+j):=zby hi hj
theorem qdd {n:Nat} {M:List (List Int)} (h:Shp n M):zbg n 0 M=M:=by
 refine zsc (n:=n) (zoj n 0 M) h fun i j hi hj=>?_
 rw [zcn (by omega) (by omega),zdl,xH,xH]
 rfl
section
variable {m:Nat} {S T:List (List Int)} {sr:List AV} {sc:Option Nat} {d last:Int}
structure StF (m:Nat) (S T:List (List Int)) (sr:List AV) (sc:Option Nat) (d last:Int):Prop where
 m2:m+1<=8
 shS:Shp (m+1) S
 shT:Shp m T
 val:∀i,i<m+1->∃c',sr.getD i .junk= .vec (i64z (S.getD i [])) (m+1) c'
 len:sr.length=m+1
 de:d=ent S 0 0
 db:0<d/\d<65536
 last0:last≠0
 big:∀i j,i<m+1->j<m+1-> -34359738368<=ent S i j/\ent S i j<=34359738368
 low:∀i,i<m+1-> -65536<=ent S i 0/\ent S i 0<=65536/\ -65536<=ent S 0 i/\ent S 0 i<=65536
 quo:∀i j,i<m->j<m->Int.tdiv (d*ent S (i+1) (j+1)-ent S (i+1) 0*ent S 0 (j+1)) last=ent T i j
theorem zhl {x y:Int} {a b:Int} (h1:x<=a) (h2: -a<=x) (h3:y<=b) (h4: -b<=y):x*y<=a*b/\ -(a*b)<=x*y:=zny h1 h2 h3 h4
theorem qjd (hF:StF m S T sr sc d last) {i:Nat} (hi:i<m) {rows:List (List Int)} {ci:Option Nat} (hrl:rows.length=i+1) (hr0:(rows.getD i []).length=m) {E:Env} {Q:Post}
  (e3:E 3= .vec sr (m+1) sc) (e4:E 4= .int .i64 last) (e5:E 5= .int .i64 d) (e6:E 6= .sl 0 0 m 1 (some m)) (e7:E 7= .int .i64 (i:Nat)) (e8:E 8= .vec (i64z (S.getD (i+1) [])) (m+1) ci) (e31:E 31= .int .i64 (m:Nat)) (e32:E 32= .int .i64 (i:Nat))
  (e47:E 47= .int .i64 (m:Nat)) (e48:E 48= .int .i64 0)
  (hQ:∀E' r,r.length=m->(∀j,j<m->r.getD j 0=ent T i j)->E' 3= .vec sr (m+1) sc->E' 4= .int .i64 last->E' 5= .int .i64 d->E' 6= .sl 0 0 m 1 (some m)->E' 31= .int .i64 (m:Nat)->E' 32= .int .i64 (i:Nat)->Q (.exit 4) E' (bH m m (rows.set i r))):
  Wg 0 118 (.loop l70_2) E (bH m m rows) Q:=by
 refine zai (fun k E H=>∃j r,j+k=m/\r.length=m/\(∀t,t<j->r.getD t 0=ent T i t)/\H=bH m m (rows.set i r)/\E 3= .vec sr (m+1) sc/\E 4= .int .i64 last/\E 5= .int .i64 d/\E 6= .sl 0 0 m 1 (some m)/\E 7= .int .i64 (i:Nat)/\E 8= .vec (i64z (S.getD (i+1) [])) (m+1) ci/\
  E 31= .int .i64 (m:Nat)/\E 32= .int .i64 (i:Nat)/\E 47= .int .i64 (m:Nat)/\E 48= .int .i64 (j:Nat)) (n:=m)
  ⟨0,rows.getD i [],by omega,hr0,fun t ht=>absurd ht (by omega),?_,e3,e4,e5,e6,e7,e8,e31,e32,e47,e48⟩ ?_
 ·congr 1
  refine xX (by simp) fun t h1 h2=>?_
  rw [yA]
  split
  ·rename_i e;subst e;rw [qZ,qU h1];rfl
  ·rfl
 clear e3 e4 e5 e6 e7 e8 e31 e32 e47 e48 E
 rintro k E H ⟨j,r,hjk,hrm,hr,rfl,e3,e4,e5,e6,e7,e8,e31,e32,e47,e48⟩
 refine wM ?_
 simp only [l70_2,r70_16,SS,reduceIte,e47,e48]
 refine ⟨fun hlt=>?_,fun hge=>?_⟩
 ·obtain ⟨k,rfl⟩:∃k',k=k'+1:=⟨k-1,by omega⟩
  have hj:j<m:=by omega
  have hm2:=hF.m2
  obtain ⟨c0,h0⟩:=hF.val 0 (by omega)
  have hl:=hF.len
  have l0:=hF.shS.row 0 (by omega)
  have l1:=hF.shS.row (i+1) (by omega)
  have g1:(i64z (S.getD (i+1) [])).getD (j+1) .junk= .int .i64 (ent S (i+1) (j+1)):=zbq _ (j+1) (by omega) _
  have g2:(i64z (S.getD (i+1) [])).getD 0 .junk= .int .i64 (ent S (i+1) 0):=zbq _ 0 (by omega) _
  have g3:(i64z (S.getD 0 [])).getD (j+1) .junk= .int .i64 (ent S 0 (j+1)):=zbq _ (j+1) (by omega) _
  have w5:=wS1 j (by omega)
  have hset:(rows.set i r).length=i+1:=by simp [hrl]
  have gr:=zfi (N:=m) (n:=m) (i:=i) (rows:=rows.set i r) (by omega)
  have gri:(rows.set i r).getD i []=r:=by rw [qZ,xI (by omega)];rfl
  rw [gri] at gr
  have go:getB (bH m m (rows.set i r)) 0=some (outS m m (i+1)):=by rw [zds,hset]
  have gol:=zej (N:=m) (n:=m) (i:=i+1) (by omega)
  have gog:=zek (N:=m) (n:=m) (i:=i+1) (k:=i) (by omega)
  obtain ⟨b1,b2⟩:=hF.big (i+1) (j+1) (by omega) (by omega)
  obtain ⟨b3,b4,_,_⟩:=hF.low (i+1) (by omega)
  obtain ⟨_,_,b5,b6⟩:=hF.low (j+1) (by omega)
  obtain ⟨d1,d2⟩:=hF.db
  have p1:=zhl (x:=d) (y:=ent S (i+1) (j+1)) (a:=65536) (b:=34359738368) (by omega) (by omega) b2 b1
  have p2:=zhl (x:=ent S (i+1) 0) (y:=ent S 0 (j+1)) (a:=65536) (b:=65536) b4 b3 b6 b5
  have hq:=hF.quo i j hi hj
  have w1:IntKind.i64.wrap (d*ent S (i+1) (j+1))=d*ent S (i+1) (j+1):=w64 (by omega) (by omega)
  have w2:IntKind.i64.wrap (ent S (i+1) 0*ent S 0 (j+1))=ent S (i+1) 0*ent S 0 (j+1):=w64 (by omega) (by omega)
  have w3:IntKind.i64.wrap (d*ent S (i+1) (j+1)-ent S (i+1) 0*ent S 0 (j+1))=d*ent S (i+1) (j+1)-ent S (i+1) 0*ent S 0 (j+1):=w64 (by omega) (by omega)
  have w4:IntKind.i64.wrap (ent T i j)=ent T i j:=by
   have h1:(ent T i j).natAbs=(d*ent S (i+1) (j+1)-ent S (i+1) 0*ent S 0 (j+1)).natAbs/last.natAbs:=by rw [<-hq];exact Int.natAbs_tdiv _ _
   have h2:=xL (d*ent S (i+1) (j+1)-ent S (i+1) 0*ent S 0 (j+1)).natAbs last.natAbs
   exact w64 (by omega) (by omega)
  simp only [r70_17,r70_18,SS,fC,reduceIte,qQ,qA,e3,e4,e5,e6,e7,e8,e48,qK,qN,go,gol,gog,h0,hl,l0,l1,g1,g2,g3,zav,w5,w1,w2,w3,hq,w4,gr,hrm,zdn]
  have hl0:=hF.last0
  refine ⟨⟨by omega,by omega⟩,by omega,⟨by omega,by omega⟩,by omega,⟨by omega,by omega⟩,⟨by omega,by omega⟩,⟨by omega,by omega⟩,by omega,hl0,⟨by omega,by omega⟩,by omega,rfl,?_⟩
  simp only [r70_19,SS,reduceIte,qQ,e48,w5,zgq]
  refine ⟨k,_,_,by omega,⟨j+1,r.set j (ent T i j),by omega,by simp [hrm],fun t ht=>?_,?_,?_,?_,?_,?_,?_,?_,?_,?_,?_,?_⟩,.refl⟩
  ·rw [qZ]
   rcases (by omega:t<j\/t=j) with e | e
   ·rw [List.getElem?_set_ne (by omega),<-qZ];exact hr t e
   ·rw [e,xI (by omega)];rfl
  ·rw [List.set_set]
  all_goals simp only [UU,qQ,reduceIte, *]
 ·have hjm:j=m:=by omega
  subst hjm
  exact hQ _ r hrm hr (by simp only [UU,qQ,e3]) (by simp only [UU,qQ,e4]) (by simp only [UU,qQ,e5]) (by simp only [UU,qQ,e6]) (by simp only [UU,qQ,e31]) (by simp only [UU,qQ,e32])
theorem qje {i:Nat} (hi:i<T.length):T.take i++[T.getD i []]=T.take (i+1):=by
 rw [yZ,qZ,qU hi];rfl
theorem qde (hF:StF m S T sr sc d last) {E:Env} {Q:Post}
  (e3:E 3= .vec sr (m+1) sc) (e4:E 4= .int .i64 last) (e5:E 5= .int .i64 d) (e6:E 6= .sl 0 0 m 1 (some m)) (e31:E 31= .int .i64 (m:Nat)) (e32:E 32= .int .i64 0)
  (hQ:∀E',E' 3= .vec sr (m+1) sc->E' 4= .int .i64 last->E' 5= .int .i64 d->E' 6= .sl 0 0 m 1 (some m)->Q (.exit 2) E' (bH m m T)):
  Wg 0 118 (.loop l70_1) E (bH m m []) Q:=by
 refine zai (fun k E H=>∃i,i+k=m/\H=bH m m (T.take i)/\E 3= .vec sr (m+1) sc/\E 4= .int .i64 last/\E 5= .int .i64 d/\E 6= .sl 0 0 m 1 (some m)/\E 31= .int .i64 (m:Nat)/\E 32= .int .i64 (i:Nat)) (n:=m)
  ⟨0,by omega,rfl,e3,e4,e5,e6,e31,e32⟩ ?_
 clear e3 e4 e5 e6 e31 e32 E
 rintro k E H ⟨i,hik,rfl,e3,e4,e5,e6,e31,e32⟩
 refine wM ?_
 simp only [l70_1,r70_11,SS,reduceIte,e31,e32]
 refine ⟨fun hlt=>?_,fun hge=>?_⟩
 ·obtain ⟨k,rfl⟩:∃k',k=k'+1:=⟨k-1,by omega⟩
  have hi:i<m:=by omega
  have hm2:=hF.m2
  have hTl:=hF.shT.len
  obtain ⟨ci,hei⟩:=hF.val (i+1) (by omega)
  have hl:=hF.len
  have htl:(T.take i).length=i:=by rw [yB];omega
  have w5:=wS1 i (by omega)
  have hbl:(bH m m (T.take i)).length=i+1:=by rw [zzx,htl]
  have go:getB (bH m m (T.take i)++[some (i64z (List.replicate m 0))]) 0=some (outS m m i):=by
   have:getB (bH m m (T.take i)) 0=some (outS m m i):=by rw [zds,htl]
   exact this
  have gol:=zej (N:=m) (n:=m) (i:=i) (by omega)
  have hnew:=zzy (N:=m) (n:=m) (rows:=T.take i) (List.replicate m 0) (by omega)
  rw [htl] at hnew
  simp only [r70_12,r70_13,r70_14,SS,fC,reduceIte,qQ,qA,e3,e6,e32,qK,w5,hei,hl,hbl,zke,go,gol]
  refine ⟨⟨by omega,by omega⟩,by omega,by decide,⟨by omega,by omega,by omega,by omega⟩,⟨by omega,by omega⟩,by omega,?_⟩
  rw [hnew]
  simp only [r70_15,SS,reduceIte,qQ,e6]
  refine qjd hF hi (ci:=ci) (rows:=T.take i++[List.replicate m 0]) (by simp;omega) ?_ (by simp only [UU,qQ,e3]) (by simp only [UU,qQ,e4]) (by simp only [UU,qQ,e5]) (by simp only [UU,qQ,e6]) (by simp only [UU,qQ,reduceIte]) (by simp only [UU,qQ,reduceIte]) (by simp only [UU,qQ,e31]) (by simp only [UU,qQ,e32]) (by simp only [UU,qQ,reduceIte]) (by simp only [UU,qQ,reduceIte]) ?_
  ·rw [qZ,qE (by omega),htl,qI]
   simp
  intro E' r hrm hr f3 f4 f5 f6 f31 f32
  have er:r=T.getD i []:=by
   have hTi:=hF.shT.row i hi
   refine xX (by omega) fun t h1 h2=>?_
   have:=hr t (by omega)
   unfold ent at this
   rw [qZ,qU h1,qZ (l:=T.getD i []),qU h2] at this
   exact this
  have eset:(T.take i++[List.replicate m 0]).set i r=T.take (i+1):=by
   rw [qH _ _ (by omega),htl,qI,er]
   exact qje (by omega)
  rw [eset]
  simp only [r70_20,SS,reduceIte,qQ,f32,w5]
  refine ⟨k,_,_,by omega,⟨i+1,by omega,rfl,?_,?_,?_,?_,?_,?_⟩,.refl⟩
  all_goals simp only [UU,qQ,reduceIte, *]
 ·have him:i=m:=by omega
  have htl:T.take i=T:=qL (by rw [hF.shT.len];omega)
  rw [htl]
  exact hQ _ (by simp only [UU,qQ,e3]) (by simp only [UU,qQ,e4]) (by simp only [UU,qQ,e5]) (by simp only [UU,qQ,e6])
end
end Go.Proofs.YtpflahgcdgdkjaaGreatDoor
namespace Go.Det
open Nat renaming le_refl -> qG, lt_or_ge -> qS
open Int renaming mul_le_mul_of_nonneg_right -> xV
structure Part (n:Nat) (a:Nat->Row) (k:Nat):Prop where
 pos:∀t,t<k->0<lead a (t+1)
 lt:∀t,t<k->lead a (t+1)<65536
 sized:∀t i,t<k->i<n->t<i->2*stg a t i t<=lead a (t+1)/\ -(2*stg a t i t)<=lead a (t+1)
 lov:∀t,t<k->3*(lead a (t+1)*lead a (t+1))<=4*(lead a t*lead a (t+2)+stg a t (t+1) t*stg a t (t+1) t)
theorem Part.zero {n:Nat} {a:Nat->Row}:Part n a 0:=⟨fun _ h=>absurd h (by omega),fun _ h=>absurd h (by omega),fun _ _ h=>absurd h (by omega),fun _ h=>absurd h (by omega)⟩
theorem Part.pos' {n k:Nat} {a:Nat->Row} (h:Part n a k):∀t,t<=k->0<lead a t:=by
 intro t ht
 cases t with
 | zero=>rw [zax];decide
 | succ t=>exact h.pos t (by omega)
theorem Part.ne {n k:Nat} {a:Nat->Row} (h:Part n a k):∀t,t<=k->lead a t≠0:=fun t ht=>by have:=h.pos' t ht;omega
theorem Part.lt' {n k:Nat} {a:Nat->Row} (h:Part n a k):∀t,t<=k->lead a t<65536:=by
 intro t ht
 cases t with
 | zero=>rw [zax];decide
 | succ t=>exact h.lt t (by omega)
theorem Part.next {n k:Nat} {a:Nat->Row} (h:Part n a k) (h1:0<lead a (k+1)) (h2:lead a (k+1)<65536) (h3:∀i,i<n->k<i->2*stg a k i k<=lead a (k+1)/\ -(2*stg a k i k)<=lead a (k+1))
  (h4:3*(lead a (k+1)*lead a (k+1))<=4*(lead a k*lead a (k+2)+stg a k (k+1) k*stg a k (k+1) k)):Part n a (k+1):=by
 have sp:∀t,t<k+1->t<k\/t=k:=fun t ht=>by omega
 refine ⟨fun t ht=>?_,fun t ht=>?_,fun t i ht hi hti=>?_,fun t ht=>?_⟩
 ·rcases sp t ht with e | e
  ·exact h.pos t e
  ·rw [e];exact h1
 ·rcases sp t ht with e | e
  ·exact h.lt t e
  ·rw [e];exact h2
 ·rcases sp t ht with e | e
  ·exact h.sized t i e hi hti
  ·subst e;exact h3 i hi hti
 ·rcases sp t ht with e | e
  ·exact h.lov t e
  ·subst e;exact h4
theorem Part.red {n:Nat} {a:Nat->Row} (h1:1<=n) (h8:n<=8) (hs:∀i j,i<n->j<n->a i j=a j i) (h:Part n a (n-1)) (hp:0<lead a n) (hd:lead a n<=10000):Red n a:=by
 refine ⟨h1,h8,hs,fun k hk=>?_,hd,fun i j hi hj=>h.sized j i (by omega) hi hj,fun i h0 hi=>?_⟩
 ·rcases qS k (n-1) with e | e
  ·exact h.pos k e
  ·have:k+1=n:=by omega
   rw [this];exact hp
 ·have:=h.lov (i-1) (by omega)
  have e1:i-1+1=i:=by omega
  have e2:i-1+2=i+1:=by omega
  rw [e1,e2] at this
  exact this
theorem Part.entry {n:Nat} {a:Nat->Row} (hs:∀i j,i<n->j<n->a i j=a j i) (hb:∀i j,i<n->j<n->a i j<=262144/\ -262144<=a i j):∀k,k<n->Part n a k->∀i j,i<n->j<n->k<=i->k<=j->
  stg a k i j<=lead a k*(262144+16384*(k:Int))/\ -(lead a k*(262144+16384*(k:Int)))<=stg a k i j:=by
 intro k
 induction k with
 | zero=>
  intro _ _ i j hi hj _ _
  rw [zdl,zax]
  have:=hb i j hi hj
  omega
 | succ k ih=>
  intro hk h i j hi hj h1 h2
  have hpre:Part n a k:=⟨fun t ht=>h.pos t (by omega),fun t ht=>h.lt t (by omega),fun t i ht=>h.sized t i (by omega),fun t ht=>h.lov t (by omega)⟩
  obtain ⟨x1,x2⟩:=ih (by omega) hpre i j hi hj (by omega) (by omega)
  have hn:=hpre.ne
  have e:=zbp hn i j
  obtain ⟨u1,u2⟩:=h.sized k i (by omega) hi (by omega)
  obtain ⟨v1,v2⟩:=h.sized k j (by omega) hj (by omega)
  rw [zgl hs k (by omega) hn k j (by omega) hj (by omega) (by omega)] at e
  have p:=hpre.pos' k (qG _)
  have p1:=h.pos k (by omega)
  have q1:=h.lt k (by omega)
  have:=qzb (by omega) (by omega) (by omega) e x1 x2 u1 u2 v1 v2
  have c:(262144+16384*(k:Int)+16384)=262144+16384*((k+1:Nat):Int):=by omega
  rw [c] at this
  exact this
theorem Part.entry35 {n k:Nat} {a:Nat->Row} (h8:n<=8) (hs:∀i j,i<n->j<n->a i j=a j i) (hb:∀i j,i<n->j<n->a i j<=262144/\ -262144<=a i j) (hk:k<n) (h:Part n a k) {i j:Nat} (hi:i<n) (hj:j<n) (h1:k<=i) (h2:k<=j):
  stg a k i j<=34359738368/\ -34359738368<=stg a k i j:=by
 obtain ⟨e1,e2⟩:=Part.entry hs hb k hk h i j hi hj h1 h2
 have p:=h.pos' k (qG _)
 have q:=h.lt' k (qG _)
 have c:lead a k*(262144+16384*(k:Int))<=65536*524288:=by
  have m1:lead a k*(262144+16384*(k:Int))<=65536*(262144+16384*(k:Int)):=xV (by omega) (by omega)
  have m2:(65536:Int)*(262144+16384*(k:Int))<=65536*524288:=by omega
  omega
 omega
theorem Red.part {n:Nat} {a:Nat->Row} (h:Red n a) {k:Nat} (hk:k+1<n):0<lead a (k+1)/\lead a (k+1)<65536/\(∀i,i<n->k<i->2*stg a k i k<=lead a (k+1)/\ -(2*stg a k i k)<=lead a (k+1))/\
  3*(lead a (k+1)*lead a (k+1))<=4*(lead a k*lead a (k+2)+stg a k (k+1) k*stg a k (k+1) k):=by
 have:=h.minor (k:=k+1) (by omega)
 refine ⟨h.pos k (by omega),by omega,fun i hi hki=>h.sized i k hi hki,?_⟩
 have:=h.lov (k+1) (by omega) hk
 exact this
theorem qjf {n k:Nat} {a:Nat->Row} (h:Part n a k) (i j:Nat):Int.tdiv (lead a (k+1)*stg a k i j-stg a k i k*stg a k k j) (lead a k)=stg a (k+1) i j:=by
 rw [<-zbp h.ne i j,Int.mul_tdiv_cancel_left _ (h.ne k (qG _))]
end Go.Det
namespace Go.Proofs.YtpflahgcdgdkjaaGreatDoor
open Nat renaming reduceEqDiff -> qQ, reduceLeDiff -> qA, reduceAdd -> qB, le_refl -> qG, eq_zero_or_pos -> qM, zero_le -> xO
open Int renaming toNat_natCast -> qK, toNat_zero -> qN, mul_le_mul_of_nonneg_right -> xV
open Go Go.AL Go.Proofs Go.Limb Go.Det
theorem qjg {n k:Nat} {M:List (List Int)} (hs:∀i j,i<n->j<n->rowF M i j=rowF M j i) (hP:Part n (rowF M) k) (hk:k+1<n) (hsh:qag (n-k) (zbg n k M)):∀i,i<n-k-> -65536<=ent (zbg n k M) i 0/\ent (zbg n k M) i 0<=65536/\ -65536<=ent (zbg n k M) 0 i/\ent (zbg n k M) 0 i<=65536:=by
 intro i hi
 have e:ent (zbg n k M) 0 i=ent (zbg n k M) i 0:=by
  rw [zcn (by omega) hi,zcn hi (by omega)]
  exact zgl hs k (by omega) hP.ne _ _ (by omega) (by omega) (by omega) (by omega)
 rw [e]
 obtain ⟨h1,h2,h3⟩:=hsh
 rcases qM i with h0 | h0
 ·subst h0;omega
 ·have:=h3 i h0 hi
  omega
theorem zqa {n k:Nat} {a:Nat->Det.Row} (n8:n<=8) (hs:∀i j,i<n->j<n->a i j=a j i) (hb:∀i j,i<n->j<n->a i j<=262144/\ -262144<=a i j) (hP:Part n a k) (hk:k+1<n) (h1:0<lead a (k+1)) (h2:lead a (k+1)<65536)
  (h3:∀i,i<n->k<i->2*stg a k i k<=lead a (k+1)/\ -(2*stg a k i k)<=lead a (k+1)) {i j:Nat} (hi:i<n) (hj:j<n) (hki:k<i) (hkj:k<j):stg a (k+1) i j<=34359738368/\ -34359738368<=stg a (k+1) i j:=by
 obtain ⟨x1,x2⟩:=Part.entry hs hb k (by omega) hP i j hi hj (by omega) (by omega)
 have hn:=hP.ne
 have e:=zbp hn i j
 obtain ⟨u1,u2⟩:=h3 i hi hki
 obtain ⟨v1,v2⟩:=h3 j hj hkj
 rw [zgl hs k (by omega) hn k j (by omega) hj (by omega) (by omega)] at e
 have p:=hP.pos' k (qG _)
 obtain ⟨y1,y2⟩:=qzb (by omega) (by omega) (by omega) e x1 x2 u1 u2 v1 v2
 have c:lead a (k+1)*(262144+16384*(k:Int)+16384)<=65536*524288:=by
  have m1:lead a (k+1)*(262144+16384*(k:Int)+16384)<=65536*(262144+16384*(k:Int)+16384):=xV (by omega) (by omega)
  omega
 omega
theorem zqb {M:List (List Int)} {a:AV} (h:ImV M a) (h62:M.length<4611686018427387904) (hr62:∀i,i<M.length->(M.getD i []).length<4611686018427387904) {b:Bool} (hb:b=true↔zit M/\Red M.length (rowF M)):Rt 70 [a] [] (.bool b) []:=by
 have no:¬(zit M/\Red M.length (rowF M))->b=false:=by
  intro hn
  cases b with
  | false=>rfl
  | true=>exact absurd (hb.1 rfl) hn
 refine oF o70 ?_
 by_cases hS:zit M
 rotate_left
 ·obtain rfl:=no (fun e=>hS e.1)
  have t1:=qrs h h62 hr62 (b:=false) ⟨fun e=>by simp at e,fun e=>absurd e hS⟩
  obtain ⟨rows,c,rfl,hl,hr⟩:=h.val
  simp only [c70,r70_0,r70_1,SS,reduceCtorEq,reduceIte]
  refine zaa t1 ?_
  simp only [SS,fC,reduceIte,qQ]
  simp only [r70_2,SS]
  exact ⟨.inl trivial,_,rfl,.drop _ _ rfl (by intro i cs h;omega)⟩
 have t1:=qrs h h62 hr62 (b:=true) ⟨fun _=>hS,fun _=>rfl⟩
 have hf0:=h.fit
 have himv:=h
 obtain ⟨rows,c,rfl,hl,hr⟩:=h.val
 obtain ⟨n1,n8,hsh,hent⟩:=hS
 generalize hn:M.length=n at*
 have hsym:∀i j,i<n->j<n->rowF M i j=rowF M j i:=fun i j hi hj=>(hent i j hi hj).1
 have hbnd:∀i j,i<n->j<n->rowF M i j<=262144/\ -262144<=rowF M i j:=fun i j hi hj=>by have:=hent i j hi hj;show ent M i j<=_/\_<=ent M i j;omega
 simp only [c70,r70_0,r70_1,SS,reduceCtorEq,reduceIte]
 refine zaa t1 ?_
 simp only [SS,fC,reduceIte,qQ]
 simp only [r70_3,r70_4,SS,reduceCtorEq,reduceIte,qQ]
 refine zai (fun q E H=>∃k sr sc,k+q+1=n/\Part n (rowF M) k/\ImV (zbg n k M) (.vec sr (n-k) sc)/\E 3= .vec sr (n-k) sc/\E 4= .int .i64 (lead (rowF M) k)/\H=[]) (n:=n-1)
  ⟨0,rows,c,by omega,Part.zero,by rw [qdd hsh];exact himv,by simp only [UU,qQ,reduceIte];rfl,by simp only [UU,qQ,reduceIte];rfl,rfl⟩ ?_
 rintro q E H ⟨k,sr,sc,hkq,hP,hV,e3,e4,rfl⟩
 refine wM ?_
 have hsS:=zoj n k M
 obtain ⟨srw,src,hse,hsl,hsr⟩:=hV.val
 rw [hsS.len] at hse hsl hsr
 injection hse with hs1 hs2 hs3
 subst hs1 hs3
 obtain ⟨c0,hc0⟩:=hsr 0 (by omega)
 have l0:=hsS.row 0 (by omega)
 have g00:(i64z ((zbg n k M).getD 0 [])).getD 0 .junk= .int .i64 (ent (zbg n k M) 0 0):=zbq _ 0 (by omega) _
 have e00:ent (zbg n k M) 0 0=lead (rowF M) (k+1):=by rw [zcn (by omega) (by omega),zaw];rfl
 simp only [l70_0,r70_5,SS,reduceCtorEq,reduceIte,qQ,e3]
 refine ⟨fun hgt=>?_,fun hle=>?_⟩
 ·obtain ⟨m,hm⟩:∃m,n-k=m+1:=⟨n-k-1,by omega⟩
  have hk1:k+1<n:=by omega
  have hbig:∀i j,i<n-k->j<n-k-> -34359738368<=ent (zbg n k M) i j/\ent (zbg n k M) i j<=34359738368:=by
   intro i j hi hj
   rw [zcn hi hj]
   have:=hP.entry35 n8 hsym hbnd (by omega) (i:=k+i) (j:=k+j) (by omega) (by omega) (by omega) (by omega)
   omega
  simp only [r70_6,r70_7,SS,fC,reduceIte,qQ,e3,hc0,hsl,l0,g00,zav,qN]
  refine ⟨⟨by omega,by omega⟩,by omega,⟨by omega,by omega⟩,by omega,?_⟩
  by_cases hsp:qag (n-k) (zbg n k M)
  rotate_left
  ·have hbf:=no (fun e=>hsp (by
    obtain ⟨r1,r2,r3,_⟩:=e.2.part hk1
    refine ⟨by rw [e00];exact r1,by rw [e00];exact r2,fun i h0 hi=>?_⟩
    rw [e00,zcn hi (by omega)]
    exact r3 (k+i) (by omega) (by omega)))
   subst hbf
   have t2:=qrt hV hsS (by omega) (fun i hi=>by have:=hbig i 0 hi (by omega);omega) (b:=false) ⟨fun e=>by simp at e,fun e=>absurd e hsp⟩
   refine zaa t2 ?_
   simp only [SS,fC,reduceIte,qQ]
   simp only [r70_8,SS]
   exact ⟨.inl trivial,_,rfl,.drop _ _ rfl (by intro i cs h;omega)⟩
  have t2:=qrt hV hsS (by omega) (fun i hi=>by have:=hbig i 0 hi (by omega);omega) (b:=true) ⟨fun _=>hsp,fun _=>rfl⟩
  refine zaa t2 ?_
  simp only [SS,fC,reduceIte,qQ]
  have w1:IntKind.i64.wrap (((n-k:Nat):Int)-1)=(m:Nat):=wQ (by omega)
  simp only [r70_9,SS,reduceIte,qQ,e3,w1,qK]
  refine ⟨by decide,⟨by omega,by omega,by omega,by omega⟩,?_⟩
  obtain ⟨sp1,sp2,sp3⟩:=hsp
  have hlow:=qjg hsym hP hk1 ⟨sp1,sp2,sp3⟩
  have sz:∀i,i<n->k<i->2*stg (rowF M) k i k<=lead (rowF M) (k+1)/\ -(2*stg (rowF M) k i k)<=lead (rowF M) (k+1):=by
   intro i hi hki
   have:=sp3 (i-k) (by omega) (by omega)
   rw [e00,zcn (by omega) (by omega),show k+(i-k)=i by omega] at this
   exact this
  rw [e00] at sp1 sp2
  have hTs:Shp m (zbg n (k+1) M):=by
   have:=zoj n (k+1) M
   rw [show n-(k+1)=m by omega] at this
   exact this
  have hq:∀i j,i<m->j<m->Int.tdiv (lead (rowF M) (k+1)*ent (zbg n k M) (i+1) (j+1)-ent (zbg n k M) (i+1) 0*ent (zbg n k M) 0 (j+1)) (lead (rowF M) k)=ent (zbg n (k+1) M) i j:=by
   intro i j hi hj
   rw [zcn (by omega) (by omega),zcn (by omega) (by omega),zcn (by omega) (by omega),zcn (by omega) (by omega)]
   rw [show k+(i+1)=k+1+i by omega,show k+(j+1)=k+1+j by omega]
   exact qjf hP _ _
  have hF:StF m (zbg n k M) (zbg n (k+1) M) sr sc (lead (rowF M) (k+1)) (lead (rowF M) k):=by
   refine ⟨by omega,by rw [<-hm];exact hsS,hTs,fun i hi=>?_,by omega,e00.symm,⟨sp1,sp2⟩,hP.ne k (qG _),fun i j hi hj=>hbig i j (by omega) (by omega),fun i hi=>hlow i (by omega),hq⟩
   obtain ⟨c',hc'⟩:=hsr i (by omega)
   rw [hsS.row i (by omega),hm] at hc'
   exact ⟨c',hc'⟩
  simp only [r70_10,SS,reduceIte,qQ]
  have hb0:[some (List.replicate m (AV.vec [] 0 (some 0)))]=bH m m []:=rfl
  rw [hb0]
  refine qde hF (by simp only [UU,qQ,e3,hm]) (by simp only [UU,qQ,e4]) (by simp only [UU,qQ,reduceIte,e00]) (by simp only [UU,qQ,reduceIte]) (by simp only [UU,qQ,reduceIte]) (by simp only [UU,qQ,reduceIte]) ?_
  intro E' f3 f4 f5 f6
  obtain ⟨c1,hc1⟩:=hF.val 1 (by omega)
  have l1:=hF.shS.row 1 (by omega)
  have g10:(i64z ((zbg n k M).getD 1 [])).getD 0 .junk= .int .i64 (ent (zbg n k M) 1 0):=zbq _ 0 (by omega) _
  have lT:=hTs.row 0 (by omega)
  have gT:(i64z ((zbg n (k+1) M).getD 0 [])).getD 0 .junk= .int .i64 (ent (zbg n (k+1) M) 0 0):=zbq _ 0 (by omega) _
  have eT:ent (zbg n (k+1) M) 0 0=lead (rowF M) (k+2):=by rw [zcn (by omega) (by omega),zaw (rowF M) (k+1)]
  have eL:ent (zbg n k M) 1 0=stg (rowF M) k (k+1) k:=by rw [zcn (by omega) (by omega)];rfl
  have go:getB (bH m m (zbg n (k+1) M)) 0=some (outS m m m):=by rw [zds,hTs.len]
  have gol:=zej (N:=m) (n:=m) (i:=m) (qG _)
  have gog:=zek (N:=m) (n:=m) (i:=m) (k:=0) (by omega)
  have gr:=zfi (N:=m) (n:=m) (i:=0) (rows:=zbg n (k+1) M) (by rw [hTs.len];omega)
  have nb:=zqa n8 hsym hbnd hP hk1 sp1 sp2 sz (i:=k+1) (j:=k+1) hk1 hk1 (by omega) (by omega)
  rw [<-zaw] at nb
  have lk:=hP.lt' k (qG _)
  have lk0:=hP.pos' k (qG _)
  have sl:=sz (k+1) hk1 (by omega)
  have p1:=zhl (x:=lead (rowF M) k) (y:=lead (rowF M) (k+2)) (a:=65536) (b:=34359738368) (by omega) (by omega) nb.1 nb.2
  have p2:=zhl (x:=stg (rowF M) k (k+1) k) (y:=stg (rowF M) k (k+1) k) (a:=65536) (b:=65536) (by omega) (by omega) (by omega) (by omega)
  have p3:=zhl (x:=3*lead (rowF M) (k+1)) (y:=lead (rowF M) (k+1)) (a:=262144) (b:=65536) (by omega) (by omega) (by omega) (by omega)
  have w2:IntKind.i64.wrap (lead (rowF M) k*lead (rowF M) (k+2))=lead (rowF M) k*lead (rowF M) (k+2):=w64 (by omega) (by omega)
  have w3:IntKind.i64.wrap (stg (rowF M) k (k+1) k*stg (rowF M) k (k+1) k)=stg (rowF M) k (k+1) k*stg (rowF M) k (k+1) k:=w64 (by omega) (by omega)
  have w4:IntKind.i64.wrap (lead (rowF M) k*lead (rowF M) (k+2)+stg (rowF M) k (k+1) k*stg (rowF M) k (k+1) k)=lead (rowF M) k*lead (rowF M) (k+2)+stg (rowF M) k (k+1) k*stg (rowF M) k (k+1) k:=w64 (by omega) (by omega)
  have w5:IntKind.i64.wrap (4*(lead (rowF M) k*lead (rowF M) (k+2)+stg (rowF M) k (k+1) k*stg (rowF M) k (k+1) k))=4*(lead (rowF M) k*lead (rowF M) (k+2)+stg (rowF M) k (k+1) k*stg (rowF M) k (k+1) k):=w64 (by omega) (by omega)
  have w6:IntKind.i64.wrap (3*lead (rowF M) (k+1))=3*lead (rowF M) (k+1):=w64 (by omega) (by omega)
  have w7:IntKind.i64.wrap (3*lead (rowF M) (k+1)*lead (rowF M) (k+1))=3*lead (rowF M) (k+1)*lead (rowF M) (k+1):=w64 (by omega) (by omega)
  have hlenS:=hF.len
  simp only [SS,fC,reduceCtorEq,reduceIte,qB,qQ,qA,r70_21,r70_22,f3,f4,f5,f6,hc1,hlenS,l1,g10,zav,qN,Int.toNat_one,go,gol,gog,gr,lT,gT,eT,eL,w2,w3,w4,w5,w6,w7]
  have assoc:3*lead (rowF M) (k+1)*lead (rowF M) (k+1)=3*(lead (rowF M) (k+1)*lead (rowF M) (k+1)):=Int.mul_assoc _ _ _
  refine ⟨⟨by omega,by omega⟩,by omega,⟨by omega,by omega⟩,⟨by omega,by omega⟩,by omega,⟨by omega,by omega⟩,by omega,fun hno=>?_,fun hyes=>?_⟩
  ·have hbf:=no (fun e=>by
    obtain ⟨_,_,_,r4⟩:=e.2.part hk1
    omega)
   subst hbf
   simp only [r70_23,SS]
   exact ⟨.inl trivial,_,rfl,.drop _ _ rfl (by intro i cs h;omega)⟩
  ·obtain ⟨q,rfl⟩:∃q',q=q'+1:=⟨q-1,by omega⟩
   have hP':=hP.next sp1 sp2 sz (by omega)
   have hnk:n-(k+1)=m:=by omega
   have key3:∀E:Env,E 3= .sl 0 0 m 1 (some m)->frzE 0 3 (bH m m (zbg n (k+1) M)) E 3= .vec (zco m (zbg n (k+1) M)) (n-(k+1)) (some m):=by
    intro E h
    unfold frzE
    rw [h,if_neg (by simp [AV.under]),qip hTs.len hTs.row,hnk]
    rfl
   have key4:∀(E:Env) (z:Int),E 4= .int .i64 z->frzE 0 3 (bH m m (zbg n (k+1) M)) E 4= .int .i64 z:=by
    intro E z h
    unfold frzE
    rw [h]
    rfl
   have hfit:∀i j,In64 (ent (zbg n (k+1) M) i j):=by
    intro i j
    by_cases hij:i<m/\j<m
    ·rw [zcn (by omega) (by omega)]
     have:=zqa n8 hsym hbnd hP hk1 sp1 sp2 sz (i:=k+1+i) (j:=k+1+j) (by omega) (by omega) (by omega) (by omega)
     unfold In64;omega
    ·rw [hTs.out (by omega)]
     unfold In64;omega
   have hV':=zmg (N:=m) (n:=m) (c:=some m) hTs.len hTs.row hfit
   simp only [r70_24,SS,reduceIte,qQ,f5,f6]
   refine ⟨q,frzE 0 3 (bH m m (zbg n (k+1) M)) _,List.take 0 (bH m m (zbg n (k+1) M)),by omega,⟨k+1,zco m (zbg n (k+1) M),some m,by omega,hP',by rw [hnk];exact hV',key3 _ (by simp only [UU,qQ,reduceIte]),key4 _ _ (by simp only [UU,qQ,reduceIte]),rfl⟩,zrf 0 3 (qG _) (xO _) (fun i cs h=>absurd h (by omega))⟩
 ·have hkn:k+1=n:=by omega
  have eN:ent (zbg n k M) 0 0=lead (rowF M) n:=by rw [e00,hkn]
  have hfit0:=hV.fit 0 0
  simp only [r70_25,SS,fC,reduceIte,qQ,e3,hc0,hsl,l0,g00,zav,qN,eN]
  have hkk:k=n-1:=by omega
  rw [hkk] at hP
  refine ⟨⟨by omega,by omega⟩,by omega,⟨by omega,by omega⟩,by omega,fun hpos=>⟨⟨by omega,by omega⟩,by omega,⟨by omega,by omega⟩,by omega,?_⟩,fun hneg=>?_⟩
  ·have hbv:b=decide (lead (rowF M) n<=10000):=by
    by_cases hd:lead (rowF M) n<=10000
    ·rw [decide_eq_true hd]
     exact hb.2 ⟨by unfold zit;rw [hn];exact ⟨n1,n8,hsh,hent⟩,hP.red n1 n8 hsym hpos hd⟩
    ·rw [decide_eq_false hd]
     exact no (fun e=>hd e.2.small)
   subst hbv
   exact ⟨.inl trivial,_,rfl,.drop _ _ rfl (by intro i cs h;omega)⟩
  ·have hbf:=no (fun e=>by have:=e.2.pos' n (qG _);omega)
   subst hbf
   have d0:decide (0<lead (rowF M) n)=false:=decide_eq_false hneg
   simp only [d0]
   exact ⟨.inl trivial,_,rfl,.drop _ _ rfl (by intro i cs h;omega)⟩
end Go.Proofs.YtpflahgcdgdkjaaGreatDoor
namespace Go.Proofs.YtpflahgcdgdkjaaGreatDoor
open Nat renaming reduceEqDiff -> qQ, eq_zero_or_pos -> qM, lt_or_ge -> qS
open Go.AL.AV.closed renaming closedL -> qX
open List renaming getElem?_cons_succ -> qW, getElem?_cons_zero -> qV
open Int renaming toNat_natCast -> qK, toNat_zero -> qN
open Bool renaming and_self -> qC
open Go Go.AL Go.Proofs Go.Det
theorem zus {n:Nat} {M:List (List Int)} (hS:Shp n M) (h:Red n (rowF M)) (i j:Nat):ent M i j<=180224/\ -180224<=ent M i j:=by
 by_cases hi:i<n/\j<n
 ·exact h.entry hi.1 hi.2
 ·rw [hS.out (by omega)];omega
theorem qpl {n:Nat} {M:List (List Int)} (hS:Shp n M) (h:Red n (rowF M)) (i j:Nat):In64 (ent M i j):=by
 have:=zus hS h i j
 unfold In64;omega
theorem qjh {n:Nat} {M:List (List Int)} (hS:Shp n M) (h:Red n (rowF M)):zit M:=by
 have hl:=hS.len
 refine ⟨by rw [hl];exact h.n1,by rw [hl];exact h.n8,by rw [hl];exact hS,fun i j hi hj=>?_⟩
 rw [hl] at hi hj
 have:=zus hS h i j
 exact ⟨h.sym i j hi hj,by omega,by omega⟩
open Go.Limb
theorem jbs:FitN 8 BIG 9223372036854775808:=⟨by decide,by decide +kernel⟩
theorem qah {M:List (List Int)} (h:∀i j,In64 (ent M i j)):Bnd 9223372036854775808 M:=by
 intro i j
 have:=h i j
 unfold In64 at this
 omega
def zxr (M:List (List Int)) (i:Nat):Prop:=1<=(M.getD i []).length/\(M.getD i []).length<=16/\(M.getD i []).length=(M.getD 0 []).length
theorem zut {M:List (List Int)} {a:AV} (h:ImV M a) (hlen:M.length<=16) (hr62:∀i,i<M.length->(M.getD i []).length<4611686018427387904) (hbad:M.length=0\/¬ ∀i,i<M.length->zxr M i):Rt 64 [a] [] (.tup [.vec [] 0 (some 0),.bool false]) []:=by
 obtain ⟨rows,c,rfl,hl,hr⟩:=h.val
 refine oF o64 ?_
 rcases qM M.length with h0 | h0
 ·rw [h0]
  have d1:decide (((0:Nat):Int)<1)=true:=by decide
  simp only [c64,r64_0,r64_1,r64_2,SS,fC,reduceCtorEq,reduceIte,qQ,d1]
  exact ⟨.inl trivial,_,rfl,.keep _ _⟩
 have hbad:¬ ∀i,i<M.length->zxr M i:=by
  rcases hbad with e | e
  ·omega
  ·exact e
 have d1:decide ((M.length:Int)<1)=false:=decide_eq_false (by omega)
 have d2:decide ((16:Int)<(M.length:Nat))=false:=decide_eq_false (by omega)
 obtain ⟨c0,e0⟩:=hr 0 (by omega)
 simp only [c64,r64_0,r64_1,SS,fC,reduceCtorEq,reduceIte,qQ,d1,d2]
 simp only [r64_3,SS,reduceCtorEq,reduceIte,qQ]
 refine zai (fun k E H=>∃i,i+k=M.length/\E 0= .vec rows M.length c/\E 17= .vec rows M.length c/\E 18= .int .i64 (M.length:Nat)/\E 19= .int .i64 (i:Nat)/\H=[]/\∀t,t<i->zxr M t) (n:=M.length) ⟨0,by omega,by simp only [UU,qQ],by simp only [UU,qQ,reduceIte],by simp only [UU,qQ,reduceIte],by simp only [UU,qQ,reduceIte];rfl,rfl,fun t ht=>absurd ht (by omega)⟩ ?_
 rintro k E H ⟨i,hik,h0',h17,h18,h19,rfl,hgood⟩
 refine wM ?_
 simp only [l64_0,r64_4,SS,reduceCtorEq,reduceIte,h18,h19]
 refine ⟨fun hlt=>?_,fun hge=>absurd (fun t ht=>hgood t (by omega)) hbad⟩
 obtain ⟨k,rfl⟩:∃k',k=k'+1:=⟨k-1,by omega⟩
 obtain ⟨ci,ei⟩:=hr i (by omega)
 have hr2:=hr62 i (by omega)
 have w5:=wS1 i (by omega)
 simp only [r64_5,SS,fC,reduceIte,qQ,h17,h19,qK,ei,hl]
 refine ⟨⟨by omega,by omega⟩,by omega,?_⟩
 rcases qM (M.getD i []).length with g0 | g1
 ·have d3:decide (((M.getD i []).length:Int)<1)=true:=decide_eq_true (by omega)
  simp only [r64_6,r64_7,SS,fC,reduceCtorEq,reduceIte,qQ,d3]
  exact ⟨.inl trivial,_,rfl,.keep _ _⟩
 have d3:decide (((M.getD i []).length:Int)<1)=false:=decide_eq_false (by omega)
 rcases qS 16 (M.getD i []).length with g2 | g2
 ·have d4:decide ((16:Int)<((M.getD i []).length:Nat))=true:=decide_eq_true (by omega)
  simp only [r64_6,r64_7,SS,fC,reduceCtorEq,reduceIte,qQ,d3,d4]
  exact ⟨.inl trivial,_,rfl,.keep _ _⟩
 have d4:decide ((16:Int)<((M.getD i []).length:Nat))=false:=decide_eq_false (by omega)
 by_cases g3:(M.getD i []).length=(M.getD 0 []).length
 ·have d5:decide (((M.getD i []).length:Int)≠((M.getD 0 []).length:Nat))=false:=decide_eq_false (by omega)
  simp only [r64_6,r64_8,SS,fC,reduceCtorEq,reduceIte,qQ,h0',h19,qN,e0,hl,d3,d4,d5,w5]
  refine ⟨⟨by omega,by omega⟩,by omega,?_⟩
  refine ⟨k,_,_,by omega,⟨i+1,by omega,?_,?_,?_,?_,rfl,fun t ht=>?_⟩,.refl⟩
  ·simp only [UU,qQ, *]
  ·simp only [UU,qQ, *]
  ·simp only [UU,qQ, *]
  ·simp only [UU,qQ,reduceIte, *]
  ·rcases (by omega:t<i\/t=i) with e | e
   ·exact hgood t e
   ·subst e;exact ⟨g1,g2,g3⟩
 ·have d5:decide (((M.getD i []).length:Int)≠((M.getD 0 []).length:Nat))=true:=decide_eq_true (by omega)
  simp only [r64_6,r64_7,SS,fC,reduceCtorEq,reduceIte,qQ,h0',qN,e0,hl,d3,d4,d5]
  refine ⟨⟨by omega,by omega⟩,by omega,?_⟩
  exact ⟨.inl trivial,_,rfl,.keep _ _⟩
theorem zsl {M:List (List Int)} {a:AV} (h:MatV M a) (hs:zrn M) (hne:M.length≠(M.getD 0 []).length):Rt 56 [a] [] (.int .i64 3) []:=by
 have hcl:a.closed=true:=by obtain ⟨rows,c,rfl,_⟩:=h;rfl
 have t:=ztw h hs
 have c1:qX [a]=true:=by simp only [qX,hcl,qC]
 have d1:decide (((M.length:Nat):Int)≠((M.getD 0 []).length:Nat))=true:=decide_eq_true (by omega)
 have t2:Rt 118 [a] [] (.tup [.int .i64 0,.bool false]) []:=by
  refine oF o118 ?_
  simp only [c118,r118_0,r118_1,SS,reduceCtorEq,reduceIte]
  refine zaa t ?_ c1
  simp only [SS,reduceIte,qQ,qV,qW]
  simp only [r118_2,r118_3,SS,fC,reduceIte,qQ,d1]
  exact ⟨.inl trivial,_,rfl,.drop _ _ rfl (by intro i cs h;omega)⟩
 refine oF o56 ?_
 simp only [c56,r56_0,r56_1,SS,reduceCtorEq,reduceIte]
 refine zaa t2 ?_ c1
 simp only [SS,reduceIte,qQ,qV,qW]
 simp only [r56_2,r56_3,SS,fC,reduceIte,qQ]
 exact ⟨.inl trivial,_,rfl,.drop _ _ rfl (by intro i cs h;omega)⟩
theorem zkh {M:List (List Int)} {a:AV} (h:ImV M a) (h8:M.length<=8) (hr8:∀i,i<M.length->(M.getD i []).length<=8) {b:Bool} (hb:b=true↔zit M/\Red M.length (rowF M)):Rt 29 [a] [] (.bool b) []:=by
 have no:¬Shp M.length M\/M.length=0->b=false:=by
  intro hn
  cases b with
  | false=>rfl
  | true=>
   obtain ⟨n1,_,hs,_⟩:=(hb.1 rfl).1
   rcases hn with hn | hn
   ·exact absurd hs hn
   ·omega
 have hca:a.closed=true:=h.closed
 have c1:qX [a]=true:=by simp only [qX,hca,qC]
 by_cases hg:M.length=0\/¬ ∀i,i<M.length->zxr M i
 ·have t0:=zut h (by omega) (fun i hi=>by have:=hr8 i hi;omega) hg
  obtain rfl:b=false:=no (by
   rcases hg with e | e
   ·exact .inr e
   ·refine .inl fun hs=>e fun i hi=>?_
    have l1:=hs.row i hi
    have l0:=hs.row 0 (by omega)
    unfold zxr
    omega)
  refine oF o29 ?_
  simp only [c29,r29_0,r29_1,SS,reduceCtorEq,reduceIte]
  refine zaa t0 ?_ c1
  simp only [SS,reduceIte,qQ,qV,qW]
  simp only [r29_2,SS,fC,reduceIte,qQ]
  exact ⟨.inl trivial,_,rfl,.drop _ _ rfl (by intro i cs h;omega)⟩
 ·have h0:M.length≠0:=fun e=>hg (.inl e)
  have hgood:∀i,i<M.length->zxr M i:=Classical.byContradiction fun e=>hg (.inr e)
  by_cases hsq:M.length=(M.getD 0 []).length
  ·have hS:Shp M.length M:=⟨rfl,fun i hi=>by have:=hgood i hi;unfold zxr at this;omega⟩
   refine qdc (N:=8) zdk h hS ⟨by omega,h8⟩ h8 jbs (qah h.fit) ?_
   rw [hb]
   exact ⟨fun e=>e.2,fun e=>⟨qjh hS e,e⟩⟩
  ·obtain rfl:b=false:=no (.inl fun hs=>hsq (hs.row 0 (by omega)).symm)
   have hc:∀i,i<M.length->(M.getD i []).length=(M.getD 0 []).length:=fun i hi=>(hgood i hi).2.2
   have g0:=hgood 0 (by omega)
   have t0:=znv h (n:=(M.getD 0 []).length) ⟨g0.1,g0.2.1⟩ ⟨by omega,by omega⟩ hc
   have hfit:=zsg (qah h.fit) (show 9223372036854775808<BIG from zia (by decide))
   have hM:=znt hfit
   have hSh:zrn M:=⟨by omega,by omega,fun i hi=>hgood i hi⟩
   have t1:=zsl hM hSh hsq
   have hcl:(matC M).closed=true:=by obtain ⟨rows,c,e,_⟩:=hM;rw [e];rfl
   have c2:qX [matC M]=true:=by simp only [qX,hcl,qC]
   have d3:decide ((3:Int)=0)=false:=rfl
   refine oF o29 ?_
   simp only [c29,r29_0,r29_1,SS,reduceCtorEq,reduceIte]
   refine zaa t0 ?_ c1
   simp only [SS,reduceIte,qQ,qV,qW]
   simp only [r29_2,SS,fC,reduceIte,qQ]
   refine zaa t1 ?_ c2
   simp only [SS,fC,reduceIte,qQ,d3]
   exact ⟨.inl trivial,_,rfl,.drop _ _ rfl (by intro i cs h;omega)⟩
end Go.Proofs.YtpflahgcdgdkjaaGreatDoor
namespace Go.Proofs.YtpflahgcdgdkjaaGreatDoor
open Nat renaming reduceEqDiff -> qQ, pow_le_pow_right -> qD, le_trans -> qP, pow_le_pow_left -> qR, lt_or_ge -> qS, mul_le_mul -> xQ, lt_of_le_of_lt -> xA, le_mul_of_pos_right -> xE, zero_le -> xO, pow_one -> yD, pow_mul -> yE
open Go.AL.AV.closed renaming closedL -> qX
open List renaming getD_eq_getElem?_getD -> qZ, getElem?_eq_getElem -> qU, getElem?_map -> qT, ext_getElem -> xX
open Int renaming natCast_mul -> qO
open Bool renaming and_self -> qC
open Go Go.AL Go.Proofs Go.Det
theorem zok (p:Prop):∃b:Bool,b=true↔p:=by
 by_cases h:p
 ·exact ⟨true,fun _=>h,fun _=>rfl⟩
 ·exact ⟨false,fun e=>by simp at e,fun e=>absurd e h⟩
theorem qpm {n m:Nat} {M:List (List Int)} {hs:List AV} {ch:Option Nat} (hIm:ImV M (.vec hs n ch)) (hS:Shp n M) (hsy:∀i j,i<n->j<n->ent M i j=ent M j i) (hn:1<=n/\n<=8) (hm:2<=m) (hm2:m<=2097152) (hpow:m^n<2^60):
  ∃fin:List Nat,fin.length=m/\(∀t,fin.getD t 0=(Count.allV m n).countP fun y=>decide (Count.nrm (gN n M m) n y%m=t))/\Rt 28 [.vec hs n ch,.int .i64 (m:Int)] [] (.vec (ints fin) m (some m)) []:=by
 have hTs:Shp n (modM n M (m:Int)):=zcg _ _
 have hgs:∀j k,j<n->k<n->Count.ent (gN n M m) j k=Count.ent (gN n M m) k j:=by
  intro j k hj hk
  rw [qiz,qiz]
  unfold modM
  rw [zby hj hk,zby hk hj,hsy j k hj hk]
 obtain ⟨fin,h1,h2,h3⟩:=Count.runC_ok (g:=gN n M m) (n:=n) (M:=m) (by omega) hgs
 refine ⟨fin,h2,h3,?_⟩
 have tR:=qcy hIm hS hn (m:=(m:Int)) (by omega)
 refine zoh (g:=gN n M m) (by omega) (by omega) (by omega) hpow tR (by simp [zco,hTs.len]) (fun i hi=>⟨some n,?_⟩) (fun i hi=>?_) (fun i hi a ha=>?_) h1 h2
 ·have hi':i<(modM n M (m:Int)).length:=by rw [hTs.len];exact hi
  rw [qae,<-qja (fun z hz=>(qaf (by omega) z hz).1)]
  unfold zco
  rw [qT,qU hi',qZ,qU hi']
  rfl
 ·rw [qae,List.length_map,hTs.row i hi]
 ·rw [qae] at ha
  obtain ⟨z,hz,rfl⟩:=List.mem_map.1 ha
  have:=qaf (by omega) z hz
  omega
theorem qji {a b:List Nat} {m:Nat} (ha:a.length=m) (hb:b.length=m) (h:∀t,a.getD t 0=b.getD t 0):a=b:=by
 refine xX (ha.trans hb.symm) fun i h1 h2=>?_
 have:=h i
 rw [qZ,qU h1,qZ,qU h2] at this
 exact this
section
variable {hs:List AV} {ch:Option Nat} {n:Nat} {z k:Int}
theorem qzw (hcl:(AV.vec hs n ch).closed=true) {bR bP:Bool} (h1:Rt 29 [.vec hs n ch] [] (.bool bR) []) (h2:Rt 30 [.int .i64 z] [] (.bool bP) []) (he:chkZ bR bP≠0):Rt 12 [.vec hs n ch,.int .i64 z,.int .i64 k] [] (.tup [.vec [] 0 (some 0),.int .i64 (chkZ bR bP)]) []:=by
 have c0:qX [.vec hs n ch]=true:=by simp only [qX,hcl,qC]
 refine oF o12 ?_
 simp only [c12,r12_0,r12_1,SS,reduceCtorEq,reduceIte]
 refine zaa h1 ?_ c0
 simp only [zaj,SS,reduceIte,qQ]
 cases bR with
 | false=>
  simp only [r12_2,SS,fC]
  exact ⟨.inl trivial,_,rfl,.keep _ _⟩
 | true=>
  simp only [r12_3,SS,fC,reduceIte,qQ]
  refine zaa h2 ?_
  simp only [zaj,SS,reduceIte,qQ]
  cases bP with
  | true=>exact absurd rfl he
  | false=>
   simp only [r12_4,SS,fC]
   exact ⟨.inl trivial,_,rfl,.keep _ _⟩
theorem qzx (hcl:(AV.vec hs n ch).closed=true) (h1:Rt 29 [.vec hs n ch] [] (.bool true) []) (h2:Rt 30 [.int .i64 z] [] (.bool true) []) (hk:k<1):Rt 12 [.vec hs n ch,.int .i64 z,.int .i64 k] [] (.tup [.vec [] 0 (some 0),.int .i64 1]) []:=by
 have c0:qX [.vec hs n ch]=true:=by simp only [qX,hcl,qC]
 have d1:decide (k<1)=true:=decide_eq_true hk
 refine oF o12 ?_
 simp only [c12,r12_0,r12_1,SS,reduceCtorEq,reduceIte]
 refine zaa h1 ?_ c0
 simp only [zaj,SS,fC,reduceIte,qQ]
 simp only [r12_3,SS,reduceIte,qQ]
 refine zaa h2 ?_
 simp only [zaj,SS,fC,reduceIte,qQ]
 simp only [r12_5,r12_6,SS,fC,reduceIte,qQ,d1]
 exact ⟨.inl trivial,_,rfl,.keep _ _⟩
theorem qzy {p e:Nat} (hcl:(AV.vec hs n ch).closed=true) (h1:Rt 29 [.vec hs n ch] [] (.bool true) []) (h2:Rt 30 [.int .i64 (p:Int)] [] (.bool true) []) (hp:2<=p) (hp2:p<=9973) (he:1<=e) (hn:n<=8) (hpow:2097152<p^(e*n)):Rt 12 [.vec hs n ch,.int .i64 (p:Int),.int .i64 (e:Int)] [] (.tup [.vec [] 0 (some 0),.int .i64 7]) []:=by
 have c0:qX [.vec hs n ch]=true:=by simp only [qX,hcl,qC]
 have d1:decide ((e:Int)<1)=false:=decide_eq_false (by omega)
 refine oF o12 ?_
 simp only [c12,r12_0,r12_1,SS,reduceCtorEq,reduceIte]
 refine zaa h1 ?_ c0
 simp only [zaj,SS,fC,reduceIte,qQ]
 simp only [r12_3,SS,reduceIte,qQ]
 refine zaa h2 ?_
 simp only [zaj,SS,fC,reduceIte,qQ]
 simp only [r12_5,SS,fC,reduceIte,qQ,d1]
 rcases qS 64 e with h | h
 ·have d2:decide (64<(e:Int))=true:=decide_eq_true (by omega)
  simp only [r12_7,r12_8,SS,fC,reduceCtorEq,reduceIte,qQ,d2]
  exact ⟨.inl trivial,_,rfl,.keep _ _⟩
 ·have d2:decide (64<(e:Int))=false:=decide_eq_false (by omega)
  have hen:e*n<=64*8:=xQ h hn
  have t:=qiu (p:=p) (e:=e*n) hp (by omega) (by omega) (b:=false) ⟨fun e=>by simp at e,fun e=>absurd e (by omega)⟩
  have w1:IntKind.i64.wrap ((e:Int)*(n:Int))=((e*n:Nat):Int):=by rw [<-qO];exact zim (by omega)
  simp only [r12_7,SS,fC,reduceCtorEq,reduceIte,qQ,d2,w1]
  refine zaa t ?_
  simp only [zaj,SS,fC,reduceIte,qQ]
  simp only [r12_8,SS]
  exact ⟨.inl trivial,_,rfl,.keep _ _⟩
theorem jbt {p e:Nat} {v:AV} (hcl:(AV.vec hs n ch).closed=true) (h1:Rt 29 [.vec hs n ch] [] (.bool true) []) (h2:Rt 30 [.int .i64 (p:Int)] [] (.bool true) []) (hp:2<=p) (hp2:p<=9973) (he:1<=e) (he2:e<=64) (hn:1<=n/\n<=8) (hpow:p^(e*n)<=2097152)
  (hc:Rt 32 [.vec hs n ch,.int .i64 ((p^e:Nat):Int)] [] v []) (hv:v.closed=true):Rt 12 [.vec hs n ch,.int .i64 (p:Int),.int .i64 (e:Int)] [] (.tup [v,.int .i64 0]) []:=by
 have c0:qX [.vec hs n ch]=true:=by simp only [qX,hcl,qC]
 have c1:∀y,qX [.vec hs n ch,.int .i64 y]=true:=fun y=>by simp only [qX,hcl];rfl
 have d1:decide ((e:Int)<1)=false:=decide_eq_false (by omega)
 have d2:decide (64<(e:Int))=false:=decide_eq_false (by omega)
 have hen:e*n<=64*8:=xQ he2 hn.2
 have hee:e<=e*n:=xE e hn.1
 have hpe:p^e<=2097152:=qP (qD (by omega) hee) hpow
 have t:=qiu (p:=p) (e:=e*n) hp (by omega) (by omega) (b:=true) ⟨fun _=>hpow,fun _=>rfl⟩
 have t2:=qab (p:=p) (e:=e) (by omega) (by omega) (by omega)
 have w1:IntKind.i64.wrap ((e:Int)*(n:Int))=((e*n:Nat):Int):=by rw [<-qO];exact zim (by omega)
 refine oF o12 ?_
 simp only [c12,r12_0,r12_1,SS,reduceCtorEq,reduceIte]
 refine zaa h1 ?_ c0
 simp only [zaj,SS,fC,reduceIte,qQ]
 simp only [r12_3,SS,reduceIte,qQ]
 refine zaa h2 ?_
 simp only [zaj,SS,fC,reduceIte,qQ]
 simp only [r12_5,SS,fC,reduceIte,qQ,d1]
 simp only [r12_7,SS,fC,reduceCtorEq,reduceIte,qQ,d2,w1]
 refine zaa t ?_
 simp only [zaj,SS,fC,reduceIte,qQ]
 simp only [r12_9,SS,reduceCtorEq,reduceIte,qQ]
 refine zaa t2 ?_
 simp only [zaj,SS,reduceIte,qQ]
 refine zaa hc ?_ (c1 _) hv
 simp only [zaj,SS,reduceIte,qQ]
 exact ⟨.inl trivial,_,rfl,.keep _ _⟩
end
def jbu (M:List (List Int)) (z k:Int) (fin:List Nat):Prop:=1<=M.length/\M.length<=8/\∃p e:Nat,z=(p:Int)/\k=(e:Int)/\2<=p/\1<=e/\fin.length=p^e/\p^(e*M.length)<=2097152/\∀t,fin.getD t 0<=2097152
theorem qdf {M:List (List Int)} {a:AV} (hV:ImV M a) (h8:M.length<=8) (hr8:∀i,i<M.length->(M.getD i []).length<=8) {z k:Int} (hk:In64 k):
  ∃(fin:List Nat) (c:Option Nat) (e:Int),fin.length<=2097152/\(e=0->jbu M z k fin)/\Rt 11 [a,.int .i64 z,.int .i64 k] [] (.tup [.vec (ints fin) fin.length c,.int .i64 e]) []/\Rt 12 [a,.int .i64 z,.int .i64 k] [] (.tup [.vec (ints fin) fin.length c,.int .i64 e]) []:=by
 obtain ⟨bR,hbR⟩:=zok (zit M/\Red M.length (rowF M))
 obtain ⟨bP,hbP⟩:=zok (z<=9973/\PrmZ z)
 have t1:=zqb hV (by omega) (fun i hi=>by have:=hr8 i hi;omega) hbR
 have t2:=zkh hV h8 hr8 hbR
 have hca:a.closed=true:=hV.closed
 have t3:=zpy t1 hca hbP
 have t4:=qaa hbP
 have hV0:=hV
 obtain ⟨rows,ch,rfl,hl,hr⟩:=hV.val
 by_cases he:chkZ bR bP=0
 rotate_left
 ·exact ⟨[],some 0,chkZ bR bP,xO _,fun h=>absurd h he,zxo hca he t3,qzw hca t2 t4 he⟩
 obtain ⟨rfl,rfl⟩:bR=true/\bP=true:=by
  revert he
  cases bR<;>cases bP<;>decide
 have t3:Rt 26 [.vec rows M.length ch,.int .i64 z] [] (.int .i64 0) []:=t3
 rcases Int.lt_or_le k 1 with h1 | h1
 ·exact ⟨[],some 0,1,xO _,fun h=>absurd h (by decide),zxp hca t3 h1,qzx hca t2 t4 h1⟩
 obtain ⟨hSm,hRed⟩:=hbR.1 rfl
 obtain ⟨hz,hz2,hz3,_⟩:=hbP.1 rfl
 obtain ⟨n1,n8,hS,hent⟩:=hSm
 obtain ⟨p,rfl⟩:∃p:Nat,z=(p:Int):=⟨z.toNat,by omega⟩
 obtain ⟨e,rfl⟩:∃e:Nat,k=(e:Int):=⟨k.toNat,by omega⟩
 have hk2:=hk.2
 rcases qS 2097152 (p^(e*M.length)) with hb | hb
 ·exact ⟨[],some 0,7,xO _,fun h=>absurd h (by decide),zxq hca t3 (by omega) (by omega) (by omega) (by omega) n8 hb,qzy hca t2 t4 (by omega) (by omega) (by omega) n8 hb⟩
 have hee:e<=e*M.length:=xE e n1
 have he64:e<=64:=by
  rcases qS 64 e with h | h
  ·have a1:=qD (n:=p) (by omega) (qP h hee)
   have a2:=qR (show 2<=p by omega) 65
   have a3:(2097152:Nat)<2^65:=by decide
   exact absurd (qP (qP a2 a1) hb) (by omega)
  ·exact h
 have hpe:p^e<=2097152:=qP (qD (by omega) hee) hb
 have hm:2<=p^e:=by
  have:=qD (n:=p) (by omega) (show 1<=e by omega)
  rw [yD] at this;omega
 have hpn:(p^e)^M.length<=2097152:=by rw [<-yE];exact hb
 obtain ⟨fin,f1,f2,f3⟩:=qpm hV0 hS (fun i j hi hj=>(hent i j hi hj).1) ⟨n1,n8⟩ hm hpe (xA hpn (by decide))
 obtain ⟨fin',g1,g2,g3⟩:=qpj hS hV0.fit ⟨n1,n8⟩ hm hpe hpn
 obtain rfl:fin'=fin:=qji g1 f1 fun t=>by rw [g2,f2]
 have hcf:(AV.vec (ints fin') (p^e) (some (p^e))).closed=true:=by simp only [AV.closed]
 refine ⟨fin',some (p^e),0,by rw [g1];exact hpe,fun _=>⟨n1,n8,p,e,rfl,rfl,by omega,by omega,g1,hb,fun t=>?_⟩,?_,?_⟩
 ·rw [g2]
  refine qP List.countP_le_length ?_
  rw [Count.allV_len]
  exact hpn
 ·rw [g1]
  exact qph hca t3 (by omega) (by omega) (by omega) n1 (by omega) hpn f3 hcf
 ·rw [g1]
  exact jbt hca t2 t4 (by omega) (by omega) (by omega) he64 ⟨n1,n8⟩ hb (g3 _ hV0) hcf
end Go.Proofs.YtpflahgcdgdkjaaGreatDoor
namespace Go.Proofs.YtpflahgcdgdkjaaGreatDoor
open Nat renaming reduceEqDiff -> qQ, reduceLeDiff -> qA, reduceAdd -> qB, pow_le_pow_right -> qD, eq_zero_or_pos -> qM, le_trans -> qP, pow_le_pow_left -> qR, mul_le_mul -> xQ, mod_lt -> xW, lt_two_pow_self -> xU, lt_of_le_of_lt -> xA, div_le_self -> xL, gcd_one_right -> yJ, pow_mul -> yE, mul_one -> yG
open Go.AL.AV.closed renaming closedL -> qX
open List renaming replicate_zero -> qJ, getElem?_cons_succ -> qW, getElem?_cons_zero -> qV, append_nil -> qY
open Int renaming toNat_natCast -> qK, natCast_mul -> qO, gcd_natCast_natCast -> xG, natCast_nonneg -> xT, natCast_ediv -> yC
open Bool renaming and_self -> qC
open Go Go.AL Go.Proofs
abbrev nilR:AV:= .agg [.bool false,.vec [] 0 (some 0),.bool false,.vec [] 0 (some 0)]
theorem zfz:zfw 0 0 nilR:=⟨_,_,_,_,rfl,zxj,zxj⟩
section
variable {hs:List AV} {ch:Option Nat} {n:Nat} {z:Int}
theorem qwm {m e:Int} (hcl:(AV.vec hs n ch).closed=true) (he:e≠0) (hchk:Rt 26 [.vec hs n ch,.int .i64 z] [] (.int .i64 e) []):Rt 15 [.vec hs n ch,.int .i64 z,.int .i64 m] [] (.tup [nilR,.int .i64 e]) []:=by
 have c0:qX [.vec hs n ch,.int .i64 z]=true:=by simp only [qX,hcl];rfl
 refine oF o15 ?_
 simp only [c15,r15_0,SS,reduceCtorEq]
 simp only [r15_1,SS,reduceCtorEq,reduceIte,qQ]
 refine zaa hchk ?_ c0
 simp only [zaj,zad,qJ,qY,SS,reduceIte,qQ]
 simp only [r15_2,SS,reduceIte,qQ]
 refine ⟨fun _=>?_,fun h=>absurd he h⟩
 simp only [r15_3,SS,reduceIte,qB,qQ,qA]
 exact ⟨.inl trivial,_,rfl,.drop _ _ rfl (by intro i cs h;omega)⟩
theorem qwn {m:Int} (hcl:(AV.vec hs n ch).closed=true) (hchk:Rt 26 [.vec hs n ch,.int .i64 z] [] (.int .i64 0) []) (hm:m<1\/1000<m):Rt 15 [.vec hs n ch,.int .i64 z,.int .i64 m] [] (.tup [nilR,.int .i64 1]) []:=by
 have c0:qX [.vec hs n ch,.int .i64 z]=true:=by simp only [qX,hcl];rfl
 refine oF o15 ?_
 simp only [c15,r15_0,SS,reduceCtorEq]
 simp only [r15_1,SS,reduceCtorEq,reduceIte,qQ]
 refine zaa hchk ?_ c0
 simp only [zaj,zad,qJ,qY,SS,reduceIte,qQ]
 simp only [r15_2,SS,reduceIte,qQ]
 refine ⟨fun h=>absurd rfl h,fun _=>?_⟩
 by_cases h1:m<1
 ·have d1:decide (m<1)=true:=decide_eq_true h1
  simp only [r15_4,↓qcf,SS,fC,reduceIte,qQ,d1]
  simp only [r15_5,SS,reduceIte,qB,qQ,qA]
  exact ⟨.inl trivial,_,rfl,.drop _ _ rfl (by intro i cs h;omega)⟩
 ·have d1:decide (m<1)=false:=decide_eq_false h1
  have d2:decide (1000<m)=true:=decide_eq_true (by omega)
  simp only [r15_4,↓ziz,SS,fC,reduceIte,qQ,d1,d2]
  simp only [r15_5,SS,reduceIte,qB,qQ,qA]
  exact ⟨.inl trivial,_,rfl,.drop _ _ rfl (by intro i cs h;omega)⟩
variable {p k:Nat}
theorem qjj {e:Int} {fin:List Nat} {c:Option Nat} {D:AV} {l1 l2:List AV} {n1 n2:Nat} {c1 c2:Option Nat} (hcl:(AV.vec hs n ch).closed=true) (hchk:Rt 26 [.vec hs n ch,.int .i64 (p:Int)] [] (.int .i64 0) []) (hp:PrmZ (p:Int)) (hp2:p<=9973) (hk:1<=k/\k<=1000)
  (hD:D= .agg [.bool false,.vec l1 n1 c1,.bool false,.vec l2 n2 c2])
  (hcnt:Rt 11 [.vec hs n ch,.int .i64 (p:Int),.int .i64 ((2*expo p (2*k) (2*k)+1:Nat):Int)] [] (.tup [.vec (ints fin) fin.length c,.int .i64 e]) [])
  (hok:e≠0/\D=nilR\/e=0/\1<=n/\n<=8/\1<=fin.length/\fin.length<=2097152/\fin.length^(n-1)<4294967296/\
   ∃w,w.closed=true/\Rt 37 [.int .i64 ((fin.getD (k%fin.length) 0:Nat):Int)] [] w []/\Rt 38 [w,fr (fin.length^(n-1)) s2 1 s2] [] D []):
  Rt 15 [.vec hs n ch,.int .i64 (p:Int),.int .i64 (k:Int)] [] (.tup [D,.int .i64 e]) []:=by
 subst hD
 have c0:qX [.vec hs n ch,.int .i64 (p:Int)]=true:=by simp only [qX,hcl];rfl
 have cA:∀y:Int,qX [.vec hs n ch,.int .i64 (p:Int),.int .i64 y]=true:=fun y=>by simp only [qX,hcl];rfl
 have cV:AV.closed (.tup [.vec (ints fin) fin.length c,.int .i64 e])=true:=by simp only [AV.closed,qX,qC]
 have d1:decide ((k:Int)<1)=false:=decide_eq_false (by omega)
 have d2:decide (1000<(k:Int))=false:=decide_eq_false (by omega)
 have w1:IntKind.i64.wrap (2*(k:Int))=((2*k:Nat):Int):=wQ (by omega)
 obtain ⟨r,cr,tv⟩:=zxl (x:=2*k) hp hp2 (by omega) (by omega)
 have hv:expo p (2*k) (2*k)<2000:=by
  have h1:=zxk (p:=p) (n:=2*k) (by have:=hp.1;omega) (by omega)
  have h2:=xU (n:=expo p (2*k) (2*k))
  have h3:=qR (show 2<=p by have:=hp.1;omega) (expo p (2*k) (2*k))
  omega
 generalize expo p (2*k) (2*k)=v at*
 have w2:IntKind.i64.wrap (2*(v:Int))=((2*v:Nat):Int):=wQ (by omega)
 have w3:IntKind.i64.wrap (((2*v:Nat):Int)+1)=((2*v+1:Nat):Int):=wQ (by omega)
 refine oF o15 ?_
 simp only [c15,r15_0,SS,reduceCtorEq]
 simp only [r15_1,SS,reduceCtorEq,reduceIte,qQ]
 refine zaa hchk ?_ c0
 simp only [zaj,zad,qJ,qY,SS,reduceIte,qQ]
 simp only [r15_2,SS,reduceIte,qQ]
 refine ⟨fun h=>absurd rfl h,fun _=>?_⟩
 simp only [r15_4,↓ziz,SS,fC,reduceIte,qQ,d1,d2]
 simp only [r15_6,SS,reduceIte,qQ,w1]
 refine zaa (zyt (2*k) (by omega) (by omega)) ?_
 simp only [zaj,zad,qJ,qY,SS,reduceIte,qQ]
 refine zaa tv ?_
 simp only [zaj,zad,qJ,qY,SS,reduceIte,qB,qQ,qA,qV,qW]
 simp only [r15_7,SS,reduceCtorEq,reduceIte,qQ,w2,w3]
 refine zaa hcnt ?_ (cA _) cV
 simp only [zaj,zad,qJ,qY,SS,reduceIte,qQ,qV,qW]
 simp only [r15_8,SS,reduceIte,qQ]
 rcases hok with ⟨he,hn⟩ | ⟨rfl,n1,n8,hM1,hM2,hA,w,hcw,tw,tq⟩
 ·refine ⟨fun _=>?_,fun h=>absurd he h⟩
  rw [hn]
  simp only [r15_9,SS,reduceIte,qB,qQ,qA]
  exact ⟨.inl trivial,_,rfl,.drop _ _ rfl (by intro i cs h;omega)⟩
 ·refine ⟨fun h=>absurd rfl h,fun _=>?_⟩
  have cW:qX [w,fr (fin.length^(n-1)) s2 1 s2]=true:=by simp only [qX,hcw];rfl
  have hkM:=xW k hM1
  have ga:=zcm fin (k%fin.length) hkM AV.junk
  have et:Int.tmod (k:Int) (fin.length:Int)=((k%fin.length:Nat):Int):=rfl
  have w4:IntKind.i64.wrap ((n:Int)-1)=((n-1:Nat):Int):=wQ (by omega)
  have tp:=jbc (a:=fin.length) (n:=n-1) (c:=none) (d:=s2) (by omega) (by omega) hA (by omega)
  simp only [r15_10,SS,reduceIte,qQ]
  simp only [r15_11,SS,reduceIte,qQ]
  refine zaa (qrf (by omega) (by omega)) ?_
  simp only [zaj,zad,qJ,qY,SS,reduceCtorEq,reduceIte,qQ,w4]
  refine zaa tp ?_
  simp only [zaj,zad,qJ,qY,SS,reduceIte,qB,qQ,qA,qV,qW]
  simp only [r15_12,SS,fC,reduceIte,qQ,et,qK,ga,zdb]
  refine ⟨by omega,⟨xT _,Int.ofNat_lt.2 hkM⟩,hkM,?_⟩
  refine zaa tw ?_ rfl hcw
  simp only [zaj,zad,keys,qJ,qY,SS,reduceIte,qB,qQ,qA]
  refine zaa tq ?_ cW
  simp only [zaj,zad,keys,qJ,qY,SS,reduceIte,qB,qQ,qA]
  refine ⟨rfl,?_⟩
  exact ⟨.inl trivial,_,rfl,.drop _ _ rfl (by intro i cs h;omega)⟩
end
theorem zuu {m:Int} {b:Bool} (hb:b=true↔1<=m/\m<=1000):Rt 39 [.int .i64 m] [] (.bool b) []:=by
 refine oF o39 ?_
 by_cases h1:1<=m
 ·have d1:decide (1<=m)=true:=decide_eq_true h1
  have d2:decide (m<=1000)=b:=by
   by_cases h2:m<=1000
   ·rw [decide_eq_true h2];exact (hb.2 ⟨h1,h2⟩).symm
   ·rw [decide_eq_false h2]
    cases b with
    | false=>rfl
    | true=>exact absurd (hb.1 rfl).2 h2
  simp only [c39,r39_0,r39_1,↓ziz,SS,reduceCtorEq,reduceIte,qQ,d1,d2]
  exact ⟨.inl trivial,_,rfl,.keep _ _⟩
 ·have d1:decide (1<=m)=false:=decide_eq_false h1
  obtain rfl:b=false:=by
   cases b with
   | false=>rfl
   | true=>exact absurd (hb.1 rfl).1 h1
  simp only [c39,r39_0,r39_1,↓qcf,SS,reduceCtorEq,reduceIte,qQ,d1]
  exact ⟨.inl trivial,_,rfl,.keep _ _⟩
section
variable {hs:List AV} {ch:Option Nat} {n:Nat} {z:Int}
theorem qpn {m:Int} {bR bP:Bool} (hcl:(AV.vec hs n ch).closed=true) (h1:Rt 29 [.vec hs n ch] [] (.bool bR) []) (h2:Rt 30 [.int .i64 z] [] (.bool bP) []) (he:chkZ bR bP≠0):Rt 16 [.vec hs n ch,.int .i64 z,.int .i64 m] [] (.tup [nilR,.int .i64 (chkZ bR bP)]) []:=by
 have c0:qX [.vec hs n ch]=true:=by simp only [qX,hcl,qC]
 refine oF o16 ?_
 simp only [c16,r16_0,SS,reduceCtorEq]
 simp only [r16_1,SS,reduceCtorEq,reduceIte,qQ]
 refine zaa h1 ?_ c0
 simp only [zaj,zad,qJ,qY,SS,reduceIte,qQ]
 cases bR with
 | false=>
  simp only [r16_2,SS,fC,reduceIte,qB,qQ,qA]
  exact ⟨.inl trivial,_,rfl,.drop _ _ rfl (by intro i cs h;omega)⟩
 | true=>
  simp only [r16_3,SS,fC,reduceIte,qQ]
  refine zaa h2 ?_
  simp only [zaj,zad,qJ,qY,SS,reduceIte,qQ]
  cases bP with
  | true=>exact absurd rfl he
  | false=>
   simp only [r16_4,SS,fC,reduceIte,qB,qQ,qA]
   exact ⟨.inl trivial,_,rfl,.drop _ _ rfl (by intro i cs h;omega)⟩
theorem qpo {m:Int} (hcl:(AV.vec hs n ch).closed=true) (h1:Rt 29 [.vec hs n ch] [] (.bool true) []) (h2:Rt 30 [.int .i64 z] [] (.bool true) []) (hm:m<1\/1000<m):Rt 16 [.vec hs n ch,.int .i64 z,.int .i64 m] [] (.tup [nilR,.int .i64 1]) []:=by
 have c0:qX [.vec hs n ch]=true:=by simp only [qX,hcl,qC]
 have t:=zuu (m:=m) (b:=false) ⟨fun e=>by simp at e,fun e=>by omega⟩
 refine oF o16 ?_
 simp only [c16,r16_0,SS,reduceCtorEq]
 simp only [r16_1,SS,reduceCtorEq,reduceIte,qQ]
 refine zaa h1 ?_ c0
 simp only [zaj,zad,qJ,qY,SS,fC,reduceIte,qQ]
 simp only [r16_3,SS,reduceIte,qQ]
 refine zaa h2 ?_
 simp only [zaj,zad,qJ,qY,SS,fC,reduceIte,qQ]
 simp only [r16_5,SS,reduceIte,qQ]
 refine zaa t ?_
 simp only [zaj,zad,qJ,qY,SS,fC,reduceIte,qQ]
 simp only [r16_6,SS,reduceIte,qB,qQ,qA]
 exact ⟨.inl trivial,_,rfl,.drop _ _ rfl (by intro i cs h;omega)⟩
variable {p k:Nat}
theorem qai {e:Int} {fin:List Nat} {c:Option Nat} {D:AV} {l1 l2:List AV} {n1 n2:Nat} {c1 c2:Option Nat} (hcl:(AV.vec hs n ch).closed=true) (h1:Rt 29 [.vec hs n ch] [] (.bool true) []) (h2:Rt 30 [.int .i64 (p:Int)] [] (.bool true) []) (hp:PrmZ (p:Int)) (hp2:p<=9973) (hk:1<=k/\k<=1000)
  (hD:∃b1 b2,D= .agg [.bool b1,.vec l1 n1 c1,.bool b2,.vec l2 n2 c2])
  (hcnt:Rt 12 [.vec hs n ch,.int .i64 (p:Int),.int .i64 ((2*expo p (2*k) (2*k)+1:Nat):Int)] [] (.tup [.vec (ints fin) fin.length c,.int .i64 e]) [])
  (hok:e≠0/\D=nilR\/e=0/\1<=n/\n<=8/\1<=fin.length/\p^((2*expo p (2*k) (2*k)+1)*(n-1))<=2097152/\
   Rt 40 [.int .i64 ((fin.getD (k%fin.length) 0:Nat):Int),.int .i64 ((p^((2*expo p (2*k) (2*k)+1)*(n-1)):Nat):Int)] [] D []):
  Rt 16 [.vec hs n ch,.int .i64 (p:Int),.int .i64 (k:Int)] [] (.tup [D,.int .i64 e]) []:=by
 obtain ⟨b1,b2,rfl⟩:=hD
 have c0:qX [.vec hs n ch]=true:=by simp only [qX,hcl,qC]
 have cA:∀y:Int,qX [.vec hs n ch,.int .i64 (p:Int),.int .i64 y]=true:=fun y=>by simp only [qX,hcl];rfl
 have cV:AV.closed (.tup [.vec (ints fin) fin.length c,.int .i64 e])=true:=by simp only [AV.closed,qX,qC]
 have t:=zuu (m:=(k:Int)) (b:=true) ⟨fun _=>by omega,fun _=>rfl⟩
 have hp':2<=p:=by have:=hp.1;omega
 have w1:IntKind.i64.wrap (2*(k:Int))=((2*k:Nat):Int):=wQ (by omega)
 have tv:=zof (p:=p) (n:=2*k) hp' (by omega) (by omega) (by omega)
 have hv:expo p (2*k) (2*k)<2000:=by
  have h1:=zxk (p:=p) (n:=2*k) hp' (by omega)
  have h2:=xU (n:=expo p (2*k) (2*k))
  have h3:=qR hp' (expo p (2*k) (2*k))
  omega
 generalize expo p (2*k) (2*k)=v at*
 have w2:IntKind.i64.wrap (2*(v:Int))=((2*v:Nat):Int):=wQ (by omega)
 have w3:IntKind.i64.wrap (((2*v:Nat):Int)+1)=((2*v+1:Nat):Int):=wQ (by omega)
 refine oF o16 ?_
 simp only [c16,r16_0,SS,reduceCtorEq]
 simp only [r16_1,SS,reduceCtorEq,reduceIte,qQ]
 refine zaa h1 ?_ c0
 simp only [zaj,zad,qJ,qY,SS,fC,reduceIte,qQ]
 simp only [r16_3,SS,reduceIte,qQ]
 refine zaa h2 ?_
 simp only [zaj,zad,qJ,qY,SS,fC,reduceIte,qQ]
 simp only [r16_5,SS,reduceIte,qQ]
 refine zaa t ?_
 simp only [zaj,zad,qJ,qY,SS,fC,reduceIte,qQ]
 simp only [r16_7,SS,reduceIte,qQ,w1]
 refine zaa tv ?_
 simp only [zaj,zad,qJ,qY,SS,reduceIte,qQ,w2,w3]
 simp only [r16_8,SS,reduceCtorEq,reduceIte,qQ]
 refine zaa hcnt ?_ (cA _) cV
 simp only [zaj,zad,qJ,qY,SS,reduceIte,qQ,qV,qW]
 simp only [r16_9,SS,reduceIte,qQ]
 rcases hok with ⟨he,hn⟩ | ⟨rfl,n1,n8,hM1,hA,tq⟩
 ·refine ⟨fun _=>?_,fun h=>absurd he h⟩
  rw [hn]
  simp only [r16_10,SS,reduceIte,qB,qQ,qA]
  exact ⟨.inl trivial,_,rfl,.drop _ _ rfl (by intro i cs h;omega)⟩
 ·refine ⟨fun h=>absurd rfl h,fun _=>?_⟩
  have hkM:=xW k hM1
  have ga:=zcm fin (k%fin.length) hkM AV.junk
  have et:Int.tmod (k:Int) (fin.length:Int)=((k%fin.length:Nat):Int):=rfl
  have w4:IntKind.i64.wrap ((n:Int)-1)=((n-1:Nat):Int):=wQ (by omega)
  have hen:(2*v+1)*(n-1)<=4001*8:=xQ (by omega) (by omega)
  have w5:IntKind.i64.wrap (((2*v+1:Nat):Int)*((n-1:Nat):Int))=(((2*v+1)*(n-1):Nat):Int):=by rw [<-qO];exact zim (by omega)
  have tp:=qab (p:=p) (e:=(2*v+1)*(n-1)) (by omega) (by omega) (by omega)
  simp only [r16_11,SS,fC,reduceCtorEq,reduceIte,qQ,et,qK,ga,zdb,w4,w5]
  refine ⟨by omega,⟨xT _,Int.ofNat_lt.2 hkM⟩,hkM,?_⟩
  refine zaa tp ?_
  simp only [zaj,zad,keys,qJ,qY,SS,reduceIte,qQ]
  refine zaa tq ?_
  simp only [zaj,zad,keys,qJ,qY,SS,reduceIte,qB,qQ,qA]
  refine ⟨rfl,?_⟩
  exact ⟨.inl trivial,_,rfl,.drop _ _ rfl (by intro i cs h;omega)⟩
end
open Go.Det
theorem jbv (a b:Nat):numR (a:Int) (b:Int)=((a/Nat.gcd a b:Nat):Int):=by
 unfold numR
 rw [xG,<-yC]
theorem jbw (a b:Nat):denR (a:Int) (b:Int)=((b/Nat.gcd a b:Nat):Int):=by
 unfold denR
 rw [xG,<-yC]
def RatF (D:AV):Prop:= ∃b1 b2 l1 l2 n1 n2 c1 c2,D= .agg [.bool b1,.vec l1 n1 c1,.bool b2,.vec l2 n2 c2]
theorem zlb {x y:Int} {v:AV} (h:zfw x y v):RatF v:=by
 obtain ⟨a1,a2,b1,b2,rfl,h1,h2⟩:=h
 obtain ⟨l1,k1,_,_,_,e1⟩:=h1
 obtain ⟨l2,k2,_,_,_,e2⟩:=h2
 simp only [AV.agg.injEq,List.cons.injEq,and_true] at e1 e2
 obtain ⟨rfl,rfl⟩:=e1
 obtain ⟨rfl,rfl⟩:=e2
 exact ⟨_,_,_,_,_,_,_,_,rfl⟩
theorem qjk {x y:Nat} {c d:Option Nat} (hx:x≠0) (hx':x<4294967296) (hy:y≠0) (hy':y<4294967296):zfw (x:Int) (y:Int) (fr x c y d):=⟨_,_,_,_,rfl,zxi hx hx',zxi hy hy'⟩
theorem qpp {d:Option Nat}:zfw 0 ((1:Nat):Int) (zf 1 d):=⟨_,_,_,_,rfl,zxj,zxi (by decide) (by decide)⟩
theorem quoP {s A:Nat} (hs:s<4294967296) (hA:A≠0) (hA':A<4294967296):∃(w:AV) (l1 l2:List AV) (n1 n2:Nat) (c1 c2:Option Nat),w.closed=true/\zfw (numR (s:Int) (A:Int)) (denR (s:Int) (A:Int)) (.agg [.bool false,.vec l1 n1 c1,.bool false,.vec l2 n2 c2])/\
  Rt 37 [.int .i64 (s:Int)] [] w []/\Rt 38 [w,fr A s2 1 s2] [] (.agg [.bool false,.vec l1 n1 c1,.bool false,.vec l2 n2 c2]) []:=by
 rw [jbv,jbw]
 rcases qM s with rfl | h0
 ·refine ⟨zf 1 s2,_,_,_,_,_,_,rfl,?_,qul,qcl hA hA'⟩
  rw [Nat.zero_div,Nat.gcd_zero_left,Nat.div_self (by omega)]
  exact qpp
 ·have tq:=qce (x:=s) (y:=1) (u:=A) (v:=1) (c:=none) (d:=s2) (e:=s2) (f:=s2) (by omega) hs (by decide) (by decide) hA hA' (by decide) (by decide) (yJ s) (yJ A) (by omega) (by omega)
  rw [yG,Nat.one_mul] at tq
  refine ⟨fr s none 1 s2,_,_,_,_,_,_,rfl,?_,qrf (by omega) hs,tq⟩
  exact qjk (qcd (by omega) (Nat.gcd_dvd_left s A)) (xA (xL _ _) hs) (qcd hA (Nat.gcd_dvd_right s A)) (xA (xL _ _) hA')
theorem qpq {M:List (List Int)} {a:AV} (hV:ImV M a) (h8:M.length<=8) (hr8:∀i,i<M.length->(M.getD i []).length<=8) (z m:Int):
  ∃(D1 D2:AV) (e x y:Int),zfw x y D1/\zfw x y D2/\Rt 15 [a,.int .i64 z,.int .i64 m] [] (.tup [D1,.int .i64 e]) []/\Rt 16 [a,.int .i64 z,.int .i64 m] [] (.tup [D2,.int .i64 e]) []:=by
 obtain ⟨bR,hbR⟩:=zok (zit M/\Red M.length (rowF M))
 obtain ⟨bP,hbP⟩:=zok (z<=9973/\PrmZ z)
 have t1:=zqb hV (by omega) (fun i hi=>by have:=hr8 i hi;omega) hbR
 have t2:=zkh hV h8 hr8 hbR
 have hca:a.closed=true:=hV.closed
 have t3:=zpy t1 hca hbP
 have t4:=qaa hbP
 have hV0:=hV
 obtain ⟨rows,ch,rfl,hl,hr⟩:=hV.val
 by_cases he:chkZ bR bP=0
 rotate_left
 ·exact ⟨nilR,nilR,chkZ bR bP,0,0,zfz,zfz,qwm hca he t3,qpn hca t2 t4 he⟩
 obtain ⟨rfl,rfl⟩:bR=true/\bP=true:=by
  revert he
  cases bR<;>cases bP<;>decide
 have t3:Rt 26 [.vec rows M.length ch,.int .i64 z] [] (.int .i64 0) []:=t3
 by_cases hm:m<1\/1000<m
 ·exact ⟨nilR,nilR,1,0,0,zfz,zfz,qwn hca t3 hm,qpo hca t2 t4 hm⟩
 obtain ⟨hz2,hP⟩:=hbP.1 rfl
 have hz:=hP.1
 obtain ⟨p,rfl⟩:∃p:Nat,z=(p:Int):=⟨z.toNat,by omega⟩
 obtain ⟨k,rfl⟩:∃k:Nat,m=(k:Int):=⟨m.toNat,by omega⟩
 have hv:expo p (2*k) (2*k)<2000:=by
  have h1:=zxk (p:=p) (n:=2*k) (by omega) (by omega)
  have h2:=xU (n:=expo p (2*k) (2*k))
  have h3:=qR (show 2<=p by omega) (expo p (2*k) (2*k))
  omega
 obtain ⟨fin,c,e,hlen,hok,c1,c2⟩:=qdf hV0 h8 hr8 (z:=(p:Int)) (k:=((2*expo p (2*k) (2*k)+1:Nat):Int)) (by unfold In64;omega)
 by_cases hce:e=0
 rotate_left
 ·exact ⟨nilR,nilR,e,0,0,zfz,zfz,qjj hca t3 hP (by omega) (by omega) rfl c1 (.inl ⟨hce,rfl⟩),qai hca t2 t4 hP (by omega) (by omega) ⟨_,_,rfl⟩ c2 (.inl ⟨hce,rfl⟩)⟩
 subst hce
 obtain ⟨n1,n8,p',e',hpp,hee,_,_,hfl,hpow,hbd⟩:=hok rfl
 obtain rfl:p=p':=by omega
 obtain rfl:2*expo p (2*k) (2*k)+1=e':=by omega
 have hA:fin.length^(M.length-1)=p^((2*expo p (2*k) (2*k)+1)*(M.length-1)):=by rw [hfl,<-yE]
 have hAle:p^((2*expo p (2*k) (2*k)+1)*(M.length-1))<=2097152:=qP (qD (by omega) (Nat.mul_le_mul_left _ (Nat.sub_le _ _))) hpow
 have hA0:p^((2*expo p (2*k) (2*k)+1)*(M.length-1))≠0:=Nat.ne_of_gt (Nat.pow_pos (by omega))
 have hf1:1<=fin.length:=by rw [hfl];exact Nat.pow_pos (by omega)
 have hs:=hbd (k%fin.length)
 obtain ⟨w,l1,l2,m1,m2,k1,k2,hcw,hrat,tw,tq⟩:=quoP (s:=fin.getD (k%fin.length) 0) (A:=p^((2*expo p (2*k) (2*k)+1)*(M.length-1))) (by omega) hA0 (by omega)
 obtain ⟨D2,hrat2,tR⟩:=qzp (a:=fin.getD (k%fin.length) 0) (b:=p^((2*expo p (2*k) (2*k)+1)*(M.length-1))) (by omega) hA0 (by omega)
 obtain ⟨b1,b2,r1,r2,q1,q2,o1,o2,rfl⟩:=zlb hrat2
 refine ⟨_,_,0,_,_,hrat,hrat2,?_,?_⟩
 ·exact qjj hca t3 hP (by omega) (by omega) rfl c1 (.inr ⟨rfl,n1,n8,hf1,hlen,by rw [hA];omega,w,hcw,tw,by rw [hA];exact tq⟩)
 ·exact qai hca t2 t4 hP (by omega) (by omega) ⟨_,_,rfl⟩ c2 (.inr ⟨rfl,n1,n8,hf1,hAle,tR⟩)
end Go.Proofs.YtpflahgcdgdkjaaGreatDoor
namespace Go.Proofs.YtpflahgcdgdkjaaGreatDoor
open Nat renaming reduceEqDiff -> qQ, reduceLeDiff -> qA, reduceAdd -> qB, lt_or_ge -> qS
open Int renaming toNat_natCast -> qK, tmod_eq_emod_of_nonneg -> xB
open Go Go.AL Go.Proofs
def r10_0:RL:=[oP 6 (.mov (kI 0))]
def r10_1:RL:=[oP 7 (.mov (kI 1))]
def r10_2:RL:=[oP 8 (.mov (kI 0))]
def r10_3:RL:=[mV 9 8,mV 10 1,bT 11 .lss 9 10,mV 12 11,gU 13 12 true (.mov (.t 7)),gU 14 12 true (.mov (.t 2)),gU 15 12 true (.bin .leq (.t 13) (.t 14)),oP 16 (.pick (.t 12) (.t 15) (.k (.bool false)))]
def r10_4:RL:=[mV 19 7,mV 20 0,bT 21 .mul 19 20,mV 7 21]
def r10_5:RL:=[mV 17 8,bK 18 .add 17 1,mV 8 18]
def l10_0:CC:=(.seq (.seq (rN r10_3) (.cond (.t 16) .skip (.exit 0))) (.seq (.block 1 (rN r10_4)) (rN r10_5)))
def r10_6:RL:=[mV 22 7,mV 6 22]
def c10:CC:=(.seq (rN r10_0) (.seq (rN r10_1) (.seq (.seq (rN r10_2) (.block 0 (.loop l10_0))) (.seq (rN r10_6) .ret))))
theorem o10:FnI 10 23 Tryz.f10 c10 [(.tmp 6)]:=⟨Tryz.func10,by kernel_rfl⟩
theorem qwo {M:List (List Int)} {a:AV} (h:ImV M a) {b:Bool} (hb:b=true↔8<M.length\/∃i,i<M.length/\8<(M.getD i []).length):Rt 6 [a] [] (.bool b) []:=by
 obtain ⟨rows,c,rfl,hl,hr⟩:=h.val
 refine oF o6 ?_
 rcases qS 8 M.length with h0 | h0
 ·obtain rfl:b=true:=hb.2 (.inl h0)
  simp only [c6,r6_0,r6_1,SS,reduceCtorEq,reduceIte,qQ]
  refine ⟨fun _=>?_,fun e=>absurd e (by omega)⟩
  simp only [r6_2,SS]
  exact ⟨.inl trivial,_,rfl,.keep _ _⟩
 simp only [c6,r6_0,r6_1,SS,reduceCtorEq,reduceIte,qQ]
 refine ⟨fun e=>absurd e (by omega),fun _=>?_⟩
 simp only [r6_3,SS,reduceCtorEq,reduceIte,qQ]
 refine zai (fun k E H=>∃i,i+k=M.length/\E 8= .vec rows M.length c/\E 9= .int .i64 (M.length:Nat)/\E 10= .int .i64 (i:Nat)/\H=[]/\∀t,t<i->(M.getD t []).length<=8) (n:=M.length) ⟨0,by omega,by simp only [UU,qQ,reduceIte],by simp only [UU,qQ,reduceIte],by simp only [UU,qQ,reduceIte];rfl,rfl,fun t ht=>absurd ht (by omega)⟩ ?_
 rintro k E H ⟨i,hik,h8,h9,h10,rfl,hgood⟩
 refine wM ?_
 simp only [l6_0,r6_4,SS,reduceCtorEq,reduceIte,h9,h10]
 refine ⟨fun hlt=>?_,fun hge=>?_⟩
 ·obtain ⟨k,rfl⟩:∃k',k=k'+1:=⟨k-1,by omega⟩
  obtain ⟨ci,ei⟩:=hr i (by omega)
  have w5:=wS1 i (by omega)
  simp only [r6_5,r6_6,SS,fC,reduceIte,qQ,h8,h10,qK,ei,hl]
  refine ⟨⟨by omega,by omega⟩,by omega,fun hgt=>?_,fun hng=>?_⟩
  ·obtain rfl:b=true:=hb.2 (.inr ⟨i,by omega,by omega⟩)
   simp only [r6_7,SS]
   exact ⟨.inl trivial,_,rfl,.keep _ _⟩
  ·simp only [r6_8,SS,reduceIte,qQ,h10,w5]
   refine ⟨k,_,_,by omega,⟨i+1,by omega,?_,?_,?_,rfl,fun t ht=>?_⟩,.refl⟩
   ·simp only [UU,qQ,h8]
   ·simp only [UU,qQ,h9]
   ·simp only [UU,qQ,reduceIte]
   ·rcases (by omega:t<i\/t=i) with e | e
    ·exact hgood t e
    ·subst e;omega
 ·obtain rfl:b=false:=by
   cases b with
   | false=>rfl
   | true=>
    rcases hb.1 rfl with e | ⟨t,ht,h⟩
    ·omega
    ·have:=hgood t (by omega);omega
  simp only [r6_9,SS]
  exact ⟨.inl trivial,_,rfl,.keep _ _⟩
theorem qwp {k:Int} (hk:0<=k/\k<256):∃z:Int,In64 z/\Rt 9 [.int .u8 k] [] (.int .i64 z) []:=by
 have hm:(k%20).toNat<20:=by omega
 have gc:=zbq [2,3,5,7,2,3,5,11,13,17,19,23,3,2,9973,10007,1,4,9,-3] (k%20).toNat hm .junk
 have hz:In64 (([2,3,5,7,2,3,5,11,13,17,19,23,3,2,9973,10007,1,4,9,-3]:List Int).getD (k%20).toNat 0):=by
  have key:∀i,i<20-> -10<=([2,3,5,7,2,3,5,11,13,17,19,23,3,2,9973,10007,1,4,9,-3]:List Int).getD i 0/\([2,3,5,7,2,3,5,11,13,17,19,23,3,2,9973,10007,1,4,9,-3]:List Int).getD i 0<=20000:=by decide
  have:=key _ hm
  unfold In64
  omega
 generalize ([2,3,5,7,2,3,5,11,13,17,19,23,3,2,9973,10007,1,4,9,-3]:List Int).getD (k%20).toNat 0=z at*
 refine ⟨z,hz,?_⟩
 have gc':([.int .i64 2,.int .i64 3,.int .i64 5,.int .i64 7,.int .i64 2,.int .i64 3,.int .i64 5,.int .i64 11,.int .i64 13,.int .i64 17,.int .i64 19,.int .i64 23,.int .i64 3,.int .i64 2,.int .i64 9973,.int .i64 10007,.int .i64 1,.int .i64 4,.int .i64 9,.int .i64 (-3)]:List AV).getD (k%20).toNat .junk= .int .i64 z:=gc
 have wk:IntKind.i64.wrap k=k:=w64 (by omega) (by omega)
 have et:Int.tmod k 20=k%20:=xB hk.1
 have et':Int.tmod k ((20:Nat):Int)=k%20:=et
 refine oF o9 ?_
 simp only [c9,r9_0,r9_1,SS,reduceCtorEq,reduceIte,qB,qA]
 simp only [r9_2,SS,fC,reduceCtorEq,reduceIte,qB,qQ,qA,wk,et',gc']
 refine ⟨by decide,⟨by omega,by omega⟩,by omega,?_⟩
 exact ⟨.inl trivial,_,rfl,.drop _ _ rfl (by intro i cs h;omega)⟩
def pwF (z cap:Int):Nat->Int->Int
 | 0,n=>n
 | k+1,n=>if n<=cap then pwF z cap k (IntKind.i64.wrap (n*z)) else n
theorem qdg (z e cap:Int) (he:e<9223372036854775808):Rt 10 [.int .i64 z,.int .i64 e,.int .i64 cap] [] (.int .i64 (pwF z cap e.toNat 1)) []:=by
 refine oF o10 ?_
 simp only [c10,r10_0,r10_1,r10_2,SS,reduceCtorEq]
 refine zai (fun q E H=>∃(i:Nat) (n:Int),i+q=e.toNat/\H=[]/\pwF z cap q n=pwF z cap e.toNat 1/\E 0= .int .i64 z/\E 1= .int .i64 e/\E 2= .int .i64 cap/\E 7= .int .i64 n/\E 8= .int .i64 (i:Int)) (n:=e.toNat)
  ⟨0,1,by omega,rfl,rfl,by simp only [UU,qQ],by simp only [UU,qQ],by simp only [UU,qQ],by simp only [UU,qQ,reduceIte],by simp only [UU,qQ,reduceIte];rfl⟩ ?_
 rintro q E H ⟨i,n,hiq,rfl,hpw,e0,e1,e2,e7,e8⟩
 refine wM ?_
 cases q with
 | zero=>
  have d1:decide ((i:Int)<e)=false:=decide_eq_false (by omega)
  simp only [l10_0,r10_3,SS,fC,reduceCtorEq,reduceIte,qQ,e1,e2,e7,e8,d1]
  simp only [r10_6,SS,reduceIte,qQ,e7]
  rw [<-hpw]
  exact ⟨.inl trivial,_,rfl,.keep _ _⟩
 | succ q=>
  have d1:decide ((i:Int)<e)=true:=decide_eq_true (by omega)
  have w5:=wS1 i (by omega)
  by_cases hc:n<=cap
  ·have d2:decide (n<=cap)=true:=decide_eq_true hc
   simp only [l10_0,r10_3,SS,fC,reduceCtorEq,reduceIte,qQ,e1,e2,e7,e8,d1,d2]
   simp only [r10_4,r10_5,SS,reduceCtorEq,reduceIte,qQ,e0,e7,e8,w5]
   refine ⟨q,_,_,by omega,⟨i+1,IntKind.i64.wrap (n*z),by omega,rfl,?_,?_,?_,?_,?_,?_⟩,.refl⟩
   ·rw [<-hpw]
    simp only [pwF,if_pos hc]
   ·simp only [UU,qQ,e0]
   ·simp only [UU,qQ,e1]
   ·simp only [UU,qQ,e2]
   ·simp only [UU,qQ,reduceIte]
   ·simp only [UU,qQ,reduceIte]
  ·have d2:decide (n<=cap)=false:=decide_eq_false hc
   simp only [l10_0,r10_3,SS,fC,reduceCtorEq,reduceIte,qQ,e1,e2,e7,e8,d1,d2]
   simp only [r10_6,SS,reduceIte,qQ,e7]
   rw [<-hpw]
   simp only [pwF,if_neg hc]
   exact ⟨.inl trivial,_,rfl,.keep _ _⟩
end Go.Proofs.YtpflahgcdgdkjaaGreatDoor
namespace Go.Proofs.YtpflahgcdgdkjaaGreatDoor
open Int renaming emod_lt_of_pos -> xZ, emod_nonneg -> xY
open Go Go.AL Go.Det
def zhm (l:List Int) (k:Nat):Int:=l.getD k 0
def zhn (l:List Int) (k:Nat):Nat:=if k<l.length then k+1 else k
def zdh (l:List Int) (k:Nat):Int:=zhm l k%256
def zba (l:List Int) (k:Nat):Nat->Nat
 | 0=>k
 | m+1=>zhn l (zba l k m)
theorem qpr {l:List Int} {k:Nat} (h:k<=l.length):zhn l k<=l.length:=by unfold zhn;split<;>omega
theorem zgn {l:List Int} {k:Nat} (h:k<=l.length):∀m,zba l k m<=l.length:=by
 intro m
 induction m with
 | zero=>exact h
 | succ m ih=>exact qpr ih
theorem qjl (l:List Int) (k a:Nat):∀b,zba l (zba l k a) b=zba l k (a+b):=by
 intro b
 induction b with
 | zero=>rfl
 | succ b ih=>
  show zhn l (zba l (zba l k a) b)=zhn l (zba l k (a+b))
  rw [ih]
def diaM (l:List Int) (k n:Nat) (most:Int):List (List Int):=mkM n fun i j=>if i=j then 1+zdh l (zba l k i)%most else 0
def triK:Nat->Nat
 | 0=>0
 | i+1=>triK i+i
def offZ (l:List Int) (k i j:Nat):Int:=Int.tmod (zhm l (zba l k (triK i+j))) 3
def genM (l:List Int) (k n:Nat):List (List Int):=mkM n fun i j=>if i=j then 1+zdh l (zba l k i)%6 else if j<i then offZ l (zba l k n) i j else offZ l (zba l k n) j i
def zbw (n:Nat) (fork:Bool) (i k:Nat):Bool:=if fork=true/\i+1=n/\3<n then k+2 == i else k+1 == i
def zbv (n:Nat) (fork:Bool):List (List Int):=mkM n fun i j=>if i=j then 2 else if zbw n fork i j=true\/zbw n fork j i=true then -1 else 0
def qdh (M:List (List Int)) (i:Nat) (z:Int):List (List Int):=setM M i i (ent M i i+z)
theorem zfj (l:List Int) (k:Nat) {m:Int} (hm:1<=m):0<=zdh l k%m/\zdh l k%m<m:=⟨xY _ (by omega),xZ _ (by omega)⟩
theorem zsm (l:List Int) (k i j:Nat): -2<=offZ l k i j/\offZ l k i j<=2:=by
 unfold offZ
 have:=Int.tmod_lt_of_pos (zhm l (zba l k (triK i+j))) (show (0:Int)<3 by decide)
 have:=Int.lt_tmod_of_pos (zhm l (zba l k (triK i+j))) (show (0:Int)<3 by decide)
 omega
structure SmallG (n:Nat) (M:List (List Int)):Prop where
 shp:Shp n M
 sym:∀i j,i<n->j<n->ent M i j=ent M j i
 bnd:∀i j,-16<=ent M i j/\ent M i j<=16
theorem zsn {n:Nat} {f:Nat->Nat->Int} (h1:∀i j,i<n->j<n->f i j=f j i) (h2:∀i j,i<n->j<n-> -16<=f i j/\f i j<=16):SmallG n (mkM n f):=by
 refine ⟨zcg n f,fun i j hi hj=>by rw [zby hi hj,zby hj hi];exact h1 i j hi hj,fun i j=>?_⟩
 by_cases h:i<n/\j<n
 ·rw [zby h.1 h.2];exact h2 i j h.1 h.2
 ·rw [(zcg n f).out (by omega)];omega
theorem zki {l:List Int} {k n:Nat} {most:Int} (h1:1<=most) (h2:most<=9):SmallG n (diaM l k n most):=by
 refine zsn (fun i j _ _=>?_) fun i j _ _=>?_
 ·by_cases h:i=j
  ·rw [h]
  ·have h':¬j=i:=fun e=>h e.symm
   rw [if_neg h,if_neg h']
 ·have:=zfj l (zba l k i) h1
  split<;>omega
theorem qjm {l:List Int} {k n:Nat}:SmallG n (genM l k n):=by
 refine zsn (fun i j _ _=>?_) fun i j _ _=>?_
 ·by_cases h:i=j
  ·rw [h]
  ·have h':¬j=i:=fun e=>h e.symm
   rw [if_neg h,if_neg h']
   by_cases h2:j<i
   ·have h3:¬i<j:=by omega
    rw [if_pos h2,if_neg h3]
   ·have h3:i<j:=by omega
    rw [if_neg h2,if_pos h3]
 ·have:=zfj l (zba l k i) (show (1:Int)<=6 by decide)
  have:=zsm l (zba l k n) i j
  have:=zsm l (zba l k n) j i
  split
  ·omega
  ·split<;>omega
theorem zol {n:Nat} {fork:Bool}:SmallG n (zbv n fork):=by
 refine zsn (fun i j _ _=>?_) fun i j _ _=>?_
 ·by_cases h:i=j
  ·rw [h]
  ·have h':¬j=i:=fun e=>h e.symm
   rw [if_neg h,if_neg h']
   by_cases h2:zbw n fork i j=true\/zbw n fork j i=true
   ·rw [if_pos h2,if_pos h2.symm]
   ·have h3:¬(zbw n fork j i=true\/zbw n fork i j=true):=fun e=>h2 e.symm
    rw [if_neg h2,if_neg h3]
 ·split
  ·omega
  ·split<;>omega
theorem zer {n i:Nat} {fork:Bool} (hi:i<n):ent (zbv n fork) i i=2:=by
 unfold zbv
 rw [zby hi hi,if_pos rfl]
theorem zqc {n i:Nat} {M:List (List Int)} {z:Int} (h:SmallG n M) (hi:i<n) (hd:ent M i i=2) (hz:0<=z/\z<=3):SmallG n (qdh M i z):=by
 unfold qdh
 refine ⟨h.shp.set hi,fun s t hs ht=>?_,fun s t=>?_⟩
 ·rw [h.shp.ent_set hi hi,h.shp.ent_set hi hi]
  by_cases e:s=i/\t=i
  ·rw [if_pos e,if_pos ⟨e.2,e.1⟩]
  ·rw [if_neg e,if_neg (fun x=>e ⟨x.2,x.1⟩)];exact h.sym s t hs ht
 ·rw [h.shp.ent_set hi hi]
  have:=h.bnd s t
  split<;>omega
def rawM (l:List Int) (kind n:Nat):List (List Int):=
 if kind<4 then genM l 0 n else if kind=4 then qdh (zbv n false) 0 (zdh l 0%3) else if kind=5 then qdh (zbv n true) (n-1) (zdh l 0%2) else if kind=6 then diaM l 0 n 9 else diaM l 0 n 1
def rawK (l:List Int) (kind n:Nat):Nat:=
 if kind<4 then zba l 0 (n+triK n) else if kind=4 then zhn l 0 else if kind=5 then zhn l 0 else zba l 0 n
theorem zuv {l:List Int} {kind n:Nat} (hn:1<=n):SmallG n (rawM l kind n):=by
 unfold rawM
 split
 ·exact qjm
 split
 ·exact zqc zol (by omega) (zer (by omega)) (by have:=zfj l 0 (show (1:Int)<=3 by decide);omega)
 split
 ·exact zqc zol (by omega) (zer (by omega)) (by have:=zfj l 0 (show (1:Int)<=2 by decide);omega)
 split
 ·exact zki (by decide) (by decide)
 ·exact zki (by decide) (by decide)
theorem qjn {l:List Int} {k n i j:Nat} {most:Int} (hi:i<n) (hj:j<n):ent (diaM l k n most) i j=if i=j then 1+zdh l (zba l k i)%most else 0:=by
 unfold diaM
 rw [zby hi hj]
end Go.Proofs.YtpflahgcdgdkjaaGreatDoor
namespace Go.Proofs.YtpflahgcdgdkjaaGreatDoor
open Nat renaming reduceEqDiff -> qQ, reduceLeDiff -> qA, reduceAdd -> qB, le_refl -> qG, sub_self -> qI, zero_add -> xH, mul_one -> yG, not_lt_zero -> yI
open List renaming getD_eq_getElem?_getD -> qZ, replicate_zero -> qJ, getElem?_cons_succ -> qW, append_nil -> qY, getElem?_eq_getElem -> qU, getElem?_append_right -> qE, set_append_right -> qH, take_of_length_le -> qL, getElem?_map -> qT, ext_getElem -> xX, append_assoc -> xK, mem_of_getElem? -> xM, take_add_one -> yZ, length_cons -> yV, getElem_set -> yA, length_take -> yB
open Int renaming toNat_natCast -> qK, emod_lt_of_pos -> xZ, emod_nonneg -> xY, tmod_eq_emod_of_nonneg -> xB
open Option renaming getD_some -> yW
open Go Go.AL Go.Proofs Go.Limb
def i8z (l:List Int):List AV:=l.map fun z=>AV.int .i8 z
theorem zxs (l:List Int):(i8z l).length=l.length:=by simp [i8z]
theorem qps (l:List Int) (j:Nat) (h:j<l.length) (d:AV):(i8z l).getD j d= .int .i8 (l.getD j 0):=by simp [i8z,h]
def zdd (l:List Int) (c:Option Nat) (k:Nat):List AV:=[.vec (i8z l) l.length c,.int .i64 (k:Nat)]
def zkj (l:List Int):Prop:=l.length<9223372036854775808/\∀z∈l,-128<=z/\z<128
theorem zuw {l:List Int} (h:zkj l) (k:Nat): -128<=zhm l k/\zhm l k<128:=by
 unfold zhm
 rw [qZ]
 cases e:l[k]? with
 | none=>simp
 | some z=>exact h.2 z (xM e)
theorem qzz {l:List Int} {c:Option Nat} {k:Nat} (h:zkj l) (hk:k<=l.length):Rt 135 [.ptr 0 0] [some (zdd l c k)] (.int .i64 (zhm l k)) [some (zdd l c (zhn l k))]:=by
 have hl:=h.1
 have hz:=zuw h k
 refine oF o135 ?_
 simp only [c135,r135_0,r135_1,SS,fC,reduceCtorEq,reduceIte,qB,qQ,qA,zdd]
 refine ⟨rfl,fun hge=>?_,fun hlt=>?_⟩
 ·have e1:zhm l k=0:=by
   unfold zhm
   rw [qZ,List.getElem?_eq_none (by omega)];rfl
  have e2:zhn l k=k:=by unfold zhn;rw [if_neg (by omega)]
  simp only [r135_2,SS,e1,e2]
  exact ⟨.inl trivial,_,rfl,.keep _ _⟩
 ·have hkl:k<l.length:=by omega
  have e2:zhn l k=k+1:=by unfold zhn;rw [if_pos hkl]
  have w5:=wS1 k (by omega)
  have w6:IntKind.i64.wrap (((k+1:Nat):Int)-1)=(k:Int):=wQ (by omega)
  have w7:IntKind.i64.wrap (zhm l k)=zhm l k:=w64 (by omega) (by omega)
  have g:(i8z l).getD k .junk= .int .i8 (zhm l k):=qps l k hkl _
  simp only [r135_3,r135_4,SS,fC,reduceCtorEq,reduceIte,qB,qQ,qA,w5,w6,e2,qK,g,zxs,w7]
  refine ⟨⟨by omega,by omega⟩,by omega,rfl,?_⟩
  exact ⟨.inl trivial,_,rfl,.keep _ _⟩
theorem qjo {l:List Int} {c:Option Nat} {k:Nat} {m:Int} (h:zkj l) (hk:k<=l.length) (hm:1<=m/\m<1000000):Rt 67 [.ptr 0 0,.int .i64 m] [some (zdd l c k)] (.int .i64 (zdh l k%m)) [some (zdd l c (zhn l k))]:=by
 have hl:=h.1
 have hz:=zuw h k
 have hb:0<=zdh l k/\zdh l k<256:=by unfold zdh;omega
 have w1:IntKind.u8.wrap (zhm l k)=zdh l k:=by
  show zhm l k%256=_
  rfl
 have w2:IntKind.i64.wrap (zdh l k)=zdh l k:=w64 (by omega) (by omega)
 have w3:Int.tmod (zdh l k) m=zdh l k%m:=xB hb.1
 have w4:IntKind.i64.wrap (zdh l k%m)=zdh l k%m:=by
  have:=xY (zdh l k) (show m≠0 by omega)
  have:=xZ (zdh l k) (show 0<m by omega)
  exact w64 (by omega) (by omega)
 refine oF o67 ?_
 simp only [c67,r67_0,r67_1,SS,reduceCtorEq,reduceIte]
 refine zfx (id:=0) (qzz h hk) rfl rfl ?_
 simp only [zaj,SS,reduceIte,qQ,w1,w2,w3]
 refine ⟨by omega,?_⟩
 exact ⟨.inl trivial,_,rfl,.keep _ _⟩
def zjf (o n i:Nat):List AV:=(List.range i).map fun k=> .sl (o+k+1) 0 n 1 (some n)
def outO (o N n i:Nat):List AV:=zjf o n i++List.replicate (N-i) nilV
def bO (o N n:Nat) (rows:List (List Int)):Heap:=some (outO o N n rows.length)::rows.map fun r=>some (i64z r)
theorem zfb (o n i:Nat):(zjf o n i).length=i:=by simp [zjf]
theorem zkk {o N n i:Nat} (h:i<=N):(outO o N n i).length=N:=by simp [outO,zfb];omega
theorem zkl {o N n i k:Nat} (h:k<i):(outO o N n i).getD k .junk= .sl (o+k+1) 0 n 1 (some n):=by
 unfold outO zjf
 rw [qZ,List.getElem?_append_left (by simpa using h),qT,List.getElem?_range h]
 rfl
theorem qjp {o N n i:Nat} (h:i<N):(outO o N n i).set i (.sl (o+i+1) 0 n 1 (some n))=outO o N n (i+1):=by
 unfold outO
 have e:List.replicate (N-i) nilV=nilV::List.replicate (N-(i+1)) nilV:=by rw [<-List.replicate_succ];congr 1;omega
 have ez:zjf o n (i+1)=zjf o n i++[.sl (o+i+1) 0 n 1 (some n)]:=by simp [zjf,List.range_succ]
 rw [e,ez,qH _ _ (by rw [zfb];omega),zfb,qI]
 simp
section
variable {P:Heap} {o N n:Nat} {rows:List (List Int)}
theorem jaa (ho:P.length=o):(P++bO o N n rows).length=o+rows.length+1:=by simp [bO,ho];omega
theorem zfk (ho:P.length=o):getB (P++bO o N n rows) o=some (outO o N n rows.length):=by
 unfold getB
 rw [qE (by omega),ho,qI]
 rfl
theorem zlm (ho:P.length=o) {i:Nat} (h:i<rows.length):getB (P++bO o N n rows) (o+i+1)=some (i64z (rows.getD i [])):=by
 unfold getB bO
 rw [qE (by omega),ho,show o+i+1-o=i+1 by omega,qW,qT,qZ,qU h]
 rfl
theorem zux (ho:P.length=o) {i:Nat} (r:List Int):(P++bO o N n rows).set (o+i+1) (some (i64z r))=P++bO o N n (rows.set i r):=by
 rw [qH _ _ (by omega),ho,show o+i+1-o=i+1 by omega]
 unfold bO
 rw [List.set_cons_succ,List.length_set,List.map_set]
theorem jab (ho:P.length=o) (r:List Int) (h:rows.length<N):(P++bO o N n rows++[some (i64z r)]).set o (some ((outO o N n rows.length).set rows.length (.sl (o+rows.length+1) 0 n 1 (some n))))=P++bO o N n (rows++[r]):=by
 rw [qjp h,xK,qH _ _ (by omega),ho,qI]
 unfold bO
 simp
theorem jac (ho:P.length=o) (hN:rows.length=N) (hn:∀i,i<N->(rows.getD i []).length=n):frzI 0 (P++bO o N n rows) 3 (.sl o 0 N 1 (some N))=some (.vec (zco n rows) N (some N)):=by
 have e0:outO o N n rows.length=zjf o n N:=by
  unfold outO
  rw [hN,qI,qJ,qY]
 have key:(zjf o n N).mapM (frzI 0 (P++bO o N n rows) 2)=some (zco n rows):=by
  have:zco n rows=(List.range N).map fun k=>AV.vec (i64z (rows.getD k [])) n (some n):=by
   refine xX (by simp [zco,hN]) fun k h1 h2=>?_
   simp only [zco,List.getElem_map,List.getElem_range]
   have hk:k<rows.length:=by simpa [zco] using h1
   rw [qZ,qU hk]
   rfl
  rw [this]
  unfold zjf
  rw [List.mapM_map]
  have:∀l:List Nat,(∀k∈l,k<N)->l.mapM (fun k=>frzI 0 (P++bO o N n rows) 2 (.sl (o+k+1) 0 n 1 (some n)))=some (l.map fun k=>AV.vec (i64z (rows.getD k [])) n (some n)):=by
   intro l
   induction l with
   | nil=>intro _;rfl
   | cons k l ih=>
    intro h
    have hk:=h k (by simp)
    have e:frzI 0 (P++bO o N n rows) 2 (.sl (o+k+1) 0 n 1 (some n))=some (.vec (i64z (rows.getD k [])) n (some n)):=by
     rw [frzI]
     have hl:=hn k hk
     simp only [yI,if_false,zlm ho (show k<rows.length by omega),need,xH,yG,zav,hl,qG,if_true,List.drop_zero]
     rw [qL (by rw [zav];omega),zsi]
     rfl
    rw [List.mapM_cons,e,ih (fun x hx=>h x (by simp [hx]))]
    rfl
  exact this _ (fun k hk=>List.mem_range.1 hk)
 rw [frzI]
 simp only [yI,if_false,zfk ho,e0,need,xH,yG,zfb,qG,if_true,List.drop_zero]
 rw [qL (by rw [zfb];omega),key]
 rfl
end
def tP (l:List Int) (c:Option Nat) (k:Nat):Heap:=[some (zdd l c k)]
theorem zqd (l:List Int) (c:Option Nat) (k:Nat):(tP l c k).length=1:=rfl
theorem qru (l:List Int) (c:Option Nat) (k:Nat) (X:Heap):getB (tP l c k++X) 0=some (zdd l c k):=rfl
theorem qrv (l:List Int) (c:Option Nat) (k k':Nat) (X:Heap):(tP l c k++X).set 0 (some (zdd l c k'))=tP l c k'++X:=rfl
theorem zom (l:List Int) (k n:Nat) (most:Int):Shp n (diaM l k n most):=zcg _ _
theorem qwq {l:List Int} {k n i:Nat} {most:Int} (hi:i<n):(diaM l k n most).getD i []=(List.replicate n 0).set i (1+zdh l (zba l k i)%most):=by
 have hr:=(zom l k n most).row i hi
 refine xX (by rw [hr];simp) fun t h1 h2=>?_
 have ht:t<n:=by omega
 have e:ent (diaM l k n most) i t=if i=t then 1+zdh l (zba l k i)%most else 0:=by
  unfold diaM
  rw [zby hi ht]
 unfold ent at e
 rw [qZ,qU h1] at e
 rw [yA]
 simp only [yW] at e
 rw [e]
 by_cases hit:i=t
 ·rw [if_pos hit,if_pos hit]
 ·rw [if_neg hit,if_neg hit];simp
theorem zkm {l:List Int} {c:Option Nat} {k n:Nat} {most:Int} (h:zkj l) (hk:k<=l.length) (hn:1<=n/\n<=8) (hm:1<=most/\most<=9):
  Rt 68 [.ptr 0 0,.int .i64 (n:Nat),.int .i64 most] [some (zdd l c k)] (.sl 1 0 n 1 (some n)) (tP l c (zba l k n)++bO 1 n n (diaM l k n most)):=by
 have hD:=zom l k n most
 refine oF o68 ?_ (by simp) (by simp only [List.length_append,zqd,yV,List.length_nil];omega)
 simp only [c68,r68_0,r68_1,SS,reduceCtorEq,reduceIte,qQ,qK]
 refine ⟨by decide,⟨by omega,by omega,by omega,by omega⟩,?_⟩
 simp only [r68_2,SS,reduceIte,qQ]
 refine zai (fun q E H=>∃i,i+q=n/\H=tP l c (zba l k i)++bO 1 n n ((diaM l k n most).take i)/\E 0= .ptr 0 0/\E 1= .int .i64 (n:Nat)/\E 2= .int .i64 most/\E 7= .sl 1 0 n 1 (some n)/\E 12= .int .i64 (n:Nat)/\E 13= .int .i64 (i:Nat)) (n:=n)
  ⟨0,by omega,rfl,by simp only [UU,qQ],by simp only [UU,qQ],by simp only [UU,qQ],by simp only [UU,qQ,reduceIte],by simp only [UU,qQ,reduceIte],by simp only [UU,qQ,reduceIte];rfl⟩ ?_
 rintro q E H ⟨i,hiq,rfl,e0,e1,e2,e7,e12,e13⟩
 refine wM ?_
 simp only [l68_0,r68_3,SS,reduceCtorEq,reduceIte,e12,e13]
 refine ⟨fun hlt=>?_,fun hge=>?_⟩
 ·obtain ⟨q,rfl⟩:∃q',q=q'+1:=⟨q-1,by omega⟩
  have hi:i<n:=by omega
  have hDl:=hD.len
  have htl:((diaM l k n most).take i).length=i:=by rw [yB];omega
  have hki:=zgn hk i
  have w5:=wS1 i (by omega)
  have hP:=zqd l c (zba l k i)
  have hbl:=jaa (N:=n) (n:=n) (rows:=(diaM l k n most).take i) hP
  rw [htl] at hbl
  have hgo:getB (tP l c (zba l k i)++bO 1 n n ((diaM l k n most).take i)++[some (i64z (List.replicate n 0))]) 1=some (outO 1 n n i):=by
   have:getB (tP l c (zba l k i)++bO 1 n n ((diaM l k n most).take i)) 1=some (outO 1 n n i):=by rw [zfk hP,htl]
   exact this
  have gol:=zkk (o:=1) (N:=n) (n:=n) (i:=i) (by omega)
  have hnew:=jab (N:=n) (n:=n) (rows:=(diaM l k n most).take i) hP (List.replicate n 0) (by omega)
  rw [htl] at hnew
  simp only [r68_4,r68_5,SS,reduceIte,qQ,e1,e7,e13,qK,hbl,zke,hgo,gol]
  refine ⟨by decide,⟨by omega,by omega,by omega,by omega⟩,⟨by omega,by omega⟩,by omega,?_⟩
  rw [hnew]
  have hrl:((diaM l k n most).take i++[List.replicate n 0]).length=i+1:=by simp;omega
  have ko:=zfk (N:=n) (n:=n) (rows:=(diaM l k n most).take i++[List.replicate n 0]) hP
  rw [hrl] at ko
  have kl:=zkk (o:=1) (N:=n) (n:=n) (i:=i+1) (by omega)
  have kg:=zkl (o:=1) (N:=n) (n:=n) (i:=i+1) (k:=i) (by omega)
  have hki1:=zgn hk (i+1)
  have tB:=qjo (l:=l) (c:=c) (k:=zba l k i) (m:=most) h hki (by omega)
  have hbz:=zfj l (zba l k i) hm.1
  have w6:IntKind.i64.wrap (zdh l (zba l k i)%most)=zdh l (zba l k i)%most:=w64 (by omega) (by omega)
  have w7:IntKind.i64.wrap (1+zdh l (zba l k i)%most)=1+zdh l (zba l k i)%most:=w64 (by omega) (by omega)
  simp only [r68_6,SS,fC,reduceCtorEq,reduceIte,qQ,e0,e2,e7,qK,ko,kl,kg]
  refine ⟨⟨by omega,by omega⟩,by omega,?_⟩
  refine zfx (id:=0) tB (qru _ _ _ _) rfl ?_
  have hP':=zqd l c (zba l k (i+1))
  have hnk:zhn l (zba l k i)=zba l k (i+1):=rfl
  have gr:=zlm (N:=n) (n:=n) (rows:=(diaM l k n most).take i++[List.replicate n 0]) hP' (i:=i) (by omega)
  have grr:((diaM l k n most).take i++[List.replicate n 0]).getD i []=List.replicate n 0:=by
   rw [qZ,qE (by omega),htl,qI];simp
  rw [grr] at gr
  have eset:((diaM l k n most).take i++[List.replicate n 0]).set i ((List.replicate n 0).set i (1+zdh l (zba l k i)%most))=(diaM l k n most).take (i+1):=by
   rw [qH _ _ (by omega),htl,qI,<-qwq hi]
   rw [yZ,qZ,qU (by omega)]
   rfl
  simp only [zaj,zad,keys,qJ,qY,SS,reduceIte,qQ,qrv,hnk,w7,gr,zav,List.length_replicate,qK,zdn]
  refine ⟨⟨by omega,by omega⟩,by omega,rfl,?_⟩
  rw [zux hP',eset]
  simp only [r68_7,SS,reduceIte,qQ,e13,w5]
  refine ⟨q,_,_,by omega,⟨i+1,by omega,rfl,?_,?_,?_,?_,?_,?_⟩,.refl⟩
  all_goals simp only [UU,qQ,reduceIte, *]
 ·have hin:i=n:=by omega
  subst hin
  have htl:(diaM l k i most).take i=diaM l k i most:=qL (by rw [hD.len];omega)
  rw [htl]
  simp only [r68_8,SS,reduceIte,qQ,e7]
  exact ⟨.inl trivial,_,rfl,.keep _ _⟩
end Go.Proofs.YtpflahgcdgdkjaaGreatDoor
