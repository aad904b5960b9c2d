/- A part of the proof. -/
import Derived.Test.YtpflahgcdgdkjaaGreatDoorPE
import Derived.Test.YtpflahgcdgdkjaaGreatDoorPA
import Derived.Test.YtpflahgcdgdkjaaGreatDoorPD
import Derived.Test.YtpflahgcdgdkjaaGreatDoorPC
namespace Go.Proofs.YtpflahgcdgdkjaaGreatDoor
open Nat renaming reduceEqDiff → qQ, lt_or_ge → qE, pow_le_pow_right → qI, le_trans → xK, lt_of_le_of_lt → xW, zero_le → xB, le_mul_of_pos_right → xE
open List renaming getD_eq_getElem?_getD → qV, getElem?_eq_getElem → qC, length_map → qN, getElem?_map → xA, ext_getElem → xD
open Go.AL.AV.closed renaming closedL → qK
open Int renaming natCast_mul → yX
open Bool renaming and_self → qD
set_option linter.unusedSimpArgs false
set_option linter.unusedVariables false
open Go Go.AL Go.Proofs Go.Det
set_option maxRecDepth 100000
theorem zwi (p:Prop):∃b:Bool,b=true↔p:=by
 by_cases h:p
 ·exact ⟨true,fun _=>h,fun _=>rfl⟩
 ·exact ⟨false,fun e=>by simp at e,fun e=>absurd e h⟩
theorem qms {n m:Nat} {M:List (List Int)} {hs:List AV} {ch:Option Nat} (hIm:ImV M (.vec hs n ch)) (hS:Shp n M) (hsy:∀i j,i<n→j<n→ent M i j=ent M j i) (hn:1≤n∧n≤8) (hm:2≤m) (hm2:m≤2097152) (hpow:m^n<2^60):
  ∃fin:List Nat,fin.length=m∧(∀t,fin.getD t 0=(Count.allV m n).countP fun y=>decide (Count.nrm (gN n M m) n y%m=t))∧Ret Tryz.prog G 28 [.vec hs n ch,.int .i64 (m:Int)] [] (.vec (ints fin) m (some m)) []:=by
 have hTs:Shp n (modM n M (m:Int)):=zcj _ _
 have hgs:∀j k,j<n→k<n→Count.ent (gN n M m) j k=Count.ent (gN n M m) k j:=by
  intro j k hj hk
  rw [qgp,qgp]
  unfold modM
  rw [zcd hj hk,zcd hk hj,hsy j k hj hk]
 obtain ⟨fin,h1,h2,h3⟩:=Count.runC_ok (g:=gN n M m) (n:=n) (M:=m) (by omega) hgs
 refine ⟨fin,h2,h3,?_⟩
 have tR:=qba hIm hS hn (m:=(m:Int)) (by omega)
 refine znp (g:=gN n M m) (by omega) (by omega) (by omega) hpow tR (by simp [zcp,hTs.len]) (fun i hi=>⟨some n,?_⟩) (fun i hi=>?_) (fun i hi a ha=>?_) h1 h2
 ·have hi':i<(modM n M (m:Int)).length:=by rw [hTs.len];exact hi
  rw [zyj,←qgq (fun z hz=>(zyk (by omega) z hz).1)]
  unfold zcp
  rw [xA,qC hi',qV,qC hi']
  rfl
 ·rw [zyj,qN,hTs.row i hi]
 ·rw [zyj] at ha
  obtain ⟨z,hz,rfl⟩:=List.mem_map.1 ha
  have:=zyk (by omega) z hz
  omega
theorem qgz {a b:List Nat} {m:Nat} (ha:a.length=m) (hb:b.length=m) (h:∀t,a.getD t 0=b.getD t 0):a=b:=by
 refine xD (ha.trans hb.symm) fun i h1 h2=>?_
 have:=h i
 rw [qV,qC h1,qV,qC h2] at this
 exact this
section
variable {hs:List AV} {ch:Option Nat} {n:Nat} {z k:Int}
theorem qwa (hcl:(AV.vec hs n ch).closed=true) {bR bP:Bool} (h1:Ret Tryz.prog G 29 [.vec hs n ch] [] (.bool bR) []) (h2:Ret Tryz.prog G 30 [.int .i64 z] [] (.bool bP) []) (he:chkZ bR bP≠0):Ret Tryz.prog G 12 [.vec hs n ch,.int .i64 z,.int .i64 k] [] (.tup [.vec [] 0 (some 0),.int .i64 (chkZ bR bP)]) []:=by
 have c0:qK [.vec hs n ch]=true:=by simp only [qK,hcl,qD]
 refine zai zah Tryz.func12 comp12 _ 36 res12 nt12 (by simp) (by simp) ?_
 simp only [c12,r12_0,r12_1,SS,reduceCtorEq,reduceIte]
 refine zab h1 ?_ c0
 simp only [zba,SS,reduceIte,qQ]
 cases bR with
 | false=>
  simp only [r12_2,SS,forall_const]
  exact ⟨.inl trivial,_,rfl,.keep _ _⟩
 | true=>
  simp only [r12_3,SS,forall_const,reduceIte,qQ]
  refine zab h2 ?_
  simp only [zba,SS,reduceIte,qQ]
  cases bP with
  | true=>exact absurd rfl he
  | false=>
   simp only [r12_4,SS,forall_const]
   exact ⟨.inl trivial,_,rfl,.keep _ _⟩
theorem qwb (hcl:(AV.vec hs n ch).closed=true) (h1:Ret Tryz.prog G 29 [.vec hs n ch] [] (.bool true) []) (h2:Ret Tryz.prog G 30 [.int .i64 z] [] (.bool true) []) (hk:k<1):Ret Tryz.prog G 12 [.vec hs n ch,.int .i64 z,.int .i64 k] [] (.tup [.vec [] 0 (some 0),.int .i64 1]) []:=by
 have c0:qK [.vec hs n ch]=true:=by simp only [qK,hcl,qD]
 have d1:decide (k<1)=true:=decide_eq_true hk
 refine zai zah Tryz.func12 comp12 _ 36 res12 nt12 (by simp) (by simp) ?_
 simp only [c12,r12_0,r12_1,SS,reduceCtorEq,reduceIte]
 refine zab h1 ?_ c0
 simp only [zba,SS,forall_const,reduceIte,qQ]
 simp only [r12_3,SS,reduceIte,qQ]
 refine zab h2 ?_
 simp only [zba,SS,forall_const,reduceIte,qQ]
 simp only [r12_5,r12_6,SS,forall_const,reduceIte,qQ,d1]
 exact ⟨.inl trivial,_,rfl,.keep _ _⟩
theorem qwc {p e:Nat} (hcl:(AV.vec hs n ch).closed=true) (h1:Ret Tryz.prog G 29 [.vec hs n ch] [] (.bool true) []) (h2:Ret Tryz.prog G 30 [.int .i64 (p:Int)] [] (.bool true) []) (hp:2≤p) (hp2:p≤9973) (he:1≤e) (hn:n≤8) (hpow:2097152<p^(e*n)):Ret Tryz.prog G 12 [.vec hs n ch,.int .i64 (p:Int),.int .i64 (e:Int)] [] (.tup [.vec [] 0 (some 0),.int .i64 7]) []:=by
 have c0:qK [.vec hs n ch]=true:=by simp only [qK,hcl,qD]
 have d1:decide ((e:Int)<1)=false:=decide_eq_false (by omega)
 refine zai zah Tryz.func12 comp12 _ 36 res12 nt12 (by simp) (by simp) ?_
 simp only [c12,r12_0,r12_1,SS,reduceCtorEq,reduceIte]
 refine zab h1 ?_ c0
 simp only [zba,SS,forall_const,reduceIte,qQ]
 simp only [r12_3,SS,reduceIte,qQ]
 refine zab h2 ?_
 simp only [zba,SS,forall_const,reduceIte,qQ]
 simp only [r12_5,SS,forall_const,reduceIte,qQ,d1]
 rcases qE 64 e with h | h
 ·have d2:decide (64<(e:Int))=true:=decide_eq_true (by omega)
  simp only [r12_7,r12_8,SS,forall_const,reduceCtorEq,reduceIte,qQ,d2]
  exact ⟨.inl trivial,_,rfl,.keep _ _⟩
 ·have d2:decide (64<(e:Int))=false:=decide_eq_false (by omega)
  have hen:e*n≤64*8:=Nat.mul_le_mul h hn
  have t:=qfr (p:=p) (e:=e*n) hp (by omega) (by omega) (b:=false) ⟨fun e=>by simp at e,fun e=>absurd e (by omega)⟩
  have w1:IntKind.i64.wrap ((e:Int)*(n:Int))=((e*n:Nat):Int):=by rw [←yX];exact zet (by omega)
  simp only [r12_7,SS,forall_const,reduceCtorEq,reduceIte,qQ,d2,w1]
  refine zab t ?_
  simp only [zba,SS,forall_const,reduceIte,qQ]
  simp only [r12_8,SS]
  exact ⟨.inl trivial,_,rfl,.keep _ _⟩
theorem qxt {p e:Nat} {v:AV} (hcl:(AV.vec hs n ch).closed=true) (h1:Ret Tryz.prog G 29 [.vec hs n ch] [] (.bool true) []) (h2:Ret Tryz.prog G 30 [.int .i64 (p:Int)] [] (.bool true) []) (hp:2≤p) (hp2:p≤9973) (he:1≤e) (he2:e≤64) (hn:1≤n∧n≤8) (hpow:p^(e*n)≤2097152)
  (hc:Ret Tryz.prog G 32 [.vec hs n ch,.int .i64 ((p^e:Nat):Int)] [] v []) (hv:v.closed=true):Ret Tryz.prog G 12 [.vec hs n ch,.int .i64 (p:Int),.int .i64 (e:Int)] [] (.tup [v,.int .i64 0]) []:=by
 have c0:qK [.vec hs n ch]=true:=by simp only [qK,hcl,qD]
 have c1:∀y,qK [.vec hs n ch,.int .i64 y]=true:=fun y=>by simp only [qK,hcl];rfl
 have d1:decide ((e:Int)<1)=false:=decide_eq_false (by omega)
 have d2:decide (64<(e:Int))=false:=decide_eq_false (by omega)
 have hen:e*n≤64*8:=Nat.mul_le_mul he2 hn.2
 have hee:e≤e*n:=xE e hn.1
 have hpe:p^e≤2097152:=xK (qI (by omega) hee) hpow
 have t:=qfr (p:=p) (e:=e*n) hp (by omega) (by omega) (b:=true) ⟨fun _=>hpow,fun _=>rfl⟩
 have t2:=qls (p:=p) (e:=e) (by omega) (by omega) (by omega)
 have w1:IntKind.i64.wrap ((e:Int)*(n:Int))=((e*n:Nat):Int):=by rw [←yX];exact zet (by omega)
 refine zai zah Tryz.func12 comp12 _ 36 res12 nt12 (by simp) (by simp) ?_
 simp only [c12,r12_0,r12_1,SS,reduceCtorEq,reduceIte]
 refine zab h1 ?_ c0
 simp only [zba,SS,forall_const,reduceIte,qQ]
 simp only [r12_3,SS,reduceIte,qQ]
 refine zab h2 ?_
 simp only [zba,SS,forall_const,reduceIte,qQ]
 simp only [r12_5,SS,forall_const,reduceIte,qQ,d1]
 simp only [r12_7,SS,forall_const,reduceCtorEq,reduceIte,qQ,d2,w1]
 refine zab t ?_
 simp only [zba,SS,forall_const,reduceIte,qQ]
 simp only [r12_9,SS,reduceCtorEq,reduceIte,qQ]
 refine zab t2 ?_
 simp only [zba,SS,reduceIte,qQ]
 refine zab hc ?_ (c1 _) hv
 simp only [zba,SS,reduceIte,qQ]
 exact ⟨.inl trivial,_,rfl,.keep _ _⟩
end
theorem qbk {M:List (List Int)} {a:AV} (hV:ImV M a) (h8:M.length≤8) (hr8:∀i,i<M.length→(M.getD i []).length≤8) {z k:Int} (hk:In64 k):
  ∃(fin:List Nat) (c:Option Nat) (e:Int),fin.length≤2097152∧Ret Tryz.prog G 11 [a,.int .i64 z,.int .i64 k] [] (.tup [.vec (ints fin) fin.length c,.int .i64 e]) []∧Ret Tryz.prog G 12 [a,.int .i64 z,.int .i64 k] [] (.tup [.vec (ints fin) fin.length c,.int .i64 e]) []:=by
 obtain ⟨bR,hbR⟩:=zwi (zjz M∧Red M.length (rowF M))
 obtain ⟨bP,hbP⟩:=zwi (z≤9973∧PrmZ z)
 have t1:=qbi hV (by omega) (fun i hi=>by have:=hr8 i hi;omega) hbR
 have t2:=zro hV h8 hr8 hbR
 have hca:a.closed=true:=hV.closed
 have t3:=qbe t1 hca hbP
 have t4:=qlr hbP
 have hV0:=hV
 obtain ⟨rows,ch,rfl,hl,hr⟩:=hV.val
 by_cases he:chkZ bR bP=0
 rotate_left
 ·exact ⟨[],some 0,chkZ bR bP,xB _,zwd hca he t3,qwa hca t2 t4 he⟩
 obtain ⟨rfl,rfl⟩:bR=true∧bP=true:=by
  revert he
  cases bR<;>cases bP<;>decide
 have t3:Ret Tryz.prog G 26 [.vec rows M.length ch,.int .i64 z] [] (.int .i64 0) []:=t3
 rcases Int.lt_or_le k 1 with h1 | h1
 ·exact ⟨[],some 0,1,xB _,zwe hca t3 h1,qwb hca t2 t4 h1⟩
 obtain ⟨hSm,hRed⟩:=hbR.1 rfl
 obtain ⟨hz,hz2,hz3,_⟩:=hbP.1 rfl
 obtain ⟨n1,n8,hS,hent⟩:=hSm
 obtain ⟨p,rfl⟩:∃p:Nat,z=(p:Int):=⟨z.toNat,by omega⟩
 obtain ⟨e,rfl⟩:∃e:Nat,k=(e:Int):=⟨k.toNat,by omega⟩
 have hk2:=hk.2
 rcases qE 2097152 (p^(e*M.length)) with hb | hb
 ·exact ⟨[],some 0,7,xB _,zwf hca t3 (by omega) (by omega) (by omega) (by omega) n8 hb,qwc hca t2 t4 (by omega) (by omega) (by omega) n8 hb⟩
 have hee:e≤e*M.length:=xE e n1
 have he64:e≤64:=by
  rcases qE 64 e with h | h
  ·have a1:=qI (n:=p) (by omega) (xK h hee)
   have a2:=Nat.pow_le_pow_left (show 2≤p by omega) 65
   have a3:(2097152:Nat)<2^65:=by decide
   exact absurd (xK (xK a2 a1) hb) (by omega)
  ·exact h
 have hpe:p^e≤2097152:=xK (qI (by omega) hee) hb
 have hm:2≤p^e:=by
  have:=qI (n:=p) (by omega) (show 1≤e by omega)
  rw [Nat.pow_one] at this;omega
 have hpn:(p^e)^M.length≤2097152:=by rw [←Nat.pow_mul];exact hb
 obtain ⟨fin,f1,f2,f3⟩:=qms hV0 hS (fun i j hi hj=>(hent i j hi hj).1) ⟨n1,n8⟩ hm hpe (xW hpn (by decide))
 obtain ⟨fin',g1,g2,g3⟩:=qmm hS hV0.fit ⟨n1,n8⟩ hm hpe hpn
 obtain rfl:fin'=fin:=qgz g1 f1 fun t=>by rw [g2,f2]
 have hcf:(AV.vec (ints fin') (p^e) (some (p^e))).closed=true:=by simp only [AV.closed]
 refine ⟨fin',some (p^e),0,by rw [g1];exact hpe,?_,?_⟩
 ·rw [g1]
  exact qmk hca t3 (by omega) (by omega) (by omega) n1 (by omega) hpn f3 hcf
 ·rw [g1]
  exact qxt hca t2 t4 (by omega) (by omega) (by omega) he64 ⟨n1,n8⟩ hb (g3 _ hV0) hcf
end Go.Proofs.YtpflahgcdgdkjaaGreatDoor
namespace Go.Proofs.YtpflahgcdgdkjaaGreatDoor
open Nat renaming reduceEqDiff → qQ, reduceLeDiff → qZ, reduceAdd → qJ, lt_or_ge → qE
open List renaming getD_cons_succ → qX, getD_cons_zero → qY, getElem?_append_left → xU
open Go.AL.AV.closed renaming closedL → qK
open Int renaming toNat_natCast → qW, tmod_eq_emod_of_nonneg → xV
set_option linter.unusedSimpArgs false
set_option linter.unusedVariables false
open Go Go.AL Go.Proofs
set_option maxRecDepth 100000
def r10_0:List COp:=[oP 6 (.mov (kI 0))]
def r10_1:List COp:=[oP 7 (.mov (kI 1))]
def r10_2:List COp:=[oP 8 (.mov (kI 0))]
def r10_3:List COp:=[mV 9 8,mV 10 1,oP 11 (.bin .lss (.t 9) (.t 10)),mV 12 11,gU 13 12 true (.mov (.t 7)),gU 14 12 true (.mov (.t 2)),gU 15 12 true (.bin .leq (.t 13) (.t 14)),oP 16 (.pick (.t 12) (.t 15) (.k (.bool false)))]
def r10_4:List COp:=[mV 19 7,mV 20 0,oP 21 (.bin .mul (.t 19) (.t 20)),mV 7 21]
def r10_5:List COp:=[mV 17 8,oP 18 (.bin .add (.t 17) (kI 1)),mV 8 18]
def l10_0:CC:=(.seq (.seq (.reg r10_3 none) (.cond (.t 16) .skip (.exit 0))) (.seq (.block 1 (.reg r10_4 none)) (.reg r10_5 none)))
def r10_6:List COp:=[mV 22 7,mV 6 22]
def c10:CC:=(.seq (.reg r10_0 none) (.seq (.reg r10_1 none) (.seq (.seq (.reg r10_2 none) (.block 0 (.loop l10_0))) (.seq (.reg r10_6 none) .ret))))
theorem comp10:CmpC Tryz.prog G Tryz.f10=some c10:=by kernel_rfl
theorem res10:Tryz.f10.results.toList=[(.tmp 6)]:=by kernel_rfl
theorem nt10:Tryz.f10.ntmps=23:=by kernel_rfl
theorem qta {M:List (List Int)} {a:AV} (h:ImV M a) {b:Bool} (hb:b=true↔8<M.length∨∃i,i<M.length∧8<(M.getD i []).length):Ret Tryz.prog G 6 [a] [] (.bool b) []:=by
 obtain ⟨rows,c,rfl,hl,hr⟩:=h.val
 refine zai zah Tryz.func6 comp6 _ 18 res6 nt6 (by simp) (by simp) ?_
 rcases qE 8 M.length with h0 | h0
 ·obtain rfl:b=true:=hb.2 (.inl h0)
  simp only [c6,r6_0,r6_1,SS,reduceCtorEq,reduceIte,qQ]
  refine ⟨fun _=>?_,fun e=>absurd e (by omega)⟩
  simp only [r6_2,SS]
  exact ⟨.inl trivial,_,rfl,.keep _ _⟩
 simp only [c6,r6_0,r6_1,SS,reduceCtorEq,reduceIte,qQ]
 refine ⟨fun e=>absurd e (by omega),fun _=>?_⟩
 simp only [r6_3,SS,reduceCtorEq,reduceIte,qQ]
 refine zal (fun k E H=>∃i,i+k=M.length∧E 8= .vec rows M.length c∧E 9= .int .i64 (M.length:Nat)∧E 10= .int .i64 (i:Nat)∧H=[]∧∀t,t<i→(M.getD t []).length≤8) (n:=M.length) ⟨0,by omega,by simp only [zaa,zac,qX,qQ,reduceIte,if_false],by simp only [zaa,zac,qX,qQ,reduceIte,if_false],by simp only [zaa,zac,qX,qQ,reduceIte,if_false];rfl,rfl,fun t ht=>absurd ht (by omega)⟩ ?_
 rintro k E H ⟨i,hik,h8,h9,h10,rfl,hgood⟩
 refine zaf zah ?_
 simp only [l6_0,r6_4,SS,reduceCtorEq,reduceIte,h9,h10]
 refine ⟨fun hlt=>?_,fun hge=>?_⟩
 ·obtain ⟨k,rfl⟩:∃k',k=k'+1:=⟨k-1,by omega⟩
  obtain ⟨ci,ei⟩:=hr i (by omega)
  have w5:IntKind.i64.wrap ((i:Int)+1)=((i+1:Nat):Int):=by rw [show (i:Int)+1=((i+1:Nat):Int) by omega];exact zet (by omega)
  simp only [r6_5,r6_6,SS,forall_const,reduceIte,qQ,h8,h10,qW,ei,hl]
  refine ⟨⟨by omega,by omega⟩,by omega,fun hgt=>?_,fun hng=>?_⟩
  ·obtain rfl:b=true:=hb.2 (.inr ⟨i,by omega,by omega⟩)
   simp only [r6_7,SS]
   exact ⟨.inl trivial,_,rfl,.keep _ _⟩
  ·simp only [r6_8,SS,reduceIte,qQ,h10,w5]
   refine ⟨k,_,_,by omega,⟨i+1,by omega,?_,?_,?_,rfl,fun t ht=>?_⟩,.refl⟩
   ·simp only [zaa,qQ,if_false,h8]
   ·simp only [zaa,qQ,if_false,h9]
   ·simp only [zaa,qQ,reduceIte,if_false]
   ·rcases (by omega:t<i∨t=i) with e | e
    ·exact hgood t e
    ·subst e;omega
 ·obtain rfl:b=false:=by
   cases b with
   | false=>rfl
   | true=>
    rcases hb.1 rfl with e | ⟨t,ht,h⟩
    ·omega
    ·have:=hgood t (by omega);omega
  simp only [r6_9,SS]
  exact ⟨.inl trivial,_,rfl,.keep _ _⟩
theorem qtb {k:Int} (hk:0≤k∧k<256):∃z:Int,In64 z∧Ret Tryz.prog G 9 [.int .u8 k] [] (.int .i64 z) []:=by
 have hm:(k%20).toNat<20:=by omega
 have gc:=zbv [2,3,5,7,2,3,5,11,13,17,19,23,3,2,9973,10007,1,4,9,-3] (k%20).toNat hm .junk
 have hz:In64 (([2,3,5,7,2,3,5,11,13,17,19,23,3,2,9973,10007,1,4,9,-3]:List Int).getD (k%20).toNat 0):=by
  have key:∀i,i<20→ -10≤([2,3,5,7,2,3,5,11,13,17,19,23,3,2,9973,10007,1,4,9,-3]:List Int).getD i 0∧([2,3,5,7,2,3,5,11,13,17,19,23,3,2,9973,10007,1,4,9,-3]:List Int).getD i 0≤20000:=by decide
  have:=key _ hm
  unfold In64
  omega
 generalize ([2,3,5,7,2,3,5,11,13,17,19,23,3,2,9973,10007,1,4,9,-3]:List Int).getD (k%20).toNat 0=z at*
 refine ⟨z,hz,?_⟩
 have gc':([.int .i64 2,.int .i64 3,.int .i64 5,.int .i64 7,.int .i64 2,.int .i64 3,.int .i64 5,.int .i64 11,.int .i64 13,.int .i64 17,.int .i64 19,.int .i64 23,.int .i64 3,.int .i64 2,.int .i64 9973,.int .i64 10007,.int .i64 1,.int .i64 4,.int .i64 9,.int .i64 (-3)]:List AV).getD (k%20).toNat .junk= .int .i64 z:=gc
 have wk:IntKind.i64.wrap k=k:=w64 (by omega) (by omega)
 have et:Int.tmod k 20=k%20:=xV hk.1
 have et':Int.tmod k ((20:Nat):Int)=k%20:=et
 refine zai zah Tryz.func9 comp9 _ 13 res9 nt9 (by simp) (by simp) ?_
 simp only [c9,r9_0,r9_1,SS,reduceCtorEq,reduceIte,qJ,qZ]
 simp only [r9_2,SS,forall_const,reduceCtorEq,reduceIte,qJ,qQ,qZ,wk,et',gc']
 refine ⟨by decide,⟨by omega,by omega⟩,by omega,?_⟩
 exact ⟨.inl trivial,_,rfl,.drop _ _ rfl (by intro i cs h;omega)⟩
theorem qmt (l:List Nat) (c:Option Nat) (h62:l.length<4611686018427387904):Ret Tryz.prog G 13 [.vec (ints l) l.length c,.vec (ints l) l.length c] [] (.bool true) []:=by
 refine zai zah Tryz.func13 comp13 _ 26 res13 nt13 (by simp) (by simp) ?_
 simp only [c13,r13_0,r13_1,SS,reduceCtorEq,reduceIte,qQ]
 refine ⟨fun e=>absurd rfl e,fun _=>?_⟩
 simp only [r13_3,SS,reduceCtorEq,reduceIte,qQ]
 refine zal (fun k E H=>∃i,i+k=l.length∧E 0= .vec (ints l) l.length c∧E 1= .vec (ints l) l.length c∧E 12= .int .i64 (l.length:Nat)∧E 13= .int .i64 (i:Nat)∧H=[]) (n:=l.length) ⟨0,by omega,by simp only [zaa,zac,qY,qQ,if_false],by simp only [zaa,zac,qY,qX,qQ,if_false],by simp only [zaa,zac,qX,qQ,reduceIte,if_false],by simp only [zaa,zac,qX,qQ,reduceIte,if_false];rfl,rfl⟩ ?_
 rintro k E H ⟨i,hik,h0,h1,h12,h13,rfl⟩
 refine zaf zah ?_
 simp only [l13_0,r13_4,SS,reduceCtorEq,reduceIte,h12,h13]
 refine ⟨fun hlt=>?_,fun hge=>?_⟩
 ·obtain ⟨k,rfl⟩:∃k',k=k'+1:=⟨k-1,by omega⟩
  have g:=zct l i (by omega) AV.junk
  have w5:IntKind.i64.wrap ((i:Int)+1)=((i+1:Nat):Int):=by rw [show (i:Int)+1=((i+1:Nat):Int) by omega];exact zet (by omega)
  simp only [r13_5,r13_6,SS,forall_const,reduceCtorEq,reduceIte,qQ,h0,h1,h13,qW,g,zdp]
  refine ⟨⟨by omega,by omega⟩,by omega,⟨by omega,by omega⟩,by omega,rfl,fun e=>absurd rfl e,fun _=>?_⟩
  simp only [r13_8,SS,reduceIte,qQ,h13,w5]
  refine ⟨k,_,_,by omega,⟨i+1,by omega,?_,?_,?_,?_,rfl⟩,.refl⟩<;>simp only [zaa,qQ,reduceIte,if_false, *]
 ·simp only [r13_9,SS]
  exact ⟨.inl trivial,_,rfl,.keep _ _⟩
def pwF (z cap:Int):Nat→Int→Int
 | 0,n=>n
 | k+1,n=>if n≤cap then pwF z cap k (IntKind.i64.wrap (n*z)) else n
theorem qbl (z e cap:Int) (he:e<9223372036854775808):Ret Tryz.prog G 10 [.int .i64 z,.int .i64 e,.int .i64 cap] [] (.int .i64 (pwF z cap e.toNat 1)) []:=by
 refine zai zah Tryz.func10 comp10 _ 23 res10 nt10 (by simp) (by simp) ?_
 simp only [c10,r10_0,r10_1,r10_2,SS,reduceCtorEq]
 refine zal (fun q E H=>∃(i:Nat) (n:Int),i+q=e.toNat∧H=[]∧pwF z cap q n=pwF z cap e.toNat 1∧E 0= .int .i64 z∧E 1= .int .i64 e∧E 2= .int .i64 cap∧E 7= .int .i64 n∧E 8= .int .i64 (i:Int)) (n:=e.toNat)
  ⟨0,1,by omega,rfl,rfl,by simp only [zaa,zac,qY,qQ,if_false],by simp only [zaa,zac,qY,qX,qQ,if_false],by simp only [zaa,zac,qY,qX,qQ,if_false],by simp only [zaa,zac,qX,qQ,reduceIte,if_false],by simp only [zaa,zac,qX,qQ,reduceIte,if_false];rfl⟩ ?_
 rintro q E H ⟨i,n,hiq,rfl,hpw,e0,e1,e2,e7,e8⟩
 refine zaf zah ?_
 cases q with
 | zero=>
  have d1:decide ((i:Int)<e)=false:=decide_eq_false (by omega)
  simp only [l10_0,r10_3,SS,forall_const,reduceCtorEq,reduceIte,qQ,e1,e2,e7,e8,d1]
  simp only [r10_6,SS,reduceIte,qQ,e7]
  rw [←hpw]
  exact ⟨.inl trivial,_,rfl,.keep _ _⟩
 | succ q=>
  have d1:decide ((i:Int)<e)=true:=decide_eq_true (by omega)
  have w5:IntKind.i64.wrap ((i:Int)+1)=((i+1:Nat):Int):=by rw [show (i:Int)+1=((i+1:Nat):Int) by omega];exact zet (by omega)
  by_cases hc:n≤cap
  ·have d2:decide (n≤cap)=true:=decide_eq_true hc
   simp only [l10_0,r10_3,SS,forall_const,reduceCtorEq,reduceIte,qQ,e1,e2,e7,e8,d1,d2]
   simp only [r10_4,r10_5,SS,reduceCtorEq,reduceIte,qQ,e0,e7,e8,w5]
   refine ⟨q,_,_,by omega,⟨i+1,IntKind.i64.wrap (n*z),by omega,rfl,?_,?_,?_,?_,?_,?_⟩,.refl⟩
   ·rw [←hpw]
    simp only [pwF,if_pos hc]
   ·simp only [zaa,qQ,if_false,e0]
   ·simp only [zaa,qQ,if_false,e1]
   ·simp only [zaa,qQ,if_false,e2]
   ·simp only [zaa,qQ,reduceIte,if_false]
   ·simp only [zaa,qQ,reduceIte,if_false]
  ·have d2:decide (n≤cap)=false:=decide_eq_false hc
   simp only [l10_0,r10_3,SS,forall_const,reduceCtorEq,reduceIte,qQ,e1,e2,e7,e8,d1,d2]
   simp only [r10_6,SS,reduceIte,qQ,e7]
   rw [←hpw]
   simp only [pwF,if_neg hc]
   exact ⟨.inl trivial,_,rfl,.keep _ _⟩
open Go.Limb
theorem qha {id k i:Nat}:zan [id] k (i+1)=k+i:=by simp [zan]
theorem zpe {id k:Nat}:zan [id] k 0=id:=by simp [zan]
theorem callA_one {f:FuncId} {args args0:List AV} {id:Nat} {cs cs':List AV} {v:AV} {H L:Heap} {K:AV→Eff→List Nat→Nat→Prop} (h:Ret Tryz.prog G f args0 [some cs] v (some cs'::L)) (hid:getB H id=some cs)
  (hargs:args=args0.map (AV.ren (zan [id] H.length))) (hu:AV.under.underL 1 args0=true) (hcs:qK cs=true) (hcs':qK cs'=true)
  (hk:K (v.ren (zan [id] H.length)) ((id,some cs')::effs (zan [id] H.length) 1 L) [id] L.length):zmr Tryz.prog G f args H K:=by
 have hlt:=zav hid
 have hid2:H[id]?=some (some cs):=zcz hid
 have:=CallR0.mk (P:= Tryz.prog) (Γ:=G) (f:=f) (args:=args) (k:=H.length) (H:=H++List.replicate L.length none) [id] args0 [some cs] v (some cs'::L) h rfl (by simp) (by simpa using hlt) hargs hu (by
  intro i c hi
  cases i with
  | zero=>
   simp at hi
   subst hi
   refine ⟨cs,rfl,zbt _ _ hcs,?_⟩
   rw [zpe,xU hlt,hid2]
   simp only [renB]
   rw [zbb _ _ hcs]
  | succ i=>simp at hi)
 refine ⟨_,_,_,_,.base this,?_⟩
 have e:effs (zan [id] H.length) 0 (some cs'::L)=(id,some cs')::effs (zan [id] H.length) 1 L:=by
  simp only [effs,zpe,renB]
  rw [zbb _ _ hcs']
 rw [e]
 simpa using hk
theorem zfz {f:FuncId} {args args0:List AV} {id:Nat} {cs cs':List AV} {v:AV} {H:Heap} {K:AV→Eff→List Nat→Nat→Prop} (h:Ret Tryz.prog G f args0 [some cs] v [some cs']) (hid:getB H id=some cs)
  (hargs:args=args0.map (AV.ren (zan [id] H.length))) (hk:K v [(id,some cs')] [id] 0) (hu:AV.under.underL 1 args0=true:=by rfl) (hcs:qK cs=true:=by rfl) (hcs':qK cs'=true:=by rfl) (hv:v.closed=true:=by rfl):zmr Tryz.prog G f args H K:=by
 refine callA_one h hid hargs hu hcs hcs' ?_
 rw [zex _ _ hv]
 exact hk
end Go.Proofs.YtpflahgcdgdkjaaGreatDoor
namespace Go.Proofs.YtpflahgcdgdkjaaGreatDoor
open Int renaming emod_lt_of_pos → xN, emod_nonneg → yZ
set_option linter.unusedSimpArgs false
set_option linter.unusedVariables false
open Go Go.AL Go.Det
def zhm (l:List Int) (k:Nat):Int:=l.getD k 0
def zhn (l:List Int) (k:Nat):Nat:=if k<l.length then k+1 else k
def zdi (l:List Int) (k:Nat):Int:=zhm l k%256
def zbe (l:List Int) (k:Nat):Nat→Nat
 | 0=>k
 | m+1=>zhn l (zbe l k m)
theorem qmu {l:List Int} {k:Nat} (h:k≤l.length):zhn l k≤l.length:=by unfold zhn;split<;>omega
theorem zgo {l:List Int} {k:Nat} (h:k≤l.length):∀m,zbe l k m≤l.length:=by
 intro m
 induction m with
 | zero=>exact h
 | succ m ih=>exact qmu ih
theorem qhb (l:List Int) (k a:Nat):∀b,zbe l (zbe l k a) b=zbe l k (a+b):=by
 intro b
 induction b with
 | zero=>rfl
 | succ b ih=>
  show zhn l (zbe l (zbe l k a) b)=zhn l (zbe l k (a+b))
  rw [ih]
def diaM (l:List Int) (k n:Nat) (most:Int):List (List Int):=mkM n fun i j=>if i=j then 1+zdi l (zbe l k i)%most else 0
def triK:Nat→Nat
 | 0=>0
 | i+1=>triK i+i
def offZ (l:List Int) (k i j:Nat):Int:=Int.tmod (zhm l (zbe l k (triK i+j))) 3
def genM (l:List Int) (k n:Nat):List (List Int):=mkM n fun i j=>if i=j then 1+zdi l (zbe l k i)%6 else if j<i then offZ l (zbe l k n) i j else offZ l (zbe l k n) j i
def zcb (n:Nat) (fork:Bool) (i k:Nat):Bool:=if fork=true∧i+1=n∧3<n then k+2 == i else k+1 == i
def zca (n:Nat) (fork:Bool):List (List Int):=mkM n fun i j=>if i=j then 2 else if zcb n fork i j=true∨zcb n fork j i=true then -1 else 0
def qbm (M:List (List Int)) (i:Nat) (z:Int):List (List Int):=setM M i i (ent M i i+z)
theorem zfm (l:List Int) (k:Nat) {m:Int} (hm:1≤m):0≤zdi l k%m∧zdi l k%m<m:=⟨yZ _ (by omega),xN _ (by omega)⟩
theorem zrp (l:List Int) (k i j:Nat): -2≤offZ l k i j∧offZ l k i j≤2:=by
 unfold offZ
 have:=Int.tmod_lt_of_pos (zhm l (zbe l k (triK i+j))) (show (0:Int)<3 by decide)
 have:=Int.lt_tmod_of_pos (zhm l (zbe l k (triK i+j))) (show (0:Int)<3 by decide)
 omega
structure SmallG (n:Nat) (M:List (List Int)):Prop where
 shp:Shp n M
 sym:∀i j,i<n→j<n→ent M i j=ent M j i
 bnd:∀i j,-16≤ent M i j∧ent M i j≤16
theorem zrq {n:Nat} {f:Nat→Nat→Int} (h1:∀i j,i<n→j<n→f i j=f j i) (h2:∀i j,i<n→j<n→ -16≤f i j∧f i j≤16):SmallG n (mkM n f):=by
 refine ⟨zcj n f,fun i j hi hj=>by rw [zcd hi hj,zcd hj hi];exact h1 i j hi hj,fun i j=>?_⟩
 by_cases h:i<n∧j<n
 ·rw [zcd h.1 h.2];exact h2 i j h.1 h.2
 ·rw [(zcj n f).out (by omega)];omega
theorem zka {l:List Int} {k n:Nat} {most:Int} (h1:1≤most) (h2:most≤9):SmallG n (diaM l k n most):=by
 refine zrq (fun i j _ _=>?_) fun i j _ _=>?_
 ·by_cases h:i=j
  ·rw [h]
  ·have h':¬j=i:=fun e=>h e.symm
   rw [if_neg h,if_neg h']
 ·have:=zfm l (zbe l k i) h1
  split<;>omega
theorem qhc {l:List Int} {k n:Nat}:SmallG n (genM l k n):=by
 refine zrq (fun i j _ _=>?_) fun i j _ _=>?_
 ·by_cases h:i=j
  ·rw [h]
  ·have h':¬j=i:=fun e=>h e.symm
   rw [if_neg h,if_neg h']
   by_cases h2:j<i
   ·have h3:¬i<j:=by omega
    rw [if_pos h2,if_neg h3]
   ·have h3:i<j:=by omega
    rw [if_neg h2,if_pos h3]
 ·have:=zfm l (zbe l k i) (show (1:Int)≤6 by decide)
  have:=zrp l (zbe l k n) i j
  have:=zrp l (zbe l k n) j i
  split
  ·omega
  ·split<;>omega
theorem znt {n:Nat} {fork:Bool}:SmallG n (zca n fork):=by
 refine zrq (fun i j _ _=>?_) fun i j _ _=>?_
 ·by_cases h:i=j
  ·rw [h]
  ·have h':¬j=i:=fun e=>h e.symm
   rw [if_neg h,if_neg h']
   by_cases h2:zcb n fork i j=true∨zcb n fork j i=true
   ·rw [if_pos h2,if_pos h2.symm]
   ·have h3:¬(zcb n fork j i=true∨zcb n fork i j=true):=fun e=>h2 e.symm
    rw [if_neg h2,if_neg h3]
 ·split
  ·omega
  ·split<;>omega
theorem zey {n i:Nat} {fork:Bool} (hi:i<n):ent (zca n fork) i i=2:=by
 unfold zca
 rw [zcd hi hi,if_pos rfl]
theorem zpf {n i:Nat} {M:List (List Int)} {z:Int} (h:SmallG n M) (hi:i<n) (hd:ent M i i=2) (hz:0≤z∧z≤3):SmallG n (qbm M i z):=by
 unfold qbm
 refine ⟨h.shp.set hi,fun s t hs ht=>?_,fun s t=>?_⟩
 ·rw [h.shp.ent_set hi hi,h.shp.ent_set hi hi]
  by_cases e:s=i∧t=i
  ·rw [if_pos e,if_pos ⟨e.2,e.1⟩]
  ·rw [if_neg e,if_neg (fun x=>e ⟨x.2,x.1⟩)];exact h.sym s t hs ht
 ·rw [h.shp.ent_set hi hi]
  have:=h.bnd s t
  split<;>omega
def rawM (l:List Int) (kind n:Nat):List (List Int):=
 if kind<4 then genM l 0 n else if kind=4 then qbm (zca n false) 0 (zdi l 0%3) else if kind=5 then qbm (zca n true) (n-1) (zdi l 0%2) else if kind=6 then diaM l 0 n 9 else diaM l 0 n 1
def rawK (l:List Int) (kind n:Nat):Nat:=
 if kind<4 then zbe l 0 (n+triK n) else if kind=4 then zhn l 0 else if kind=5 then zhn l 0 else zbe l 0 n
theorem ztu {l:List Int} {kind n:Nat} (hn:1≤n):SmallG n (rawM l kind n):=by
 unfold rawM
 split
 ·exact qhc
 split
 ·exact zpf znt (by omega) (zey (by omega)) (by have:=zfm l 0 (show (1:Int)≤3 by decide);omega)
 split
 ·exact zpf znt (by omega) (zey (by omega)) (by have:=zfm l 0 (show (1:Int)≤2 by decide);omega)
 split
 ·exact zka (by decide) (by decide)
 ·exact zka (by decide) (by decide)
theorem qhd {l:List Int} {k n i j:Nat} {most:Int} (hi:i<n) (hj:j<n):ent (diaM l k n most) i j=if i=j then 1+zdi l (zbe l k i)%most else 0:=by
 unfold diaM
 rw [zcd hi hj]
end Go.Proofs.YtpflahgcdgdkjaaGreatDoor
namespace Go.Proofs.YtpflahgcdgdkjaaGreatDoor
open Nat renaming reduceEqDiff → qQ, reduceLeDiff → qZ, reduceAdd → qJ, le_refl → qB, sub_self → qP, add_zero → qS, add_assoc → xM, not_lt_zero → yJ
open List renaming getD_cons_succ → qX, getD_eq_getElem?_getD → qV, getD_cons_zero → qY, getElem?_cons_succ → qU, getElem?_cons_zero → qA, getElem?_eq_getElem → qC, set_append_right → qG, length_map → qN, getElem?_append_right → qO, take_of_length_le → qR, length_set → xQ, length_nil → xX, replicate_zero → xJ, length_append → xY, getElem?_append_left → xU, getElem?_map → xA, ext_getElem → xD, append_nil → xG, map_congr_left → xI, length_cons → xT, nil_append → yK
open Go.AL.AV.closed renaming closedL → qK
open Int renaming toNat_natCast → qW, tmod_eq_emod_of_nonneg → xV, emod_lt_of_pos → xN, emod_nonneg → yZ
open Option renaming getD_some → xS
set_option linter.unusedSimpArgs false
set_option linter.unusedVariables false
open Go Go.AL Go.Proofs Go.Limb
set_option maxRecDepth 100000
def i8z (l:List Int):List AV:=l.map fun z=>AV.int .i8 z
theorem zwj (l:List Int):(i8z l).length=l.length:=by simp [i8z]
theorem qmv (l:List Int) (j:Nat) (h:j<l.length) (d:AV):(i8z l).getD j d= .int .i8 (l.getD j 0):=by simp [i8z,h]
def zdf (l:List Int) (c:Option Nat) (k:Nat):List AV:=[.vec (i8z l) l.length c,.int .i64 (k:Nat)]
def zkb (l:List Int):Prop:=l.length<9223372036854775808∧∀z∈l,-128≤z∧z<128
theorem ztv {l:List Int} (h:zkb l) (k:Nat): -128≤zhm l k∧zhm l k<128:=by
 unfold zhm
 rw [qV]
 cases e:l[k]? with
 | none=>simp
 | some z=>exact h.2 z (List.mem_of_getElem? e)
theorem qwd {l:List Int} {c:Option Nat} {k:Nat} (h:zkb l) (hk:k≤l.length):Ret Tryz.prog G 135 [.ptr 0 0] [some (zdf l c k)] (.int .i64 (zhm l k)) [some (zdf l c (zhn l k))]:=by
 have hl:=h.1
 have hz:=ztv h k
 refine zai zah Tryz.func135 comp135 _ 32 res135 nt135 (by simp) (by simp) ?_
 simp only [c135,r135_0,r135_1,SS,forall_const,reduceCtorEq,reduceIte,qJ,qQ,qZ,zdf]
 refine ⟨rfl,fun hge=>?_,fun hlt=>?_⟩
 ·have e1:zhm l k=0:=by
   unfold zhm
   rw [qV,List.getElem?_eq_none (by omega)];rfl
  have e2:zhn l k=k:=by unfold zhn;rw [if_neg (by omega)]
  simp only [r135_2,SS,e1,e2]
  exact ⟨.inl trivial,_,rfl,.keep _ _⟩
 ·have hkl:k<l.length:=by omega
  have e2:zhn l k=k+1:=by unfold zhn;rw [if_pos hkl]
  have w5:IntKind.i64.wrap ((k:Int)+1)=((k+1:Nat):Int):=by rw [show (k:Int)+1=((k+1:Nat):Int) by omega];exact w64 (by omega) (by omega)
  have w6:IntKind.i64.wrap (((k+1:Nat):Int)-1)=(k:Int):=by rw [show ((k+1:Nat):Int)-1=(k:Int) by omega];exact w64 (by omega) (by omega)
  have w7:IntKind.i64.wrap (zhm l k)=zhm l k:=w64 (by omega) (by omega)
  have g:(i8z l).getD k .junk= .int .i8 (zhm l k):=qmv l k hkl _
  simp only [r135_3,r135_4,SS,forall_const,reduceCtorEq,reduceIte,qJ,qQ,qZ,w5,w6,e2,qW,g,zwj,w7]
  refine ⟨⟨by omega,by omega⟩,by omega,rfl,?_⟩
  exact ⟨.inl trivial,_,rfl,.keep _ _⟩
theorem qhe {l:List Int} {c:Option Nat} {k:Nat} {m:Int} (h:zkb l) (hk:k≤l.length) (hm:1≤m∧m<1000000):Ret Tryz.prog G 67 [.ptr 0 0,.int .i64 m] [some (zdf l c k)] (.int .i64 (zdi l k%m)) [some (zdf l c (zhn l k))]:=by
 have hl:=h.1
 have hz:=ztv h k
 have hb:0≤zdi l k∧zdi l k<256:=by unfold zdi;omega
 have w1:IntKind.u8.wrap (zhm l k)=zdi l k:=by
  show zhm l k%256=_
  rfl
 have w2:IntKind.i64.wrap (zdi l k)=zdi l k:=w64 (by omega) (by omega)
 have w3:Int.tmod (zdi l k) m=zdi l k%m:=xV hb.1
 have w4:IntKind.i64.wrap (zdi l k%m)=zdi l k%m:=by
  have:=yZ (zdi l k) (show m≠0 by omega)
  have:=xN (zdi l k) (show 0<m by omega)
  exact w64 (by omega) (by omega)
 refine zai zah Tryz.func67 comp67 _ 11 res67 nt67 (by simp) (by simp) ?_
 simp only [c67,r67_0,r67_1,SS,reduceCtorEq,reduceIte]
 refine zfz (id:=0) (qwd h hk) rfl rfl ?_
 simp only [zba,SS,reduceIte,qQ,w1,w2,w3]
 refine ⟨by omega,?_⟩
 exact ⟨.inl trivial,_,rfl,.keep _ _⟩
def ziz (o n i:Nat):List AV:=(List.range i).map fun k=> .sl (o+k+1) 0 n 1 (some n)
def outO (o N n i:Nat):List AV:=ziz o n i++List.replicate (N-i) nilV
def bO (o N n:Nat) (rows:List (List Int)):Heap:=some (outO o N n rows.length)::rows.map fun r=>some (i64z r)
theorem zff (o n i:Nat):(ziz o n i).length=i:=by simp [ziz]
theorem zkc {o N n i:Nat} (h:i≤N):(outO o N n i).length=N:=by simp [outO,zff];omega
theorem zkd {o N n i k:Nat} (h:k<i):(outO o N n i).getD k .junk= .sl (o+k+1) 0 n 1 (some n):=by
 unfold outO ziz
 rw [qV,xU (by simpa using h),xA,List.getElem?_range h]
 rfl
theorem qhf {o N n i:Nat} (h:i<N):(outO o N n i).set i (.sl (o+i+1) 0 n 1 (some n))=outO o N n (i+1):=by
 unfold outO
 have e:List.replicate (N-i) nilV=nilV::List.replicate (N-(i+1)) nilV:=by rw [←List.replicate_succ];congr 1;omega
 have ez:ziz o n (i+1)=ziz o n i++[.sl (o+i+1) 0 n 1 (some n)]:=by simp [ziz,List.range_succ]
 rw [e,ez,qG _ _ (by rw [zff];omega),zff,qP]
 simp
section
variable {P:Heap} {o N n:Nat} {rows:List (List Int)}
theorem qwe (ho:P.length=o):(P++bO o N n rows).length=o+rows.length+1:=by simp [bO,ho];omega
theorem zfn (ho:P.length=o):getB (P++bO o N n rows) o=some (outO o N n rows.length):=by
 unfold getB
 rw [qO (by omega),ho,qP]
 rfl
theorem zld (ho:P.length=o) {i:Nat} (h:i<rows.length):getB (P++bO o N n rows) (o+i+1)=some (i64z (rows.getD i [])):=by
 unfold getB bO
 rw [qO (by omega),ho,show o+i+1-o=i+1 by omega,qU,xA,qV,qC h]
 rfl
theorem ztw (ho:P.length=o) {i:Nat} (r:List Int):(P++bO o N n rows).set (o+i+1) (some (i64z r))=P++bO o N n (rows.set i r):=by
 rw [qG _ _ (by omega),ho,show o+i+1-o=i+1 by omega]
 unfold bO
 rw [List.set_cons_succ,xQ,List.map_set]
theorem qwf (ho:P.length=o) (r:List Int) (h:rows.length<N):(P++bO o N n rows++[some (i64z r)]).set o (some ((outO o N n rows.length).set rows.length (.sl (o+rows.length+1) 0 n 1 (some n))))=P++bO o N n (rows++[r]):=by
 rw [qhf h,List.append_assoc,qG _ _ (by omega),ho,qP]
 unfold bO
 simp
theorem qwg (ho:P.length=o) (hN:rows.length=N) (hn:∀i,i<N→(rows.getD i []).length=n):frzI 0 (P++bO o N n rows) 3 (.sl o 0 N 1 (some N))=some (.vec (zcp n rows) N (some N)):=by
 have e0:outO o N n rows.length=ziz o n N:=by
  unfold outO
  rw [hN,qP,xJ,xG]
 have key:(ziz o n N).mapM (frzI 0 (P++bO o N n rows) 2)=some (zcp n rows):=by
  have:zcp n rows=(List.range N).map fun k=>AV.vec (i64z (rows.getD k [])) n (some n):=by
   refine xD (by simp [zcp,hN]) fun k h1 h2=>?_
   simp only [zcp,List.getElem_map,List.getElem_range]
   have hk:k<rows.length:=by simpa [zcp] using h1
   rw [qV,qC hk]
   rfl
  rw [this]
  unfold ziz
  rw [List.mapM_map]
  have:∀l:List Nat,(∀k∈l,k<N)→l.mapM (fun k=>frzI 0 (P++bO o N n rows) 2 (.sl (o+k+1) 0 n 1 (some n)))=some (l.map fun k=>AV.vec (i64z (rows.getD k [])) n (some n)):=by
   intro l
   induction l with
   | nil=>intro _;rfl
   | cons k l ih=>
    intro h
    have hk:=h k (by simp)
    have e:frzI 0 (P++bO o N n rows) 2 (.sl (o+k+1) 0 n 1 (some n))=some (.vec (i64z (rows.getD k [])) n (some n)):=by
     rw [frzI]
     have hl:=hn k hk
     simp only [yJ,if_false,zld ho (show k<rows.length by omega),need,Nat.zero_add,Nat.mul_one,zax,hl,qB,if_true,List.drop_zero]
     rw [qR (by rw [zax];omega),zqz]
     rfl
    rw [List.mapM_cons,e,ih (fun x hx=>h x (by simp [hx]))]
    rfl
  exact this _ (fun k hk=>List.mem_range.1 hk)
 rw [frzI]
 simp only [yJ,if_false,zfn ho,e0,need,Nat.zero_add,Nat.mul_one,zff,qB,if_true,List.drop_zero]
 rw [qR (by rw [zff];omega),key]
 rfl
end
def tP (l:List Int) (c:Option Nat) (k:Nat):Heap:=[some (zdf l c k)]
theorem zpg (l:List Int) (c:Option Nat) (k:Nat):(tP l c k).length=1:=rfl
theorem qpa (l:List Int) (c:Option Nat) (k:Nat) (X:Heap):getB (tP l c k++X) 0=some (zdf l c k):=rfl
theorem qpb (l:List Int) (c:Option Nat) (k k':Nat) (X:Heap):(tP l c k++X).set 0 (some (zdf l c k'))=tP l c k'++X:=rfl
theorem znu (l:List Int) (k n:Nat) (most:Int):Shp n (diaM l k n most):=zcj _ _
theorem qtc {l:List Int} {k n i:Nat} {most:Int} (hi:i<n):(diaM l k n most).getD i []=(List.replicate n 0).set i (1+zdi l (zbe l k i)%most):=by
 have hr:=(znu l k n most).row i hi
 refine xD (by rw [hr];simp) fun t h1 h2=>?_
 have ht:t<n:=by omega
 have e:ent (diaM l k n most) i t=if i=t then 1+zdi l (zbe l k i)%most else 0:=by
  unfold diaM
  rw [zcd hi ht]
 unfold ent at e
 rw [qV,qC h1] at e
 rw [List.getElem_set]
 simp only [xS] at e
 rw [e]
 by_cases hit:i=t
 ·rw [if_pos hit,if_pos hit]
 ·rw [if_neg hit,if_neg hit];simp
theorem zke {l:List Int} {c:Option Nat} {k n:Nat} {most:Int} (h:zkb l) (hk:k≤l.length) (hn:1≤n∧n≤8) (hm:1≤most∧most≤9):
  Ret Tryz.prog G 68 [.ptr 0 0,.int .i64 (n:Nat),.int .i64 most] [some (zdf l c k)] (.sl 1 0 n 1 (some n)) (tP l c (zbe l k n)++bO 1 n n (diaM l k n most)):=by
 have hD:=znu l k n most
 refine zai zah Tryz.func68 comp68 _ 33 res68 nt68 (by simp) (by simp only [xY,zpg,xT,xX];omega) ?_
 simp only [c68,r68_0,r68_1,SS,reduceCtorEq,reduceIte,qQ,qW]
 refine ⟨by decide,⟨by omega,by omega,by omega,by omega⟩,?_⟩
 simp only [r68_2,SS,reduceIte,qQ]
 refine zal (fun q E H=>∃i,i+q=n∧H=tP l c (zbe l k i)++bO 1 n n ((diaM l k n most).take i)∧E 0= .ptr 0 0∧E 1= .int .i64 (n:Nat)∧E 2= .int .i64 most∧E 7= .sl 1 0 n 1 (some n)∧E 12= .int .i64 (n:Nat)∧E 13= .int .i64 (i:Nat)) (n:=n)
  ⟨0,by omega,rfl,by simp only [zaa,zac,qY,qQ,if_false],by simp only [zaa,zac,qY,qX,qQ,if_false],by simp only [zaa,zac,qY,qX,qQ,if_false],by simp only [zaa,zac,qX,qQ,reduceIte,if_false],by simp only [zaa,zac,qX,qQ,reduceIte,if_false],by simp only [zaa,zac,qX,qQ,reduceIte,if_false];rfl⟩ ?_
 rintro q E H ⟨i,hiq,rfl,e0,e1,e2,e7,e12,e13⟩
 refine zaf zah ?_
 simp only [l68_0,r68_3,SS,reduceCtorEq,reduceIte,e12,e13]
 refine ⟨fun hlt=>?_,fun hge=>?_⟩
 ·obtain ⟨q,rfl⟩:∃q',q=q'+1:=⟨q-1,by omega⟩
  have hi:i<n:=by omega
  have hDl:=hD.len
  have htl:((diaM l k n most).take i).length=i:=by rw [List.length_take];omega
  have hki:=zgo hk i
  have w5:IntKind.i64.wrap ((i:Int)+1)=((i+1:Nat):Int):=by rw [show (i:Int)+1=((i+1:Nat):Int) by omega];exact w64 (by omega) (by omega)
  have hP:=zpg l c (zbe l k i)
  have hbl:=qwe (N:=n) (n:=n) (rows:=(diaM l k n most).take i) hP
  rw [htl] at hbl
  have hgo:getB (tP l c (zbe l k i)++bO 1 n n ((diaM l k n most).take i)++[some (i64z (List.replicate n 0))]) 1=some (outO 1 n n i):=by
   have:getB (tP l c (zbe l k i)++bO 1 n n ((diaM l k n most).take i)) 1=some (outO 1 n n i):=by rw [zfn hP,htl]
   exact this
  have gol:=zkc (o:=1) (N:=n) (n:=n) (i:=i) (by omega)
  have hnew:=qwf (N:=n) (n:=n) (rows:=(diaM l k n most).take i) hP (List.replicate n 0) (by omega)
  rw [htl] at hnew
  simp only [r68_4,r68_5,SS,reduceIte,qQ,e1,e7,e13,qW,hbl,zjs,hgo,gol]
  refine ⟨by decide,⟨by omega,by omega,by omega,by omega⟩,⟨by omega,by omega⟩,by omega,?_⟩
  rw [hnew]
  have hrl:((diaM l k n most).take i++[List.replicate n 0]).length=i+1:=by simp;omega
  have ko:=zfn (N:=n) (n:=n) (rows:=(diaM l k n most).take i++[List.replicate n 0]) hP
  rw [hrl] at ko
  have kl:=zkc (o:=1) (N:=n) (n:=n) (i:=i+1) (by omega)
  have kg:=zkd (o:=1) (N:=n) (n:=n) (i:=i+1) (k:=i) (by omega)
  have hki1:=zgo hk (i+1)
  have tB:=qhe (l:=l) (c:=c) (k:=zbe l k i) (m:=most) h hki (by omega)
  have hbz:=zfm l (zbe l k i) hm.1
  have w6:IntKind.i64.wrap (zdi l (zbe l k i)%most)=zdi l (zbe l k i)%most:=w64 (by omega) (by omega)
  have w7:IntKind.i64.wrap (1+zdi l (zbe l k i)%most)=1+zdi l (zbe l k i)%most:=w64 (by omega) (by omega)
  simp only [r68_6,SS,forall_const,reduceCtorEq,reduceIte,qQ,e0,e2,e7,qW,ko,kl,kg]
  refine ⟨⟨by omega,by omega⟩,by omega,?_⟩
  refine zfz (id:=0) tB (qpa _ _ _ _) rfl ?_
  have hP':=zpg l c (zbe l k (i+1))
  have hnk:zhn l (zbe l k i)=zbe l k (i+1):=rfl
  have gr:=zld (N:=n) (n:=n) (rows:=(diaM l k n most).take i++[List.replicate n 0]) hP' (i:=i) (by omega)
  have grr:((diaM l k n most).take i++[List.replicate n 0]).getD i []=List.replicate n 0:=by
   rw [qV,qO (by omega),htl,qP];simp
  rw [grr] at gr
  have eset:((diaM l k n most).take i++[List.replicate n 0]).set i ((List.replicate n 0).set i (1+zdi l (zbe l k i)%most))=(diaM l k n most).take (i+1):=by
   rw [qG _ _ (by omega),htl,qP,←qtc hi]
   rw [List.take_add_one,qV,qC (by omega)]
   rfl
  simp only [zba,zag,keys,xJ,xG,SS,reduceIte,qQ,qpb,hnk,w7,gr,zax,List.length_replicate,qW,zdl]
  refine ⟨⟨by omega,by omega⟩,by omega,rfl,?_⟩
  rw [ztw hP',eset]
  simp only [r68_7,SS,reduceIte,qQ,e13,w5]
  refine ⟨q,_,_,by omega,⟨i+1,by omega,rfl,?_,?_,?_,?_,?_,?_⟩,.refl⟩
  all_goals simp only [zaa,qQ,reduceIte,if_false, *]
 ·have hin:i=n:=by omega
  subst hin
  have htl:(diaM l k i most).take i=diaM l k i most:=qR (by rw [hD.len];omega)
  rw [htl]
  simp only [r68_8,SS,reduceIte,qQ,e7]
  exact ⟨.inl trivial,_,rfl,.keep _ _⟩
theorem qhg {H:Heap} (σ:Nat→Nat) (s:Nat) (hσ:∀i,σ (s+i)=H.length+i):∀(L X:Heap),zag (effs σ (s+X.length) L) (H++(X++List.replicate L.length none))=H++(X++L.map (renB σ)):=by
 intro L
 induction L with
 | nil=>intro X;simp [effs,zag]
 | cons b L ih=>
  intro X
  have e:H++(X++List.replicate (b::L).length none)=H++(X++(none::List.replicate L.length none)):=rfl
  rw [e]
  simp only [effs,zag,hσ]
  have e2:(H++(X++(none::List.replicate L.length none))).set (H.length+X.length) (renB σ b)=H++((X++[renB σ b])++List.replicate L.length none):=by
   rw [qG _ _ (by omega),Nat.add_sub_cancel_left,qG _ _ (by omega),qP]
   simp
  rw [e2]
  have:=ih (X++[renB σ b])
  rw [xY,List.length_singleton,←xM] at this
  rw [this]
  simp
theorem znv (r:List Int):qK (i64z r)=true:=by
 induction r with
 | nil=>rfl
 | cons z r ih=>
  show ((AV.int .i64 z).closed && qK (i64z r))=true
  rw [ih];rfl
theorem qwh {σ:Nat→Nat} {K N n:Nat} {rows:List (List Int)} (hσ:∀j,σ (1+j)=K+j):(bO 1 N n rows).map (renB σ)=bO K N n rows:=by
 unfold bO
 rw [List.map_cons,List.map_map]
 congr 1
 ·show some ((outO 1 N n rows.length).map (AV.ren σ))=_
  congr 1
  unfold outO
  rw [List.map_append]
  congr 1
  ·unfold ziz
   rw [List.map_map]
   refine xI fun k _=>?_
   show AV.sl (σ (1+k+1)) 0 n 1 (some n)= .sl (K+k+1) 0 n 1 (some n)
   rw [show 1+k+1=1+(k+1) by omega,hσ]
   rfl
  ·rw [List.map_replicate]
   rfl
 ·refine xI fun r _=>?_
  show some ((i64z r).map (AV.ren σ))=some (i64z r)
  rw [zbb _ _ (znv r)]
theorem zkf {H:Heap} {id n:Nat} {cs':List AV} {M:List (List Int)} (hid:id<H.length):zag ((id,some cs')::effs (zan [id] H.length) 1 (bO 1 n n M)) (H++List.replicate (bO 1 n n M).length none)=H.set id (some cs')++bO H.length n n M:=by
 have h1:∀j,zan [id] H.length (1+j)=H.length+j:=by
  intro j;rw [Nat.add_comm 1];exact qha
 have:=qhg (H:=H.set id (some cs')) (zan [id] H.length) 1 (fun j=>by rw [h1,xQ]) (bO 1 n n M) []
 simp only [zag]
 rw [List.set_append_left _ _ hid]
 simp only [xX,qS,yK] at this
 rw [this,qwh h1]
theorem qtd {l:List Int} {k n i j:Nat} (hi:i<n) (hj:j<i):ent (genM l k n) i j=offZ l (zbe l k n) i j∧ent (genM l k n) j i=offZ l (zbe l k n) i j:=by
 unfold genM
 rw [zcd hi (by omega),zcd (by omega) hi]
 have h1:¬i=j:=by omega
 have h2:¬j=i:=by omega
 have h3:¬i<j:=by omega
 rw [if_neg h1,if_pos hj,if_neg h2,if_neg h3]
 exact ⟨rfl,rfl⟩
theorem qmw {l:List Int} {k n i:Nat} (hi:i<n):ent (genM l k n) i i=ent (diaM l k n 6) i i:=by
 unfold genM diaM
 rw [zcd hi hi,zcd hi hi,if_pos rfl,if_pos rfl]
theorem qte {l:List Int} {c:Option Nat} {k n i:Nat} (h:zkb l) (hk:k≤l.length) (hn:1≤n∧n≤8) (hi:i<n) {X0:List (List Int)} (hX0:Shp n X0) (hx0:∀s t,s<n→t<n→ent X0 s t=if s<i∧t<i then ent (genM l k n) s t else ent (diaM l k n 6) s t)
  {v12 v13:AV} {E:Env} {Q:Post} (e0:E 0= .ptr 0 0) (e5:E 5= .sl 1 0 n 1 (some n)) (e6:E 6= .int .i64 (i:Nat)) (e7:E 7= .int .i64 0) (e12:E 12=v12) (e13:E 13=v13)
  (hQ:∀E' X,Shp n X→(∀s t,s<n→t<n→ent X s t=if s<i+1∧t<i+1 then ent (genM l k n) s t else ent (diaM l k n 6) s t)→E' 0= .ptr 0 0→E' 5= .sl 1 0 n 1 (some n)→E' 12=v12→E' 13=v13→Q (.exit 2) E' (tP l c (zbe l k (n+triK (i+1)))++bO 1 n n X)):
  W Tryz.prog G 1 45 (.loop l65_1) E (tP l c (zbe l k (n+triK i))++bO 1 n n X0) Q:=by
 refine zal (fun q E H=>∃j X,j+q=i∧Shp n X∧(∀s t,s<n→t<n→ent X s t=if (s<i∧t<i)∨(s=i∧t<j)∨(t=i∧s<j) then ent (genM l k n) s t else ent (diaM l k n 6) s t)∧H=tP l c (zbe l k (n+triK i+j))++bO 1 n n X∧
  E 0= .ptr 0 0∧E 5= .sl 1 0 n 1 (some n)∧E 6= .int .i64 (i:Nat)∧E 7= .int .i64 (j:Nat)∧E 12=v12∧E 13=v13) (n:=i)
  ⟨0,X0,by omega,hX0,fun s t hs ht=>by
   rw [hx0 s t hs ht]
   by_cases e:s<i∧t<i
   ·rw [if_pos e,if_pos (.inl e)]
   ·rw [if_neg e,if_neg (by omega)],rfl,e0,e5,e6,e7,e12,e13⟩ ?_
 clear e0 e5 e6 e7 e12 e13 E hX0 hx0 X0
 rintro q E H ⟨j,X,hjq,hX,hx,rfl,e0,e5,e6,e7,e12,e13⟩
 refine zaf zah ?_
 simp only [l65_1,r65_6,SS,reduceIte,qQ,e6,e7]
 refine ⟨fun hlt=>?_,fun hge=>?_⟩
 ·obtain ⟨q,rfl⟩:∃q',q=q'+1:=⟨q-1,by omega⟩
  have hj:j<i:=by omega
  have hXl:=hX.len
  have w5:IntKind.i64.wrap ((j:Int)+1)=((j+1:Nat):Int):=by rw [show (j:Int)+1=((j+1:Nat):Int) by omega];exact w64 (by omega) (by omega)
  have hK:=zgo hk (n+triK i+j)
  have tN:=qwd (c:=c) h hK
  have hnk:zhn l (zbe l k (n+triK i+j))=zbe l k (n+triK i+(j+1)):=rfl
  rw [hnk] at tN
  obtain ⟨g1,g2⟩:=qtd (l:=l) (k:=k) hi hj
  have hoff:Int.tmod (zhm l (zbe l k (n+triK i+j))) 3=ent (genM l k n) i j:=by
   rw [g1]
   unfold offZ
   rw [qhb,xM]
  have hr:=zrp l (zbe l k n) i j
  have w6:IntKind.i64.wrap (Int.tmod (zhm l (zbe l k (n+triK i+j))) 3)=ent (genM l k n) i j:=by
   rw [hoff,g1];exact w64 (by omega) (by omega)
  have hP:=zpg l c (zbe l k (n+triK i+j))
  have hP':=zpg l c (zbe l k (n+triK i+(j+1)))
  have ko:=zfn (N:=n) (n:=n) (rows:=X) hP
  have ko':=zfn (N:=n) (n:=n) (rows:=setM X i j (ent (genM l k n) i j)) hP'
  rw [hXl] at ko
  rw [zcn,hXl] at ko'
  have kl:=zkc (o:=1) (N:=n) (n:=n) (i:=n) (qB _)
  have kg:=zkd (o:=1) (N:=n) (n:=n) (i:=n) (k:=i) hi
  have kg2:=zkd (o:=1) (N:=n) (n:=n) (i:=n) (k:=j) (by omega)
  have gr:=zld (N:=n) (n:=n) (rows:=X) hP' (i:=i) (by omega)
  have hs1:=ztw (N:=n) (n:=n) (rows:=X) hP' (i:=i) ((X.getD i []).set j (ent (genM l k n) i j))
  have eM:X.set i ((X.getD i []).set j (ent (genM l k n) i j))=setM X i j (ent (genM l k n) i j):=rfl
  rw [eM] at hs1
  have hX1:Shp n (setM X i j (ent (genM l k n) i j)):=hX.set hi
  have gr1:=zld (N:=n) (n:=n) (rows:=setM X i j (ent (genM l k n) i j)) hP' (i:=i) (by rw [hX1.len];exact hi)
  have gr2:=zld (N:=n) (n:=n) (rows:=setM X i j (ent (genM l k n) i j)) hP' (i:=j) (by rw [hX1.len];omega)
  have lX:=hX.row i hi
  have l1:=hX1.row i hi
  have l2:=hX1.row j (by omega)
  have gz:(i64z ((setM X i j (ent (genM l k n) i j)).getD i [])).getD j .junk= .int .i64 (ent (genM l k n) i j):=by
   rw [zbv _ j (by omega)]
   have:=hX.ent_set (z:=ent (genM l k n) i j) hi (show j<n by omega) i j
   unfold ent at this ⊢
   rw [this,if_pos ⟨rfl,rfl⟩]
  have hs2:=ztw (N:=n) (n:=n) (rows:=setM X i j (ent (genM l k n) i j)) hP' (i:=j) (((setM X i j (ent (genM l k n) i j)).getD j []).set i (ent (genM l k n) i j))
  have eM2:(setM X i j (ent (genM l k n) i j)).set j (((setM X i j (ent (genM l k n) i j)).getD j []).set i (ent (genM l k n) i j))=setM (setM X i j (ent (genM l k n) i j)) j i (ent (genM l k n) i j):=rfl
  rw [eM2] at hs2
  simp only [r65_7,SS,forall_const,reduceCtorEq,reduceIte,qQ,e0,e5,e6,e7,qW,ko,kl,kg]
  refine ⟨⟨by omega,by omega⟩,by omega,?_⟩
  refine zfz (id:=0) tN (qpa _ _ _ _) rfl ?_
  simp only [zba,zag,keys,xJ,xG,SS,reduceIte,qQ,qpb,hoff,gr,lX,zax,qW,zdl]
  refine ⟨by decide,⟨by omega,by omega⟩,by omega,rfl,?_⟩
  rw [hs1]
  simp only [r65_8,SS,forall_const,reduceIte,qQ,e5,e6,e7,qW,ko',kl,kg,kg2,gr1,gr2,l1,l2,gz,zax,zdl]
  refine ⟨⟨by omega,by omega⟩,by omega,⟨by omega,by omega⟩,by omega,⟨by omega,by omega⟩,by omega,⟨by omega,by omega⟩,by omega,rfl,?_⟩
  rw [hs2]
  simp only [r65_9,SS,reduceIte,qQ,e7,w5]
  refine ⟨q,_,_,by omega,⟨j+1,setM (setM X i j (ent (genM l k n) i j)) j i (ent (genM l k n) i j),by omega,hX1.set (by omega),fun s t hs ht=>?_,rfl,?_,?_,?_,?_,?_,?_⟩,.refl⟩
  ·rw [hX1.ent_set (by omega) hi,hX.ent_set hi (by omega),hx s t hs ht]
   by_cases a1:s=j∧t=i
   ·rw [if_pos a1,if_pos (.inr (.inr ⟨a1.2,by omega⟩)),a1.1,a1.2,g1,g2]
   ·rw [if_neg a1]
    by_cases a2:s=i∧t=j
    ·rw [if_pos a2,if_pos (.inr (.inl ⟨a2.1,by omega⟩)),a2.1,a2.2]
    ·rw [if_neg a2]
     by_cases a3:(s<i∧t<i)∨(s=i∧t<j)∨(t=i∧s<j)
     ·rw [if_pos a3,if_pos (by omega)]
     ·rw [if_neg a3,if_neg (by omega)]
  all_goals simp only [zaa,qQ,reduceIte,if_false, *]
 ·have hji:j=i:=by omega
  subst hji
  have htri:n+triK (j+1)=n+triK j+j:=by show n+(triK j+j)=_;omega
  rw [←htri]
  refine hQ _ X hX (fun s t hs ht=>?_) (by simp only [zaa,qQ,if_false,e0]) (by simp only [zaa,qQ,if_false,e5]) (by simp only [zaa,qQ,if_false,e12]) (by simp only [zaa,qQ,if_false,e13])
  rw [hx s t hs ht]
  by_cases e:s=j∧t=j
  ·rw [e.1,e.2,if_neg (by omega),if_pos (by omega),qmw hi]
  ·by_cases e2:s<j+1∧t<j+1
   ·rw [if_pos e2,if_pos (by omega)]
   ·rw [if_neg e2,if_neg (by omega)]
theorem qmx {l:List Int} {c:Option Nat} {k n:Nat} (h:zkb l) (hk:k≤l.length) (hn:1≤n∧n≤8):
  Ret Tryz.prog G 65 [.ptr 0 0,.int .i64 (n:Nat)] [some (zdf l c k)] (.sl 1 0 n 1 (some n)) (tP l c (zbe l k (n+triK n))++bO 1 n n (genM l k n)):=by
 have hG:Shp n (genM l k n):=zcj _ _
 have tD:=zke (c:=c) (most:=6) h hk hn (by omega)
 have hlen:(bO 1 n n (diaM l k n 6)).length=n+1:=by simp [bO,(znu l k n 6).len]
 have heff:=zkf (H:=[some (zdf l c k)]) (id:=0) (n:=n) (cs':=zdf l c (zbe l k n)) (M:=diaM l k n 6) (Nat.zero_lt_one)
 refine zai zah Tryz.func65 comp65 _ 45 res65 nt65 (by simp) (by simp only [xY,zpg,xT,xX];omega) ?_
 simp only [c65,r65_0,r65_1,SS,reduceCtorEq,reduceIte,qQ]
 refine callA_one (id:=0) (cs:=zdf l c k) (cs':=zdf l c (zbe l k n)) (L:=bO 1 n n (diaM l k n 6)) tD rfl rfl rfl rfl rfl ?_
 have hv:(AV.sl 1 0 n 1 (some n)).ren (zan [0] [some (zdf l c k)].length)= .sl 1 0 n 1 (some n):=rfl
 rw [hv]
 simp only [zba]
 rw [heff]
 have e1:([some (zdf l c k)].set 0 (some (zdf l c (zbe l k n)))++bO [some (zdf l c k)].length n n (diaM l k n 6):Heap)=tP l c (zbe l k n)++bO 1 n n (diaM l k n 6):=rfl
 rw [e1]
 simp only [SS,reduceIte,qQ]
 simp only [r65_2,SS,reduceIte,qQ]
 refine zal (fun q E H=>∃i X,i+q=n∧Shp n X∧(∀s t,s<n→t<n→ent X s t=if s<i∧t<i then ent (genM l k n) s t else ent (diaM l k n 6) s t)∧H=tP l c (zbe l k (n+triK i))++bO 1 n n X∧E 0= .ptr 0 0∧E 5= .sl 1 0 n 1 (some n)∧E 12= .int .i64 (n:Nat)∧E 13= .int .i64 (i:Nat)) (n:=n)
  ⟨0,diaM l k n 6,by omega,znu _ _ _ _,fun s t _ _=>by rw [if_neg (by omega)],rfl,by simp only [zaa,zac,qY,qQ,if_false],by simp only [zaa,zac,qX,qQ,reduceIte,if_false],by simp only [zaa,zac,qX,qQ,reduceIte,if_false],by simp only [zaa,zac,qX,qQ,reduceIte,if_false];rfl⟩ ?_
 rintro q E H ⟨i,X,hiq,hX,hx,rfl,e0,e5,e12,e13⟩
 refine zaf zah ?_
 simp only [l65_0,r65_3,SS,reduceCtorEq,reduceIte,e12,e13]
 refine ⟨fun hlt=>?_,fun hge=>?_⟩
 ·obtain ⟨q,rfl⟩:∃q',q=q'+1:=⟨q-1,by omega⟩
  have hi:i<n:=by omega
  have w5:IntKind.i64.wrap ((i:Int)+1)=((i+1:Nat):Int):=by rw [show (i:Int)+1=((i+1:Nat):Int) by omega];exact w64 (by omega) (by omega)
  simp only [r65_4,r65_5,SS,reduceIte,qQ,e13]
  refine qte (c:=c) h hk hn hi hX hx (by simp only [zaa,qQ,if_false,e0]) (by simp only [zaa,qQ,if_false,e5]) (by simp only [zaa,qQ,reduceIte,if_false]) (by simp only [zaa,qQ,reduceIte,if_false]) (by simp only [zaa,qQ,if_false];exact e12) (by simp only [zaa,qQ,if_false];exact e13) ?_
  intro E' X' hX' hx' f0 f5 f12 f13
  simp only [SS,reduceCtorEq,reduceIte,qQ,r65_10,f13,w5]
  refine ⟨q,_,_,by omega,⟨i+1,X',by omega,hX',hx',rfl,?_,?_,?_,?_⟩,.refl⟩
  all_goals simp only [zaa,qQ,reduceIte,if_false, *]
 ·have hin:i=n:=by omega
  subst hin
  have e:X=genM l k i:=zrg hX hG fun s t hs ht=>by rw [hx s t hs ht,if_pos ⟨hs,ht⟩]
  subst e
  simp only [r65_11,SS,reduceIte,qQ,e5]
  exact ⟨.inl trivial,_,rfl,.keep _ _⟩
theorem zig (N n:Nat):∃H1 ps,zag (effs (zan [] 0) 0 (zH N n N)) (List.replicate (zH N n N).length none)=H1∧MatH H1 0 ps n (zmat N n):=
 ⟨_,_,zgi (H:=[]) (zan [] 0) (fun i=>zbp 0 i) (zH N n N) [],zoy [] N n⟩
theorem qhh {n:Nat} (hn:1≤n∧n≤16) {I:List (List Int)} (h1:I.length=n) (h2:∀i,i<n→(I.getD i []).length=n) (h3:∀i j,i<n→j<n→ent I i j=if i=j then 1 else 0):
  Ret Tryz.prog G 59 [.int .i64 (n:Nat)] [] (.tup [matC I,.bool true]) []:=by
 refine zes zah Tryz.func59 comp59 _ 29 res59 nt59 (by simp) (by simp) ?_
 simp only [c59,r59_0,r59_1,SS,forall_const,reduceCtorEq,reduceIte,qQ]
 refine ⟨fun _=>⟨fun h=>absurd h (by omega),fun _=>?_⟩,fun h=>absurd h (by omega)⟩
 simp only [r59_3,SS,reduceCtorEq,reduceIte,qQ]
 refine zdt (qfp hn.2 hn.2) rfl ?_
 obtain ⟨H1,ps,hH1,hz⟩:=zig n n
 simp only [zba,SS,reduceIte,qQ,AV.ren,zbp,qS,hH1]
 simp only [r59_4,SS,reduceIte,qQ]
 refine zal (fun k E H=>∃i X,i+k=n∧MatH H 0 ps n X∧X.length=n∧(∀s t,ent X s t=if s<i∧s=t then 1 else 0)∧E 4= .sl 0 0 n 1 (some n)∧E 16= .int .i64 (n:Nat)∧E 17= .int .i64 (i:Nat)) (n:=n) ⟨0,zmat n n,by omega,hz,(zib _ _).1,fun s t=>by rw [if_neg (by omega),zjr],by simp only [zaa,zac,qX,qQ,reduceIte,if_false],by simp only [zaa,zac,qX,qQ,reduceIte,if_false],by simp only [zaa,zac,qX,qQ,reduceIte,if_false];rfl⟩ ?_
 rintro k E H ⟨i,X,hik,hM,hXl,hX,e4,e16,e17⟩
 refine zaf zah ?_
 simp only [l59_0,r59_5,SS,reduceCtorEq,reduceIte,e16,e17]
 refine ⟨fun hlt=>?_,fun hge=>?_⟩
 ·obtain ⟨k,rfl⟩:∃k',k=k'+1:=⟨k-1,by omega⟩
  have hi:i<n:=by omega
  obtain ⟨csk,gk,lk,rk,fk⟩:=zer hM (i:=i) (by omega)
  have ok:=zce (ps:=ps) (n:=n) (i:=i) (by rw [hM.len];omega)
  have hol:(ps.map (zcm n)).length=n:=by rw [qN,hM.len];exact hXl
  have hou:=hM.outer
  obtain ⟨v,hv,ts⟩:=zfu 1 (by omega) (by omega)
  have hv0:=hv
  obtain ⟨lv,cv,_,_,_,rfl⟩:=hv0
  have hset:=ziw hM (i:=i) (j:=i) (by omega) hi hv gk
  have w5:IntKind.i64.wrap ((i:Int)+1)=((i+1:Nat):Int):=by rw [show (i:Int)+1=((i+1:Nat):Int) by omega];exact w64 (by omega) (by omega)
  simp only [r59_6,r59_7,SS,forall_const,reduceIte,qQ,e4,e17,qW,hou,hol,ok]
  refine ⟨⟨by omega,by omega⟩,by omega,?_⟩
  refine zab ts ?_
  simp only [SS,reduceIte,qJ,qQ,gk,lk,qW]
  refine ⟨⟨by omega,by omega⟩,by omega,rfl,?_⟩
  simp only [r59_8,SS,reduceIte,qQ,e17,w5]
  refine ⟨k,_,_,by omega,⟨i+1,setM X i i 1,by omega,hset,by rw [zcn];exact hXl,?_,?_,?_,?_⟩,.refl⟩
  ·intro s t
   rw [zgk (by omega) (by rw [hM.cols i (by omega)];exact hi),hX]
   by_cases h1:s=i∧t=i
   ·rw [if_pos h1,if_pos ⟨by omega,by omega⟩]
   ·rw [if_neg h1]
    by_cases h2:s<i∧s=t
    ·rw [if_pos h2,if_pos ⟨by omega,h2.2⟩]
    ·rw [if_neg h2,if_neg (by omega)]
  all_goals simp only [zaa,qQ,reduceIte,if_false, *]
 ·have hin:i=n:=by omega
  subst hin
  have e:X=I:=by
   refine zqy hXl h1 (fun s hs=>hM.cols s (by omega)) h2 fun s t hs ht=>?_
   rw [hX,h3 s t hs ht]
   by_cases h:s=t
   ·rw [if_pos ⟨hs,h⟩,if_pos h]
   ·rw [if_neg (fun e=>h e.2),if_neg h]
  subst e
  simp only [r59_9,SS,reduceIte,qQ,e4]
  obtain ⟨v,g1,g2⟩:=zia (cap:=some i) (b:=true) hM
  rw [hXl] at g1
  exact ⟨.inl trivial,_,v,rfl,g1,g2⟩
theorem qwi {M:List (List Int)} {rows:List AV} {c cap:Option Nat} {n:Nat} (hn:n≤16) (hN:M.length≤16) (hl:rows.length=M.length) (hr:∀i,i<M.length→zfv (M.getD i []) (rows.getD i .junk)) (hc:∀i,i<M.length→(M.getD i []).length=n)
  {i:Nat} (hi:i<M.length) {v22 v23:AV} {Q:Post} {ps:List (Nat×Option Nat)} {X0:List (List Int)} (hX0:X0.length=n)
  {E:Env} {H:Heap} (hM:MatH H 0 ps M.length X0) (e0:E 0= .vec rows M.length c) (e7:E 7= .sl 0 0 n 1 cap) (e8:E 8= .int .i64 (i:Nat)) (e22:E 22=v22) (e23:E 23=v23) (e30:E 30= .int .i64 (n:Nat)) (e31:E 31= .int .i64 0)
  (hQ:∀E' H' X,MatH H' 0 ps M.length X→X.length=n→(∀s t,ent X s t=if t=i∧s<n then ent M t s else ent X0 s t)→E' 0= .vec rows M.length c→E' 7= .sl 0 0 n 1 cap→E' 22=v22→E' 23=v23→Q (.exit 2) E' H'):
  W Tryz.prog G 0 51 (.loop l133_1) E H Q:=by
 refine zal (fun k E H=>∃j X,j+k=n∧MatH H 0 ps M.length X∧X.length=n∧(∀s t,ent X s t=if t=i∧s<j then ent M t s else ent X0 s t)∧E 0= .vec rows M.length c∧E 7= .sl 0 0 n 1 cap∧E 8= .int .i64 (i:Nat)∧E 22=v22∧E 23=v23∧
  E 30= .int .i64 (n:Nat)∧E 31= .int .i64 (j:Nat)) (n:=n) ⟨0,X0,by omega,hM,hX0,fun s t=>by rw [if_neg (by omega)],e0,e7,e8,e22,e23,e30,e31⟩ ?_
 clear hM e0 e7 e8 e22 e23 e30 e31 E H
 rintro k E H ⟨j,X,hjk,hM,hXl,hX,e0,e7,e8,e22,e23,e30,e31⟩
 refine zaf zah ?_
 simp only [l133_1,r133_9,SS,reduceIte,e30,e31]
 refine ⟨fun hlt=>?_,fun hge=>?_⟩
 ·obtain ⟨k,rfl⟩:∃k',k=k'+1:=⟨k-1,by omega⟩
  have hj:j<n:=by omega
  obtain ⟨csk,gk,lk,rk,fk⟩:=zer hM (i:=j) (by omega)
  have ok:=zce (ps:=ps) (n:=M.length) (i:=j) (by rw [hM.len];omega)
  have hol:(ps.map (zcm M.length)).length=n:=by rw [qN,hM.len];exact hXl
  have hou:=hM.outer
  obtain ⟨csi,ci,hei,hci⟩:=hr i hi
  have hcl:=zcw hci
  obtain ⟨u,v,hu,hz⟩:=zei hci j (by rw [hc i hi];exact hj)
  obtain ⟨w,hw,ts⟩:=zos hz
  obtain ⟨lz,cz,hz1,hz2⟩:=zao hz
  subst hz1 hz2
  have hw0:=hw
  obtain ⟨lv,cv,_,_,_,rfl⟩:=hw0
  have hset:=ziw hM (i:=j) (j:=i) (by omega) hi hw gk
  have w5:IntKind.i64.wrap ((j:Int)+1)=((j+1:Nat):Int):=by rw [show (j:Int)+1=((j+1:Nat):Int) by omega];exact w64 (by omega) (by omega)
  simp only [r133_10,r133_11,SS,forall_const,reduceCtorEq,reduceIte,qQ,e0,e7,e8,e31,qW,hou,hol,ok,hl,hei,hcl,hc i hi,hu]
  refine ⟨⟨by omega,by omega⟩,by omega,⟨by omega,by omega⟩,by omega,⟨by omega,by omega⟩,by omega,?_⟩
  refine zab ts ?_
  simp only [SS,reduceIte,qJ,qQ,gk,lk,qW]
  refine ⟨⟨by omega,by omega⟩,by omega,rfl,?_⟩
  simp only [r133_12,SS,reduceIte,qQ,e31,w5]
  refine ⟨k,_,_,by omega,⟨j+1,setM X j i (ent M i j),by omega,hset,by rw [zcn];exact hXl,?_,?_,?_,?_,?_,?_,?_,?_⟩,.refl⟩
  ·intro s t
   rw [zgk (by omega) (by rw [hM.cols j (by omega)];exact hi),hX]
   by_cases h1:s=j∧t=i
   ·rw [if_pos h1,if_pos ⟨h1.2,by omega⟩,h1.1,h1.2]
   ·rw [if_neg h1]
    by_cases h2:t=i∧s<j
    ·rw [if_pos h2,if_pos ⟨h2.1,by omega⟩]
    ·rw [if_neg h2,if_neg (by omega)]
  all_goals simp only [zaa,qQ,reduceIte,if_false, *]
 ·have hjn:j=n:=by omega
  subst hjn
  exact hQ _ _ X hM hXl hX (by simp only [zaa,qQ,if_false,e0]) (by simp only [zaa,qQ,if_false,e7]) (by simp only [zaa,qQ,if_false,e22]) (by simp only [zaa,qQ,if_false,e23])
theorem zph {M:List (List Int)} {a:AV} {n:Nat} (h:MatV M a) (hn:1≤n∧n≤16) (hN:1≤M.length∧M.length≤16) (hc:∀i,i<M.length→(M.getD i []).length=n)
  {T:List (List Int)} (h1:T.length=n) (h2:∀i,i<n→(T.getD i []).length=M.length) (h3:∀i j,i<n→j<M.length→ent T i j=ent M j i):
  Ret Tryz.prog G 133 [a] [] (.tup [matC T,.bool true]) []:=by
 have ts:=zsx h ⟨hN.1,hN.2,fun i hi=>by rw [hc i hi,hc 0 (by omega)];exact ⟨hn.1,hn.2,rfl⟩⟩
 rw [hc 0 (by omega)] at ts
 obtain ⟨rows,c,rfl,hl,hr⟩:=h
 refine zes zah Tryz.func133 comp133 _ 51 res133 nt133 (by simp) (by simp) ?_
 simp only [c133,r133_0,r133_1,SS,reduceCtorEq,reduceIte]
 refine zab ts ?_
 simp only [SS,forall_const,reduceIte,qQ,r133_2,r133_4,qA,qU]
 refine zdt (qfp hn.2 hN.2) rfl ?_
 obtain ⟨H1,ps,hH1,hz⟩:=zig n M.length
 simp only [zba,SS,reduceIte,qQ,AV.ren,zbp,qS,hH1]
 simp only [r133_5,SS,reduceCtorEq,reduceIte,qQ]
 refine zal (fun k E H=>∃i X,i+k=M.length∧MatH H 0 ps M.length X∧X.length=n∧(∀s t,ent X s t=if t<i∧s<n then ent M t s else 0)∧E 0= .vec rows M.length c∧E 7= .sl 0 0 n 1 (some n)∧E 22= .int .i64 (M.length:Nat)∧E 23= .int .i64 (i:Nat)) (n:=M.length) ⟨0,zmat n M.length,by omega,hz,(zib _ _).1,fun s t=>by rw [if_neg (by omega),zjr],by simp only [zaa,zac,qY,qQ,if_false],by simp only [zaa,zac,qX,qQ,reduceIte,if_false],by simp only [zaa,zac,qX,qQ,reduceIte,if_false],by simp only [zaa,zac,qX,qQ,reduceIte,if_false];rfl⟩ ?_
 rintro k E H ⟨i,X,hik,hM,hXl,hX,e0,e7,e22,e23⟩
 refine zaf zah ?_
 simp only [l133_0,r133_6,SS,reduceCtorEq,reduceIte,e22,e23]
 refine ⟨fun hlt=>?_,fun hge=>?_⟩
 ·obtain ⟨k,rfl⟩:∃k',k=k'+1:=⟨k-1,by omega⟩
  have hi:i<M.length:=by omega
  obtain ⟨csi,ci,hei,hci⟩:=hr i hi
  have hcl:=zcw hci
  have w5:IntKind.i64.wrap ((i:Int)+1)=((i+1:Nat):Int):=by rw [show (i:Int)+1=((i+1:Nat):Int) by omega];exact w64 (by omega) (by omega)
  simp only [r133_7,r133_8,SS,forall_const,reduceCtorEq,reduceIte,qQ,e0,e23,qW,hei,hl,hc i hi]
  refine ⟨⟨by omega,by omega⟩,by omega,?_⟩
  refine qwi (c:=c) (cap:=some n) hn.2 hN.2 hl hr hc hi hXl hM (by simp only [zaa,qQ,if_false,e0]) (by simp only [zaa,qQ,if_false,e7]) (by simp only [zaa,qQ,reduceIte,if_false]) (by simp only [zaa,qQ,if_false];exact e22) (by simp only [zaa,qQ,if_false];exact e23) (by simp only [zaa,qQ,reduceIte,if_false]) (by simp only [zaa,qQ,reduceIte,if_false]) ?_
  intro E' H' X' hM' hXl' hX' f0 f7 f22 f23
  simp only [SS,reduceCtorEq,reduceIte,qQ,r133_13,f23,w5]
  refine ⟨k,_,_,by omega,⟨i+1,X',by omega,hM',hXl',?_,?_,?_,?_,?_⟩,.refl⟩
  ·intro s t
   rw [hX',hX]
   by_cases h1:t=i∧s<n
   ·rw [if_pos h1,if_pos ⟨by omega,h1.2⟩]
   ·rw [if_neg h1]
    by_cases h2:t<i∧s<n
    ·rw [if_pos h2,if_pos ⟨by omega,h2.2⟩]
    ·rw [if_neg h2,if_neg (by omega)]
  all_goals simp only [zaa,qQ,reduceIte,if_false, *]
 ·have hin:i=M.length:=by omega
  subst hin
  have e:X=T:=by
   refine zqy hXl h1 (fun s hs=>hM.cols s (by omega)) h2 fun s t hs ht=>?_
   rw [hX,h3 s t hs ht,if_pos ⟨ht,hs⟩]
  subst e
  simp only [r133_14,SS,reduceIte,qQ,e7]
  obtain ⟨v,g1,g2⟩:=zia (cap:=some n) (b:=true) hM
  rw [hXl] at g1
  exact ⟨.inl trivial,_,v,rfl,g1,g2⟩
def dotS (r s:List Int):Nat→Int
 | 0=>0
 | k+1=>dotS r s k+r.getD k 0*s.getD k 0
theorem mDot {r s:List Int} {a b:AV} (ha:zfv r a) (hb:zfv s b) (hl:s.length=r.length) (h16:r.length≤16) (hB:∀i,i<r.length→(r.getD i 0*s.getD i 0).natAbs<BIG) (hS:∀k,k≤r.length→(dotS r s k).natAbs<BIG):
  Ret Tryz.prog G 191 [a,b] [] (intV (dotS r s r.length)) []:=by
 obtain ⟨ra,ca,rfl,hra⟩:=ha
 obtain ⟨sb,cb,rfl,hsb⟩:=hb
 have la:=zcw hra
 have lb:=zcw hsb
 refine zes zah Tryz.func191 comp191 _ 26 res191 nt191 (by simp) (by simp) ?_
 simp only [c191,r191_0,r191_1,r191_2,SS,reduceCtorEq,reduceIte,qJ,qQ,qZ]
 refine zal (fun m E H=>∃k u v,k+m=r.length∧H=[some [AV.bool false,AV.vec [] 0 (some 0)],some [u,v]]∧zaw (dotS r s k) (.agg [u,v])∧E 0= .vec ra r.length ca∧E 1= .vec sb s.length cb∧E 4= .ptr 0 0∧E 5= .ptr 1 0∧E 9= .int .i64 (r.length:Nat)∧E 10= .int .i64 (k:Nat)) (n:=r.length)
  ⟨0,_,_,by omega,rfl,zox,by simp only [zaa,zac,qY,qQ,if_false],by simp only [zaa,zac,qY,qX,qQ,if_false],by simp only [zaa,zac,qX,qQ,reduceIte,if_false],by simp only [zaa,zac,qX,qQ,reduceIte,if_false],by simp only [zaa,zac,qX,qQ,reduceIte,if_false],by simp only [zaa,zac,qX,qQ,reduceIte,if_false];rfl⟩ ?_
 rintro m E H ⟨k,u,v,hkm,rfl,hz,e0,e1,e4,e5,e9,e10⟩
 refine zaf zah ?_
 obtain ⟨lz,cz,hz1,hz2⟩:=zao hz
 subst hz1 hz2
 simp only [l191_0,r191_3,SS,reduceCtorEq,reduceIte,e9,e10]
 refine ⟨fun hlt=>?_,fun hge=>?_⟩
 ·obtain ⟨m,rfl⟩:∃m',m=m'+1:=⟨m-1,by omega⟩
  have hk:k<r.length:=by omega
  obtain ⟨u1,v1,g1,hz1⟩:=zei hra k hk
  obtain ⟨u2,v2,g2,hz2⟩:=zei hsb k (by omega)
  obtain ⟨p,hp,t1⟩:=zMul hz1 hz2 (hB k hk)
  obtain ⟨q,hq,t2⟩:=zAdd hz hp (hS (k+1) hk)
  obtain ⟨l1,c1,x1,y1⟩:=zao hz1
  obtain ⟨l2,c2,x2,y2⟩:=zao hz2
  subst x1 y1 x2 y2
  obtain ⟨lp,cp,_,_,_,rfl⟩:=id hp
  obtain ⟨lq,cq,_,_,_,rfl⟩:=id hq
  have w5:IntKind.i64.wrap ((k:Int)+1)=((k+1:Nat):Int):=by rw [show (k:Int)+1=((k+1:Nat):Int) by omega];exact w64 (by omega) (by omega)
  simp only [r191_4,r191_5,SS,reduceCtorEq,reduceIte,qJ,qQ,qZ,e0,e1,e5,e10,qW,g1,g2,la,lb,hl]
  refine ⟨⟨by omega,by omega⟩,by omega,⟨by omega,by omega⟩,by omega,?_⟩
  refine zab t1 ?_
  simp only [SS,reduceIte,qQ]
  refine zab t2 ?_
  simp only [SS,reduceIte,qJ,qQ,qZ,e5]
  refine ⟨rfl,?_⟩
  simp only [r191_6,SS,reduceIte,qQ,e10,w5]
  refine ⟨m,_,_,by omega,⟨k+1,_,_,by omega,rfl,hq,?_,?_,?_,?_,?_,?_⟩,.refl⟩
  all_goals first | (simp only [zaa,qQ,reduceIte,if_false, *];done) | (simp only [zaa,zac,qY,qX,qQ,reduceIte,if_false, *];rw [hl])
 ·have hkr:k=r.length:=by omega
  subst hkr
  simp only [r191_7,SS,reduceIte,qJ,qQ,qZ,e4,e5]
  exact ⟨.inl trivial,_,_,zev (id:=0) (by simp only [zaa,qQ,if_false,e4]) rfl,.drop _ _ rfl (by intro i cs h;omega),hz.wk⟩
end Go.Proofs.YtpflahgcdgdkjaaGreatDoor
namespace Go.Proofs.YtpflahgcdgdkjaaGreatDoor
open Nat renaming reduceEqDiff → qQ, reduceAdd → qJ, le_refl → qB, lt_or_ge → qE, pow_le_pow_right → qI, add_zero → qS, zero_le → xB, mul_le_mul_right → xH, add_assoc → xM, add_sub_cancel → xO, eq_zero_or_pos → xP
open List renaming getD_cons_succ → qX, getD_cons_zero → qY, getElem?_cons_succ → qU, getElem?_cons_zero → qA, length_map → qN
open Go.AL.AV.closed renaming closedL → qK
open Int renaming toNat_natCast → qW, mul_le_mul_of_nonneg_right → qH, mul_le_mul_of_nonneg_left → qL, le_refl → qT, pow_succ → xR, add_mul → yQ
open Bool renaming and_self → qD
set_option linter.unusedSimpArgs false
set_option linter.unusedVariables false
open Go Go.AL Go.Det
def MuOK (n:Nat) (a:Nat→Row) (k:Nat):Prop:=(∀i j,CurA n a i j→ziy a n*100+(n-i)*10+j+1≤k)∧∀i,CurS n a i→ziy a n*100+(n-i)*10≤k
theorem zyr {n:Nat} {a:Nat→Row} (h8:n≤8):MuOK n a (ziy a n*100+99):=
 ⟨fun i j c=>by have:=c.hi;have:=c.hj;omega,fun i c=>by omega⟩
theorem qwj {n:Nat} {D K:Int} {a:Nat→Row} {i j:Nat} {c:Int} {k:Nat} (h:Pos n D a) (h8:n≤8) (hK:1≤K) (hKD:8*D≤K) (hc:CurA n a i j) (hg:Good n D K a) (hz:2*(stg a j i j+c*lead a (j+1))≤lead a (j+1)∧ -(2*(stg a j i j+c*lead a (j+1)))≤lead a (j+1))
  (hm:MuOK n a k):∃k',k'<k∧MuOK n (addG a i j c) k':=by
 obtain ⟨_,_,_,g1,g2⟩:=zyd h h8 hK hKD hc hg hz
 have hi:=hc.hi
 have hj:=hc.hj
 have hp:ziy (addG a i j c) n=ziy a n:=zpb n (fun t ht=>zjx hj hi (h.ne (qB _)) ht)
 have:=hm.1 i j hc
 refine ⟨ziy a n*100+(n-i)*10+j,by omega,fun i' j' c'=>?_,fun i' c'=>?_⟩
 ·obtain ⟨l1,l2⟩:=g1 i' j' c'
  have:=c'.hi
  have:=c'.hj
  rw [hp]
  by_cases e:i'=i
  ·have:=l2 e
   subst e
   omega
  ·omega
 ·have:=g2 i' c'
  rw [hp]
  omega
theorem qxu {n:Nat} {D K:Int} {a:Nat→Row} {i:Nat} {k:Nat} (h:Pos n D a) (h8:n≤8) (hK:1≤K) (hc:CurS n a i) (hg:Good n D K a) (hm:MuOK n a k):∃k',k'<k∧MuOK n (swG a (i-1)) k':=by
 obtain ⟨gp,_,g1,g2⟩:=zvy h hK hc hg
 have hlt:=qsj (b:=swG a (i-1)) hc.h0 g2 (gp.pos i (by have:=hc.hi;omega)) n (by have:=hc.hi;omega) g1 h.pos
 have:=hm.2 i hc
 exact ⟨ziy (swG a (i-1)) n*100+99,by omega,zyr h8⟩
def zga (l d:Int):Int:=(2*l+d)/(2*d)
theorem qhi {l d:Int} (hd:0<d):2*(l+ -(zga l d)*d)≤d∧ -(2*(l+ -(zga l d)*d))≤d:=by
 unfold zga
 have h1:=Int.ediv_mul_le (2*l+d) (show 2*d≠0 by omega)
 have h2:=Int.lt_ediv_add_one_mul_self (2*l+d) (show 0<2*d by omega)
 generalize (2*l+d)/(2*d)=q at*
 have e1:q*(2*d)=2*(q*d):=by grind
 have e2:(q+1)*(2*d)=2*(q*d)+2*d:=by grind
 have e3: -q*d= -(q*d):=by grind
 omega
structure LState (n:Nat) (D K:Int) (M0 M T:List (List Int)):Prop where
 shM:Shp n M
 shT:Shp n T
 pos:Pos n D (rowF M)
 good:Good n D K (rowF M)
 rel:∀s t,s<n→t<n→ent M s t=znm (rowF M0) n (fun x y=>ent T x y) s t
theorem qtf {n:Nat} (a:Nat→Row) {s t:Nat} (hs:s<n) (ht:t<n):znm a n (fun x y=>ent (idM n) x y) s t=a s t:=by
 unfold znm
 have e:sumR (fun x=>sumR (fun y=>a x y*ent (idM n) y t) n*ent (idM n) x s) n=sumR (fun x=>if x=s then a s t else 0) n:=by
  refine zas fun x hx=>?_
  have e2:sumR (fun y=>a x y*ent (idM n) y t) n=a x t:=by
   have e3:sumR (fun y=>a x y*ent (idM n) y t) n=sumR (fun y=>if y=t then a x t else 0) n:=by
    refine zas fun y hy=>?_
    rw [znn hy ht]
    split
    ·rename_i e;rw [e];omega
    ·omega
   rw [e3,zic ht (fun z _ hne=>if_neg hne),if_pos rfl]
  rw [e2,znn hx hs]
  split
  ·rename_i e;rw [e];omega
  ·omega
 rw [e,zic hs (fun z _ hne=>if_neg hne),if_pos rfl]
theorem zpi {n:Nat} (a:Nat→Row) {T T':Nat→Nat→Int} {s t:Nat} (hs:∀x,x<n→T x s=T' x s) (ht:∀x,x<n→T x t=T' x t):znm a n T s t=znm a n T' s t:=by
 unfold znm
 refine zas fun x hx=>?_
 rw [hs x hx]
 congr 1
 exact zas fun y hy=>by rw [ht y hy]
section
variable {n:Nat} {D K:Int} {M0 M T:List (List Int)}
theorem LState.start (h1:Shp n M0) (hp:Pos n D (rowF M0)) (hK:1≤K) (ha:∀s,s<n→ent M0 s s≤K):LState n D K M0 M0 (idM n):=
 ⟨h1,zcj n _,hp,zrf hp hK ha,fun s t hs ht=>(qtf (rowF M0) hs ht).symm⟩
theorem LState.add {i j:Nat} (h:LState n D K M0 M T) (h8:n≤8) (hK:1≤K) (hKD:8*D≤K) (hc:CurA n (rowF M) i j):
  LState n D K M0 (cgM n M (addU n i j (-(zga (stg (rowF M) j i j) (lead (rowF M) (j+1)))))) (mulM n T (addU n i j (-(zga (stg (rowF M) j i j) (lead (rowF M) (j+1))))))∧
   ∀k,MuOK n (rowF M) k→∃k',k'<k∧MuOK n (rowF (cgM n M (addU n i j (-(zga (stg (rowF M) j i j) (lead (rowF M) (j+1))))))) k':=by
 have hi:=hc.hi
 have hj:=hc.hj
 have hz:=qhi (l:=stg (rowF M) j i j) (h.pos.pos (j+1) (by omega))
 generalize -(zga (stg (rowF M) j i j) (lead (rowF M) (j+1)))=c at*
 have e:=qou (c:=c) h.shM (show i≠j by omega) hi (show j<n by omega)
 obtain ⟨_,g1,g2,_,_⟩:=zyd h.pos h8 hK hKD hc h.good hz
 refine ⟨⟨zcj n _,zcj n _,by rw [e];exact g1,by rw [e];exact g2,fun s t hs ht=>?_⟩,fun k hk=>by rw [e];exact qwj h.pos h8 hK hKD hc h.good hz hk⟩
 have e2:ent (cgM n M (addU n i j c)) s t=addG (rowF M) i j c s t:=congrFun (congrFun e s) t
 rw [e2,zpi (rowF M0) (T':=fun x s=>ent T x s+if s=i then c*ent T x j else 0) (fun x hx=>mul_add (show i≠j by omega) hi (by omega) hx hs) (fun x hx=>mul_add (show i≠j by omega) hi (by omega) hx ht)]
 rw [qgk (a:=rowF M0) (n:=n) (fun x s=>ent T x s) i j c]
 unfold addG
 have r:=h.rel
 rw [←r s t hs ht,←r j t (by omega) ht,←r s j hs (by omega),←r j j (by omega) (by omega)]
 rfl
theorem LState.sw {p:Nat} (h:LState n D K M0 M T) (h8:n≤8) (hK:1≤K) (hc:CurS n (rowF M) (p+1)):LState n D K M0 (cgM n M (zde (idM n) (p+1) p)) (mulM n T (zde (idM n) (p+1) p))∧
   ∀k,MuOK n (rowF M) k→∃k',k'<k∧MuOK n (rowF (cgM n M (zde (idM n) (p+1) p))) k':=by
 have hi:=hc.hi
 have e:=qvx h.shM hi
 obtain ⟨g1,g2,_,_⟩:=zvy h.pos hK hc h.good
 simp only [xO] at g1 g2
 refine ⟨⟨zcj n _,zcj n _,by rw [e];exact g1,by rw [e];exact g2,fun s t hs ht=>?_⟩,fun k hk=>by
  rw [e]
  have:=qxu h.pos h8 hK hc h.good hk
  simpa using this⟩
 have e2:ent (cgM n M (zde (idM n) (p+1) p)) s t=ent M (Det.sw p s) (Det.sw p t):=congrFun (congrFun e s) t
 rw [e2,zpi (rowF M0) (T':=fun x s=>ent T x (Det.sw p s)) (fun x hx=>qov hi hx hs) (fun x hx=>qov hi hx ht),h.rel _ _ (zvx hi hs) (zvx hi ht)]
 rfl
theorem LState.bound (h:LState n D K M0 M T) (h8:n≤8) (hK:1≤K) (hp:Pos n D (rowF M0)) (ha:∀s,s<n→ent M0 s s≤K) (hcase:(∃i j,CurA n (rowF M) i j)∨(∃i,CurS n (rowF M) i)∨∀i,i<n→OKr (rowF M) i):
  (∀s t,s<n→t<n→ent M s t≤bigK D K∧ -(bigK D K)≤ent M s t)∧∀s t,s<n→t<n→ent T s t≤vecB D K (bigK D K) 7∧ -(vecB D K (bigK D K) 7)≤ent T s t:=by
 have hn:=fun s hs=>qgf (s:=s) h.pos h8 hK h.good hcase hs
 refine ⟨fun s t hs ht=>h.pos.bound hn hs ht,fun s t hs ht=>?_⟩
 refine qsm hp h8 hK ha (fun x=>ent T x t) ?_ hs
 rw [←qay (a:=rowF M0) (n:=n) (fun x y=>ent T x y) t,←h.rel t t ht ht]
 exact hn t ht
end
theorem zys {a:Nat→Row} {n:Nat} (h0:∀i j,i≠j→a i j=0) (h1:∀i,i<n→0<a i i):∀k,k≤n→(∀t,t≤k→0<lead a t)∧∀i j,k≤i→k≤j→stg a k i j=lead a k*a i j:=by
 intro k
 induction k with
 | zero=>
  intro _
  refine ⟨fun t ht=>?_,fun i j _ _=>by rw [zdm,zaz,Int.one_mul]⟩
  obtain rfl:t=0:=by omega
  rw [zaz];decide
 | succ k ih=>
  intro hk
  obtain ⟨p,q⟩:=ih (by omega)
  have e:lead a (k+1)=lead a k*a k k:=by rw [zay,q k k (qB _) (qB _)]
  have pk:=p k (qB _)
  have pk1:0<lead a (k+1):=by rw [e];exact Int.mul_pos pk (h1 k (by omega))
  refine ⟨fun t ht=>?_,fun i j hi hj=>?_⟩
  ·rcases (by omega:t≤k∨t=k+1) with h | h
   ·exact p t h
   ·rw [h];exact pk1
  ·have r:=zbs (a:=a) (k:=k) (fun t ht=>by have:=p t ht;omega) i j
   rw [q i j (by omega) (by omega),q i k (by omega) (qB _),q k j (qB _) (by omega),h0 i k (by omega),Int.mul_zero,Int.zero_mul,Int.sub_zero] at r
   have e2:lead a (k+1)*(lead a k*a i j)=lead a k*(lead a (k+1)*a i j):=Int.mul_left_comm _ _ _
   rw [e2] at r
   exact Int.eq_of_mul_eq_mul_left (by omega) r
theorem qhj {a:Nat→Row} {n:Nat} {c:Int} (h0:∀i j,i≠j→a i j=0) (h1:∀i,i<n→0<a i i) (h2:∀i,i<n→a i i≤c) (hc:0≤c):∀k,k≤n→lead a k≤c^k:=by
 intro k
 induction k with
 | zero=>intro _;rw [zaz,Int.pow_zero];exact qT _
 | succ k ih=>
  intro hk
  obtain ⟨p,q⟩:=zys h0 h1 k (by omega)
  rw [zay,q k k (qB _) (qB _),xR]
  exact Int.mul_le_mul (ih (by omega)) (h2 k (by omega)) (by have:=h1 k (by omega);omega) (Int.pow_nonneg hc)
theorem qmy {a:Nat→Row} {n:Nat} (hs:∀i j,i<n→j<n→a i j=a j i) (hp:∀k,k≤n→0<lead a k):∃D,Pos n D a:=by
 have:∀m,m≤n→∃D,∀k,k≤m→lead a k≤D:=by
  intro m
  induction m with
  | zero=>intro _;exact ⟨lead a 0,fun k hk=>by
    have e:k=0:=by omega
    rw [e];exact qT _⟩
  | succ m ih=>
   intro hm
   obtain ⟨D,h⟩:=ih (by omega)
   refine ⟨max D (lead a (m+1)),fun k hk=>?_⟩
   rcases (by omega:k≤m∨k=m+1) with h1 | h1
   ·have:=h k h1;omega
   ·rw [h1];omega
 obtain ⟨D,h⟩:=this n (qB _)
 exact ⟨D,hs,hp,h⟩
theorem qmz {a:Nat→Row} {n:Nat} {c:Int} (hs:∀i j,i<n→j<n→a i j=a j i) (hp:∀k,k≤n→0<lead a k) (hd:∀s,s<n→a s s≤c) (hc:1≤c):Pos n (c^n) a:=by
 obtain ⟨D,h⟩:=qmy hs hp
 have key:∀k,k≤n→lead a k≤c^k:=by
  intro k
  induction k with
  | zero=>intro _;rw [zaz,Int.pow_zero];exact qT _
  | succ k ih=>
   intro hk
   have d:=h.down (s:=k) (by omega) k (qB _)
   rw [←zay] at d
   have p:=hp k (by omega)
   have m1:lead a k*a k k≤lead a k*c:=qL (hd k (by omega)) (by omega)
   have m2:lead a k*c≤c^k*c:=qH (ih (by omega)) (by omega)
   rw [xR]
   omega
 refine ⟨hs,hp,fun k hk=>Int.le_trans (key k hk) ?_⟩
 obtain ⟨m,rfl⟩:∃m,n=k+m:=⟨n-k,by omega⟩
 clear key h hs hp hd hk D
 induction m with
 | zero=>exact qT _
 | succ m ih=>
  rw [←xM,xR]
  have:0≤c^(k+m):=Int.pow_nonneg (by omega)
  have:=qL hc this
  omega
def zij (n:Nat) (M:List (List Int)):Prop:=(∀k,k<n+1→0<lead (rowF M) k)∧lead (rowF M) n≤10000
instance (n:Nat) (M:List (List Int)):Decidable (zij n M):=inferInstanceAs (Decidable (_∧_))
def zwk (l:List Int) (kind n:Nat):List (List Int):=if zij n (rawM l kind n) then rawM l kind n else diaM l (rawK l kind n) n 2
theorem qna {l:List Int} {k n:Nat} (h8:n≤8):zij n (diaM l k n 2):=by
 have h0:∀i j,i≠j→rowF (diaM l k n 2) i j=0:=by
  intro i j hij
  show ent (diaM l k n 2) i j=0
  by_cases h:i<n∧j<n
  ·rw [qhd h.1 h.2,if_neg hij]
  ·exact (zka (l:=l) (k:=k) (n:=n) (most:=2) (by decide) (by decide)).shp.out (by omega)
 have hd:∀i,i<n→0<rowF (diaM l k n 2) i i∧rowF (diaM l k n 2) i i≤2:=by
  intro i hi
  show 0<ent (diaM l k n 2) i i∧ent (diaM l k n 2) i i≤2
  rw [qhd hi hi,if_pos rfl]
  have:=zfm l (zbe l k i) (show (1:Int)≤2 by decide)
  omega
 refine ⟨fun t ht=>(zys h0 (fun i hi=>(hd i hi).1) n (qB _)).1 t (by omega),?_⟩
 have:=qhj h0 (fun i hi=>(hd i hi).1) (fun i hi=>(hd i hi).2) (by decide) n (qB _)
 have h2:(2:Int)^n≤2^8:=by
  have:=qI (n:=2) (by decide) h8
  exact_mod_cast this
 have e8:(2:Int)^8=256:=by decide
 omega
theorem qtg {l:List Int} {kind n:Nat} (hn:1≤n) (h8:n≤8):SmallG n (zwk l kind n)∧zij n (zwk l kind n):=by
 unfold zwk
 split
 ·rename_i h;exact ⟨ztu hn,h⟩
 ·exact ⟨zka (by decide) (by decide),qna h8⟩
theorem zyt {n:Nat} {M:List (List Int)} (h:SmallG n M) (hg:zij n M):Pos n (16^n) (rowF M):=
 qmz h.sym (fun k hk=>hg.1 k (by omega)) (fun s _=>(h.bnd s s).2) (by decide)
instance (a:Nat→Row) (i j:Nat):Decidable (SZ a i j):=inferInstanceAs (Decidable (_∧_))
instance (a:Nat→Row) (i:Nat):Decidable (LV a i):=inferInstanceAs (Decidable (_≤_))
theorem qnb {n:Nat} {a:Nat→Row} {i j i' j':Nat} (h:CurA n a i j) (h':CurA n a i' j'):i=i'∧j=j':=by
 have e:i=i':=by
  rcases qE i i' with h1 | h1
  ·exact absurd ((h'.pre i h1).1 j h.hj) h.no
  ·rcases qE i' i with h2 | h2
   ·exact absurd ((h.pre i' h2).1 j' h'.hj) h'.no
   ·omega
 subst e
 refine ⟨rfl,?_⟩
 rcases qE j j' with h1 | h1
 ·exact absurd (h.up j' h1 h'.hj) h'.no
 ·rcases qE j' j with h2 | h2
  ·exact absurd (h'.up j h2 h.hj) h.no
  ·omega
theorem qnc {n:Nat} {a:Nat→Row} {i i':Nat} (h:CurS n a i) (h':CurS n a i'):i=i':=by
 rcases qE i i' with h1 | h1
 ·exact absurd ((h'.pre i h1).2 h.h0) h.no
 ·rcases qE i' i with h2 | h2
  ·exact absurd ((h.pre i' h2).2 h'.h0) h'.no
  ·omega
theorem qpc {n:Nat} {a:Nat→Row} {i j i':Nat} (h:CurA n a i j) (h':CurS n a i'):False:=by
 rcases qE i i' with h1 | h1
 ·exact h.no ((h'.pre i h1).1 j h.hj)
 ·rcases qE i' i with h2 | h2
  ·exact h'.no ((h.pre i' h2).2 h'.h0)
  ·have e:i=i':=by omega
   subst e
   exact h.no (h'.up j h.hj)
theorem qhk {n:Nat} (a:Nat→Row):(∃i j,CurA n a i j)∨(∃i,CurS n a i)∨∀i,i<n→OKr a i:=by
 have key:∀m,m≤n→(∃i j,CurA n a i j)∨(∃i,CurS n a i)∨∀i,i<m→OKr a i:=by
  intro m
  induction m with
  | zero=>intro _;exact .inr (.inr fun i h=>absurd h (by omega))
  | succ m ih=>
   intro hm
   rcases ih (by omega) with h | h | h
   ·exact .inl h
   ·exact .inr (.inl h)
   ·have inner:∀c j,j+c=m→(∀l,j≤l→l<m→SZ a m l)→(∃j,CurA n a m j)∨∀l,l<m→SZ a m l:=by
     intro c
     suffices H:∀j,j≤m→(∀l,j≤l→l<m→SZ a m l)→(∃j,CurA n a m j)∨∀l,l<m→SZ a m l by
      intro j hj hl;exact H j (by omega) hl
     intro j
     induction j with
     | zero=>intro _ hl;exact .inr fun l hlm=>hl l (xB _) hlm
     | succ j ihj=>
      intro hj hl
      by_cases hz:SZ a m j
      ·refine ihj (by omega) fun l h1 h2=>?_
       rcases (by omega:l=j∨j+1≤l) with e | e
       ·rw [e];exact hz
       ·exact hl l e h2
      ·exact .inl ⟨j,by omega,by omega,h,fun l h1 h2=>hl l (by omega) h2,hz⟩
    rcases inner 0 m rfl (fun l h1 h2=>absurd h2 (by omega)) with ⟨j,hj⟩ | hz
    ·exact .inl ⟨m,j,hj⟩
    ·by_cases h0:0<m
     ·by_cases hl:LV a m
      ·refine .inr (.inr fun i hi=>?_)
       rcases (by omega:i<m∨i=m) with e | e
       ·exact h i e
       ·subst e;exact ⟨hz,fun _=>hl⟩
      ·exact .inr (.inl ⟨m,by omega,h0,h,hz,hl⟩)
     ·refine .inr (.inr fun i hi=>?_)
      have e:i=m:=by omega
      subst e
      exact ⟨hz,fun h=>absurd h h0⟩
 exact key n (qB _)
def zho (n:Nat) (M:List (List Int)) (i j:Nat):List (List Int):=addU n i j (-(zga (stg (rowF M) j i j) (lead (rowF M) (j+1))))
def zkg (n i:Nat):List (List Int):=zde (idM n) i (i-1)
inductive Ends (n:Nat) (M' T':List (List Int)):Nat→List (List Int)→List (List Int)→Prop
 | done {k:Nat}:(∀i,i<n→OKr (rowF M') i)→Ends n M' T' k M' T'
 | add {k i j:Nat} {M T:List (List Int)}:CurA n (rowF M) i j→Ends n M' T' k (cgM n M (zho n M i j)) (mulM n T (zho n M i j))→Ends n M' T' (k+1) M T
 | sw {k i:Nat} {M T:List (List Int)}:CurS n (rowF M) i→Ends n M' T' k (cgM n M (zkg n i)) (mulM n T (zkg n i))→Ends n M' T' (k+1) M T
theorem qhl {n:Nat} {D K:Int} {M0:List (List Int)} (h8:n≤8) (hK:1≤K) (hKD:8*D≤K):∀(m:Nat) (M T:List (List Int)),LState n D K M0 M T→MuOK n (rowF M) m→∃k M' T',Ends n M' T' k M T∧LState n D K M0 M' T':=by
 intro m
 induction m using Nat.strongRecOn with
 | _ m ih=>
  intro M T hL hm
  rcases qhk (n:=n) (rowF M) with ⟨i,j,hc⟩ | ⟨i,hc⟩ | h
  ·obtain ⟨hL',hmu⟩:=hL.add h8 hK hKD hc
   obtain ⟨m',hlt,hm'⟩:=hmu m hm
   obtain ⟨k,M',T',he,hl⟩:=ih m' hlt _ _ hL' hm'
   exact ⟨k+1,M',T',.add hc he,hl⟩
  ·obtain ⟨p,rfl⟩:∃p,i=p+1:=⟨i-1,by have:=hc.h0;omega⟩
   obtain ⟨hL',hmu⟩:=hL.sw h8 hK hc
   obtain ⟨m',hlt,hm'⟩:=hmu m hm
   obtain ⟨k,M',T',he,hl⟩:=ih m' hlt _ _ hL' hm'
   exact ⟨k+1,M',T',.sw hc he,hl⟩
  ·exact ⟨0,M,T,.done h,hL⟩
theorem qhm {n k:Nat} {D K:Int} {M0 M' T' M T:List (List Int)} (h8:n≤8) (hK:1≤K) (hKD:8*D≤K) (hL:LState n D K M0 M T) (h:Ends n M' T' k M T):
  ((∀i,i<n→OKr (rowF M) i)∧M=M'∧T=T')∨(∃k' i j,k=k'+1∧CurA n (rowF M) i j∧LState n D K M0 (cgM n M (zho n M i j)) (mulM n T (zho n M i j))∧Ends n M' T' k' (cgM n M (zho n M i j)) (mulM n T (zho n M i j)))∨
   ∃k' i,k=k'+1∧CurS n (rowF M) i∧LState n D K M0 (cgM n M (zkg n i)) (mulM n T (zkg n i))∧Ends n M' T' k' (cgM n M (zkg n i)) (mulM n T (zkg n i)):=by
 cases h with
 | done h=>exact .inl ⟨h,rfl,rfl⟩
 | add hc he=>
  rename_i k' i j
  exact .inr (.inl ⟨k',i,j,rfl,hc,(hL.add h8 hK hKD hc).1,he⟩)
 | sw hc he=>
  rename_i k' i
  obtain ⟨p,rfl⟩:∃p,i=p+1:=⟨i-1,by have:=hc.h0;omega⟩
  exact .inr (.inr ⟨k',p+1,rfl,hc,(hL.sw h8 hK hc).1,he⟩)
theorem qnd {n:Nat} {D K:Int} {M0 M' T':List (List Int)} (h8:n≤8) (hK:1≤K) (hKD:8*D≤K):∀{k:Nat} {M T:List (List Int)},Ends n M' T' k M T→LState n D K M0 M T→lead (rowF M') n=lead (rowF M) n:=by
 intro k M T h
 induction h with
 | done h=>intro _;rfl
 | add hc he ih=>
  rename_i k i j M T
  intro hL
  have hi:=hc.hi
  have hj:=hc.hj
  rw [ih (hL.add h8 hK hKD hc).1]
  have e:=qou (c:= -(zga (stg (rowF M) j i j) (lead (rowF M) (j+1)))) hL.shM (show i≠j by omega) hi (show j<n by omega)
  unfold zho
  rw [e]
  exact zjx hj hi (hL.pos.ne (qB _)) (qB _)
 | sw hc he ih=>
  rename_i k i M T
  intro hL
  obtain ⟨p,rfl⟩:∃p,i=p+1:=⟨i-1,by have:=hc.h0;omega⟩
  have hi:=hc.hi
  rw [ih (hL.sw h8 hK hc).1]
  have e:=qvx hL.shM hi
  obtain ⟨_,_,g,_⟩:=zvy hL.pos hK hc hL.good
  simp only [xO] at g
  show lead (rowF (cgM n M (zde (idM n) (p+1) p))) n=_
  rw [e]
  exact g n (qB _) (by omega)
theorem qne {n:Nat} {M0:List (List Int)} (h1:1≤n) (h8:n≤8) (h:SmallG n M0) (hg:zij n M0):∃k M' T',Ends n M' T' k M0 (idM n)∧LState n (16^n) (8*16^n) M0 M0 (idM n)∧LState n (16^n) (8*16^n) M0 M' T'∧Red n (rowF M'):=by
 have hp:=zyt h hg
 have h16:(1:Int)≤16^n:=by
  have:=Nat.one_le_pow n 16 (by decide)
  exact_mod_cast this
 have hst:LState n (16^n) (8*16^n) M0 M0 (idM n):=by
  refine LState.start h.shp hp (by omega) fun s _=>?_
  have:=(h.bnd s s).2
  rcases xP n with e | e
  ·omega
  ·have:(16:Int)^1≤16^n:=by
    have:=qI (n:=16) (by decide) e
    exact_mod_cast this
   have e1:(16:Int)^1=16:=by decide
   omega
 obtain ⟨k,M',T',he,hl⟩:=qhl h8 (by omega) (qT _) _ _ _ hst (zyr h8)
 have hdet:=qnd h8 (by omega) (qT _) he hst
 have hok:∀i,i<n→OKr (rowF M') i:=by
  clear hdet hl hst hp
  generalize idM n=T at he
  clear h hg
  induction he with
  | done h=>exact h
  | add _ _ ih=>exact ih
  | sw _ _ ih=>exact ih
 refine ⟨k,M',T',he,hst,hl,h1,h8,hl.pos.sym,fun k hk=>hl.pos.pos (k+1) (by omega),by rw [hdet];exact hg.2,fun i j hi hj=>(hok i hi).1 j hj,fun i h0 hi=>(hok i hi).2 h0⟩
section
variable {n N B A0:Nat} {M:List (List Int)} {ds:List Int}
theorem qhn (hF:FitN N B A0) (hb:Bnd A0 M) (hnN:n≤N) (h:zdk B M n=some ds) (hp:∀t,t≤n→0<lead (rowF M) t) {i j:Nat} (hj:j<n):zjn B M ds i j=some (decide (SZ (rowF M) i j)):=by
 obtain ⟨b,hbs⟩:=ztn (ds:=ds) hF hb (i:=i) (j:=j) (by omega)
 have hi:=ztm h hp hj hbs
 rw [hbs]
 congr 1
 by_cases hz:SZ (rowF M) i j
 ·rw [decide_eq_true hz];exact hi.2 hz
 ·rw [decide_eq_false hz]
  cases b with
  | false=>rfl
  | true=>exact absurd (hi.1 rfl) hz
theorem qth (hF:FitN N B A0) (hb:Bnd A0 M) (hnN:n≤N) (h:zdk B M n=some ds) (hf:∀z∈ds,z.natAbs≤bndS A0 N) (hp:∀t,t≤n→0<lead (rowF M) t) {i:Nat} (h0:0<i) (hi:i<n):lovO B M ds i=some (decide (LV (rowF M) i)):=by
 obtain ⟨b,hbs⟩:=qgc (ds:=ds) hF hb hf (i:=i) (by omega)
 have hv:=qga h hp h0 hi hbs
 rw [hbs]
 congr 1
 by_cases hz:LV (rowF M) i
 ·rw [decide_eq_true hz];exact hv.2 hz
 ·rw [decide_eq_false hz]
  cases b with
  | false=>rfl
  | true=>exact absurd (hv.1 rfl) hz
theorem qho (hF:FitN N B A0) (hb:Bnd A0 M) (hnN:n≤N) (hp:∀t,t≤n→0<lead (rowF M) t) {i j:Nat} (hj:j<n):lamO B M i j=some (stg (rowF M) j i j)∧(stg (rowF M) j i j).natAbs≤bndS A0 N:=by
 obtain ⟨l,h1,h2⟩:=zvw hF hb (i:=i) (j:=j) (by omega)
 have e:=zjt (i:=i) (j:=j) (fun t ht=>by have:=hp t (by omega);omega) (zfw h1).1
 rw [e] at h1 h2
 exact ⟨h1,h2⟩
end
theorem qhp {f:Nat→Int} {n c:Nat} (h:∀t,t<n→(f t).natAbs≤c):(sumR f n).natAbs≤n*c:=by
 have:=zye (f:=f) (n:=n) (c:=(c:Int)) fun t ht=>by have:=h t ht;omega
 have e:((n*c:Nat):Int)=(n:Int)*c:=by simp
 omega
theorem qti {l d:Int} (hd:0<d):(zga l d).natAbs≤l.natAbs+1:=by
 have h:=qhi (l:=l) (d:=d) hd
 rw [Int.neg_mul] at h
 have h1:2*(zga l d*d)≤2*l+d:=by omega
 have h2:2*l-d≤2*(zga l d*d):=by omega
 generalize zga l d=q at*
 rcases Int.le_total 0 q with hq | hq
 ·rcases (by omega:q≤l.natAbs+1∨(l.natAbs:Int)+2≤q) with e | e
  ·omega
  ·exfalso
   have m:=qH e (show (0:Int)≤d by omega)
   have m2:(l.natAbs:Int)*1≤l.natAbs*d:=qL (by omega) (by omega)
   rw [yQ] at m
   omega
 ·rcases (by omega: -q≤l.natAbs+1∨(l.natAbs:Int)+2≤ -q) with e | e
  ·omega
  ·exfalso
   have m:=qH e (show (0:Int)≤d by omega)
   have m2:(l.natAbs:Int)*1≤l.natAbs*d:=qL (by omega) (by omega)
   rw [yQ,Int.neg_mul] at m
   omega
open Go.Proofs Go.Limb
set_option maxRecDepth 100000
theorem qtj (r s:List Int):∀k,dotS r s k=sumR (fun t=>r.getD t 0*s.getD t 0) k:=by
 intro k
 induction k with
 | zero=>rfl
 | succ k ih=>show dotS r s k+_=sumR _ k+_;rw [ih]
structure MulB (n x y:Nat) (A B:List (List Int)):Prop where
 a:Bnd x A
 b:Bnd y B
 fit:8*(x*y)+x+y<BIG
theorem MulB.term {n x y:Nat} {A B:List (List Int)} (h:MulB n x y A B) (i j k:Nat):(ent A i k*ent B k j).natAbs≤x*y:=zdn (h.a i k) (h.b k j)
theorem MulB.bnd {n x y:Nat} {A B:List (List Int)} (h:MulB n x y A B) (hn:n≤8):Bnd (8*(x*y)) (mulM n A B):=by
 intro i j
 by_cases hij:i<n∧j<n
 ·unfold mulM
  rw [zcd hij.1 hij.2]
  have:=qhp (f:=fun k=>ent A i k*ent B k j) (n:=n) (c:=x*y) fun t _=>h.term i j t
  have:=xH (x*y) hn
  omega
 ·rw [(zrh n A B).out (by omega)];simp
theorem qtk {n x y:Nat} {A B:List (List Int)} {ar tr:List AV} {ac tc cap:Option Nat} (hn:1≤n∧n≤8) (hM:MulB n x y A B) (hsA:Shp n A) (hal:ar.length=n) (har:∀i,i<n→zfv (A.getD i []) (ar.getD i .junk)) (htl:tr.length=n) (htr:∀i,i<n→zfv ((trM n B).getD i []) (tr.getD i .junk))
  {i:Nat} (hi:i<n) {v43 v44:AV} {Q:Post} {ps:List (Nat×Option Nat)} {X0:List (List Int)} (hX0:X0.length=n)
  {E:Env} {H:Heap} (hH:MatH H 0 ps n X0) (e0:E 0= .vec ar n ac) (e9:E 9= .vec tr n tc) (e11:E 11= .sl 0 0 n 1 cap) (e12:E 12= .int .i64 (i:Nat)) (e43:E 43=v43) (e44:E 44=v44) (e48:E 48= .int .i64 (n:Nat)) (e49:E 49= .int .i64 0)
  (hQ:∀E' H' X,MatH H' 0 ps n X→X.length=n→(∀s t,ent X s t=if s=i∧t<n then ent (mulM n A B) s t else ent X0 s t)→E' 0= .vec ar n ac→E' 9= .vec tr n tc→E' 11= .sl 0 0 n 1 cap→E' 43=v43→E' 44=v44→Q (.exit 2) E' H'):
  W Tryz.prog G 0 70 (.loop l134_1) E H Q:=by
 refine zal (fun k E H=>∃j X,j+k=n∧MatH H 0 ps n X∧X.length=n∧(∀s t,ent X s t=if s=i∧t<j then ent (mulM n A B) s t else ent X0 s t)∧E 0= .vec ar n ac∧E 9= .vec tr n tc∧E 11= .sl 0 0 n 1 cap∧E 12= .int .i64 (i:Nat)∧E 43=v43∧E 44=v44∧
  E 48= .int .i64 (n:Nat)∧E 49= .int .i64 (j:Nat)) (n:=n) ⟨0,X0,by omega,hH,hX0,fun s t=>by rw [if_neg (by omega)],e0,e9,e11,e12,e43,e44,e48,e49⟩ ?_
 clear hH e0 e9 e11 e12 e43 e44 e48 e49 E H
 rintro k E H ⟨j,X,hjk,hH,hXl,hX,e0,e9,e11,e12,e43,e44,e48,e49⟩
 refine zaf zah ?_
 simp only [l134_1,r134_10,SS,reduceIte,e48,e49]
 refine ⟨fun hlt=>?_,fun hge=>?_⟩
 ·obtain ⟨k,rfl⟩:∃k',k=k'+1:=⟨k-1,by omega⟩
  have hj:j<n:=by omega
  obtain ⟨csk,gk,lk,rk,fk⟩:=zer hH (i:=i) (by omega)
  have ok:=zce (ps:=ps) (n:=n) (i:=i) (by rw [hH.len];omega)
  have hol:(ps.map (zcm n)).length=n:=by rw [qN,hH.len];exact hXl
  have hou:=hH.outer
  have rA:=har i hi
  have rT:=htr j hj
  have lA:=hsA.row i hi
  have lT:((trM n B).getD j []).length=n:=(zcj n _).row j hj
  have hfit:=hM.fit
  have e1:∀t,t<n→((trM n B).getD j []).getD t 0=ent B t j:=by
   intro t ht
   show ent (trM n B) j t=_
   unfold trM
   rw [zcd hj ht]
  have hdot:∀m,m≤n→dotS (A.getD i []) ((trM n B).getD j []) m=sumR (fun t=>ent A i t*ent B t j) m:=by
   intro m hm
   rw [qtj]
   refine zas fun t ht=>?_
   rw [e1 t (by omega)]
   rfl
  have hval:dotS (A.getD i []) ((trM n B).getD j []) (A.getD i []).length=ent (mulM n A B) i j:=by
   rw [lA,hdot n (qB _)]
   unfold mulM
   rw [zcd hi hj]
  have td:=mDot rA rT (by rw [lA,lT]) (by omega) (fun t ht=>by
    rw [e1 t (by omega)]
    have:=hM.term i j t
    have e:(A.getD i []).getD t 0=ent A i t:=rfl
    rw [e];omega) (fun m hm=>by
    rw [hdot m (by omega)]
    have h1:=qhp (f:=fun t=>ent A i t*ent B t j) (n:=m) (c:=x*y) fun t _=>hM.term i j t
    have h2:m*(x*y)≤8*(x*y):=xH _ (by omega)
    omega)
  rw [hval] at td
  have hbv:=hM.bnd hn.2 i j
  have hiv:zaw (ent (mulM n A B) i j) (intV (ent (mulM n A B) i j)):=zbr (by omega)
  have hv0:=hiv
  obtain ⟨lv,cv,hcv1,hcv2,hcv3,hev⟩:=hiv
  rw [hev] at td hv0
  have hset:=ziw hH (i:=i) (j:=j) (by omega) hj hv0 gk
  have w5:IntKind.i64.wrap ((j:Int)+1)=((j+1:Nat):Int):=by rw [show (j:Int)+1=((j+1:Nat):Int) by omega];exact w64 (by omega) (by omega)
  obtain ⟨acs,aci,hae,hac⟩:=rA
  obtain ⟨tcs,tci,hte,htc⟩:=rT
  rw [hae,hte] at td
  simp only [r134_11,r134_12,SS,forall_const,reduceCtorEq,reduceIte,qQ,e0,e9,e11,e12,e49,qW,hou,hol,ok,hal,htl,hae,hte]
  refine ⟨⟨by omega,by omega⟩,by omega,⟨by omega,by omega⟩,by omega,⟨by omega,by omega⟩,by omega,?_⟩
  refine zab td ?_
  simp only [SS,reduceIte,qJ,qQ,gk,lk,qW]
  refine ⟨⟨by omega,by omega⟩,by omega,rfl,?_⟩
  simp only [r134_13,SS,reduceIte,qQ,e49,w5]
  refine ⟨k,_,_,by omega,⟨j+1,setM X i j (ent (mulM n A B) i j),by omega,hset,by rw [zcn];exact hXl,?_,?_,?_,?_,?_,?_,?_,?_,?_⟩,.refl⟩
  ·intro s t
   rw [zgk (by omega) (by rw [hH.cols i (by omega)];exact hj),hX]
   by_cases h1:s=i∧t=j
   ·rw [if_pos h1,if_pos ⟨h1.1,by omega⟩,h1.1,h1.2]
   ·rw [if_neg h1]
    by_cases h2:s=i∧t<j
    ·rw [if_pos h2,if_pos ⟨h2.1,by omega⟩]
    ·rw [if_neg h2,if_neg (by omega)]
  all_goals simp only [zaa,qQ,reduceIte,if_false, *]
 ·have hjn:j=n:=by omega
  subst hjn
  exact hQ _ _ X hH hXl hX (by simp only [zaa,qQ,if_false,e0]) (by simp only [zaa,qQ,if_false,e9]) (by simp only [zaa,qQ,if_false,e11]) (by simp only [zaa,qQ,if_false,e43]) (by simp only [zaa,qQ,if_false,e44])
theorem mMul {n x y:Nat} {A B:List (List Int)} {a b:AV} (ha:Sq n A a) (hb:Sq n B b) (hM:MulB n x y A B):Ret Tryz.prog G 134 [a,b] [] (.tup [matC (mulM n A B),.bool true]) []:=by
 have hn:1≤n∧n≤8:=⟨ha.lo,ha.hi⟩
 have hfit:=hM.fit
 have hsA:Shp n A:=⟨ha.len,ha.cols⟩
 have hsB:Shp n B:=⟨hb.len,hb.cols⟩
 have t1:=zsx ha.mat ha.shape
 rw [ha.cols 0 (by omega),ha.len] at t1
 have hTs:Shp n (trM n B):=zcj n _
 have t2:=zph (n:=n) hb.mat (by omega) (by rw [hb.len];omega) (fun i hi=>hb.cols i (by rw [hb.len] at hi;exact hi)) (T:=trM n B) hTs.len (fun i hi=>by rw [hb.len];exact hTs.row i hi) (fun i j hi hj=>by unfold trM;rw [zcd hi (by rw [hb.len] at hj;exact hj)])
 have hTb:Bnd y (trM n B):=by
  intro i j
  by_cases hij:i<n∧j<n
  ·unfold trM
   rw [zcd hij.1 hij.2];exact hM.b j i
  ·rw [hTs.out (by omega)];simp
 have hT:MatV (trM n B) (matC (trM n B)):=zne (zrl hTb (by omega))
 have c1:qK [a]=true:=by simp only [qK,ha.closed,qD]
 have c2:qK [b]=true:=by simp only [qK,hb.closed,qD]
 obtain ⟨tr,tc,hte,htl,htr⟩:=hT
 rw [hte] at t2
 have hbl:=hb.len
 obtain ⟨ar,ac,hae,hal,har⟩:=ha.mat
 obtain ⟨br,bc,hbe,hbl2,hbr⟩:=hb.mat
 subst hae hbe
 rw [ha.len] at hal har t1 c1 ⊢
 rw [hb.len] at t2 c2 ⊢
 rw [hTs.len] at htl htr t2
 refine zes zah Tryz.func134 comp134 _ 70 res134 nt134 (by simp) (by simp) ?_
 simp only [c134,r134_0,r134_1,SS,reduceCtorEq,reduceIte]
 refine zab t1 ?_ c1
 simp only [SS,reduceIte,qQ,qA,qU]
 simp only [r134_2,SS,reduceIte,qQ]
 refine zab t2 ?_ c2
 simp only [SS,reduceIte,qQ,qA,qU]
 simp only [r134_3,SS,forall_const,reduceIte,qQ]
 refine ⟨fun hne=>absurd rfl hne,fun _=>?_⟩
 simp only [r134_5,SS,reduceCtorEq,reduceIte,qQ]
 refine zdt (qfp (by omega) (by omega)) rfl ?_
 obtain ⟨H1,ps,hH1,hz⟩:=zig n n
 simp only [zba,SS,reduceIte,qQ,AV.ren,zbp,qS,hH1]
 simp only [r134_6,SS,reduceCtorEq,reduceIte,qQ]
 refine zal (fun k E H=>∃i X,i+k=n∧MatH H 0 ps n X∧X.length=n∧(∀s t,ent X s t=if s<i∧t<n then ent (mulM n A B) s t else 0)∧E 0= .vec ar n ac∧E 9= .vec tr n tc∧E 11= .sl 0 0 n 1 (some n)∧E 43= .int .i64 (n:Nat)∧E 44= .int .i64 (i:Nat)) (n:=n)
  ⟨0,zmat n n,by omega,hz,(zib _ _).1,fun s t=>by rw [if_neg (by omega),zjr],by simp only [zaa,zac,qY,qQ,if_false],by simp only [zaa,zac,qX,qQ,reduceIte,if_false],by simp only [zaa,zac,qX,qQ,reduceIte,if_false],by simp only [zaa,zac,qX,qQ,reduceIte,if_false],by simp only [zaa,zac,qX,qQ,reduceIte,if_false];rfl⟩ ?_
 rintro k E H ⟨i,X,hik,hH,hXl,hX,e0,e9,e11,e43,e44⟩
 refine zaf zah ?_
 simp only [l134_0,r134_7,SS,reduceCtorEq,reduceIte,e43,e44]
 refine ⟨fun hlt=>?_,fun hge=>?_⟩
 ·obtain ⟨k,rfl⟩:∃k',k=k'+1:=⟨k-1,by omega⟩
  have hi:i<n:=by omega
  have w5:IntKind.i64.wrap ((i:Int)+1)=((i+1:Nat):Int):=by rw [show (i:Int)+1=((i+1:Nat):Int) by omega];exact w64 (by omega) (by omega)
  simp only [r134_8,r134_9,SS,reduceIte,qQ,e9,e44]
  refine qtk (ar:=ar) (tr:=tr) (ac:=ac) (tc:=tc) (cap:=some n) hn hM hsA hal har htl htr hi hXl hH (by simp only [zaa,qQ,if_false,e0]) (by simp only [zaa,qQ,if_false,e9]) (by simp only [zaa,qQ,if_false,e11]) (by simp only [zaa,qQ,reduceIte,if_false]) (by simp only [zaa,qQ,if_false];exact e43) (by simp only [zaa,qQ,if_false];exact e44) (by simp only [zaa,qQ,reduceIte,if_false]) (by simp only [zaa,qQ,reduceIte,if_false]) ?_
  intro E' H' X' hH' hXl' hX' f0 f9 f11 f43 f44
  simp only [SS,reduceCtorEq,reduceIte,qQ,r134_14,f44,w5]
  refine ⟨k,_,_,by omega,⟨i+1,X',by omega,hH',hXl',?_,?_,?_,?_,?_,?_⟩,.refl⟩
  ·intro s t
   rw [hX',hX]
   by_cases h1:s=i∧t<n
   ·rw [if_pos h1,if_pos ⟨by omega,h1.2⟩]
   ·rw [if_neg h1]
    by_cases h2:s<i∧t<n
    ·rw [if_pos h2,if_pos ⟨by omega,h2.2⟩]
    ·rw [if_neg h2,if_neg (by omega)]
  all_goals simp only [zaa,qQ,reduceIte,if_false, *]
 ·have hin:i=n:=by omega
  subst hin
  have e:X=mulM i A B:=by
   refine zqy hXl (zrh i A B).len (fun s hs=>hH.cols s (by omega)) (zrh i A B).row fun s t hs ht=>?_
   rw [hX,if_pos ⟨hs,ht⟩]
  subst e
  simp only [r134_15,SS,reduceIte,qQ,e11]
  obtain ⟨v,g1,g2⟩:=zia (cap:=some i) (b:=true) hH
  rw [hXl] at g1
  exact ⟨.inl trivial,_,v,rfl,g1,g2⟩
theorem zrr {n x y:Nat} {A B:List (List Int)} {a b:AV} (ha:Sq n A a) (hb:Sq n B b) (hM:MulB n x y A B):Ret Tryz.prog G 63 [a,b] [] (matC (mulM n A B)) []:=by
 have t1:=mMul ha hb hM
 have c1:qK [a,b]=true:=by simp only [qK,ha.closed,hb.closed,qD]
 refine zai zah Tryz.func63 comp63 _ 14 res63 nt63 (by simp) (by simp) ?_
 simp only [c63,r63_0,r63_1,SS,reduceCtorEq,reduceIte,qQ]
 refine zab t1 ?_ c1
 simp only [SS,reduceIte,qQ,r63_2,qA,qU]
 exact ⟨.inl trivial,_,rfl,.drop _ _ rfl (by intro i cs h;omega)⟩
theorem qbn {n x y:Nat} {A U:List (List Int)} {a u:AV} (ha:Sq n A a) (hu:Sq n U u) (hbA:Bnd x A) (hbU:Bnd y U) (hf:64*(y*x*y)+8*(y*x)+x+y<BIG):Ret Tryz.prog G 62 [a,u] [] (matC (cgM n A U)) []:=by
 have hn:1≤n∧n≤8:=⟨ha.lo,ha.hi⟩
 have hTs:Shp n (trM n U):=zcj n _
 have hTb:Bnd y (trM n U):=by
  intro i j
  by_cases hij:i<n∧j<n
  ·unfold trM
   rw [zcd hij.1 hij.2];exact hbU j i
  ·rw [hTs.out (by omega)];simp
 have t1:=zph (n:=n) hu.mat (by omega) (by rw [hu.len];omega) (fun i hi=>hu.cols i (by rw [hu.len] at hi;exact hi)) (T:=trM n U) hTs.len (fun i hi=>by rw [hu.len];exact hTs.row i hi) (fun i j hi hj=>by unfold trM;rw [zcd hi (by rw [hu.len] at hj;exact hj)])
 have hsT:=zrm hTs hn hTb (by omega)
 have hM1:MulB n y x (trM n U) A:=⟨hTb,hbA,by omega⟩
 have t2:=zrr hsT ha hM1
 have hb1:=hM1.bnd hn.2
 have hs1:=zrm (zrh n (trM n U) A) hn hb1 (by omega)
 have e1:8*(8*(y*x)*y)=64*(y*x*y):=by rw [Nat.mul_assoc 8,←Nat.mul_assoc]
 have hM2:MulB n (8*(y*x)) y (mulM n (trM n U) A) U:=⟨hb1,hbU,by omega⟩
 have t3:=zrr hs1 hu hM2
 have c1:qK [u]=true:=by simp only [qK,hu.closed,qD]
 have c2:qK [matC (trM n U),a]=true:=by simp only [qK,ha.closed,hsT.closed,qD]
 have c3:qK [matC (mulM n (trM n U) A),u]=true:=by simp only [qK,hu.closed,hs1.closed,qD]
 refine zai zah Tryz.func62 comp62 _ 17 res62 nt62 (by simp) (by simp) ?_
 simp only [c62,r62_0,r62_1,SS,reduceCtorEq,reduceIte,qQ]
 refine zab t1 ?_ c1
 simp only [SS,reduceCtorEq,reduceIte,qQ,r62_2,qA,qU]
 refine zab t2 ?_ c2
 simp only [SS,reduceIte,qQ]
 refine zab t3 ?_ c3
 simp only [SS,reduceIte,qQ]
 exact ⟨.inl trivial,_,rfl,.drop _ _ rfl (by intro i cs h;omega)⟩
end Go.Proofs.YtpflahgcdgdkjaaGreatDoor
namespace Go.Proofs.YtpflahgcdgdkjaaGreatDoor
open Nat renaming reduceEqDiff → qQ, reduceLeDiff → qZ, reduceAdd → qJ, lt_of_le_of_lt → xW
open List renaming getD_cons_succ → qX, getElem?_cons_succ → qU, getElem?_cons_zero → qA
open Int renaming natAbs_ediv_le_natAbs → qM
set_option linter.unusedSimpArgs false
set_option linter.unusedVariables false
open Go Go.AL Go.Proofs Go.Limb
set_option maxRecDepth 100000
theorem qtl {x y:Int} {a b:AV} (ha:zaw x a) (hb:zaw y b) (hy:y≠0):∃v,zaw (x/y) v∧Ret Tryz.prog G 151 [a,b] [] v []:=
 zQuo ha hb hy (zdq.2 x y ha.fits hb.fits hy) (xW (qM x y) ha.fits)
theorem zRem {x y:Int} {a b:AV} (ha:zaw x a) (hb:zaw y b) (hy:y≠0):∃v,zaw (x%y) v∧Ret Tryz.prog G 197 [a,b] [] v []:=by
 obtain ⟨v,w,hv,hw,t⟩:=qfb ha hb hy (zdq.2 x y ha.fits hb.fits hy) (xW (qM x y) ha.fits)
 obtain ⟨l,ca,_,_,_,rfl⟩:=ha
 obtain ⟨n,cb,_,_,_,rfl⟩:=hb
 have hw0:=hw
 obtain ⟨lv,cv,_,_,_,rfl⟩:=hv
 obtain ⟨lw,cw,_,_,_,rfl⟩:=hw
 refine ⟨_,hw0,?_⟩
 refine zai zah Tryz.func197 comp197 _ 16 res197 nt197 (by simp) (by simp) ?_
 simp only [c197,r197_0,r197_1,SS,reduceCtorEq,reduceIte,qJ,qQ,qZ]
 refine zab t ?_
 simp only [SS,reduceIte,qJ,qQ,qZ,qA,qU]
 simp only [r197_2,SS,reduceIte,qJ,qQ,qZ]
 exact ⟨.inl trivial,_,rfl,.drop _ _ rfl (by intro i cs h;omega)⟩
theorem zGcd {x y:Int} {a b:AV} (ha:zaw x a) (hb:zaw y b):Ret Tryz.prog G 150 [a,b] [] (intV (Int.gcd x y:Int)) []:=by
 obtain ⟨va,hva,t1⟩:=zAbs ha
 obtain ⟨vb,hvb,t2⟩:=zAbs hb
 obtain ⟨l,ca,_,_,_,rfl⟩:=ha
 obtain ⟨n,cb,_,_,_,rfl⟩:=hb
 obtain ⟨la,da,_,_,_,hea⟩:=id hva
 obtain ⟨lb,db,_,_,_,heb⟩:=id hvb
 subst hea heb
 refine zes zah Tryz.func150 comp150 _ 19 res150 nt150 (by simp) (by simp) ?_
 simp only [c150,r150_0,r150_1,SS,reduceCtorEq,reduceIte,qJ,qQ,qZ]
 refine zab t1 ?_
 simp only [SS,reduceIte,qJ,qQ,qZ]
 refine zab t2 ?_
 simp only [SS,reduceIte,qJ,qQ,qZ]
 refine ⟨rfl,?_⟩
 refine zal (fun k E H=>∃(p q:Nat) (u1 v1 u2 v2:AV),q=k∧Nat.gcd p q=Int.gcd x y∧zaw (p:Int) (.agg [u1,v1])∧zaw (q:Int) (.agg [u2,v2])∧E 4= .ptr 2 0∧E 5= .ptr 3 0∧E 6= .ptr 4 0∧
  H=[some [.bool (decide (x<0)),.vec (u32s l) l.length ca],some [.bool (decide (y<0)),.vec (u32s n) n.length cb],some [.bool false,.vec [] 0 (some 0)],some [u1,v1],some [u2,v2]]) (n:=y.natAbs)
  ⟨x.natAbs,y.natAbs,_,_,_,_,rfl,rfl,hva,hvb,by simp only [zaa,zac,qX,qQ,reduceIte,if_false],by simp only [zaa,zac,qX,qQ,reduceIte,if_false],by simp only [zaa,zac,qX,qQ,reduceIte,if_false],rfl⟩ ?_
 rintro k E H ⟨p,q,u1,v1,u2,v2,rfl,hg,h1,h2,e4,e5,e6,rfl⟩
 refine zaf zah ?_
 have t3:=zsw h2
 obtain ⟨l1,c1,x1,y1⟩:=zao h1
 obtain ⟨l2,c2,x2,y2⟩:=zao h2
 subst x1 y1 x2 y2
 simp only [l150_0,r150_2,SS,reduceCtorEq,reduceIte,qJ,qQ,qZ,e6]
 refine zab t3 ?_
 simp only [SS,reduceIte,qQ]
 refine ⟨fun hne=>?_,fun heq=>?_⟩
 ·have hq:(q:Int)≠0:=by
   intro e
   rw [e] at hne
   exact hne rfl
  obtain ⟨w,hw,t4⟩:=zRem h1 h2 hq
  obtain ⟨lw,cw,_,_,_,rfl⟩:=id hw
  have em:((p:Int)%(q:Int))=((p%q:Nat):Int):=by omega
  rw [em] at hw
  have hlt:p%q<q:=Nat.mod_lt _ (by omega)
  simp only [r150_3,SS,reduceIte,qJ,qQ,qZ,e5,e6]
  refine zab t4 ?_
  simp only [SS,reduceIte,qJ,qQ,qZ,e5,e6]
  refine ⟨rfl,?_⟩
  refine ⟨p%q,_,_,hlt,⟨q,p%q,_,_,_,_,rfl,?_,h2,hw,?_,?_,?_,?_⟩,.refl⟩
  ·rw [←hg,Nat.gcd_comm p q,Nat.gcd_rec q p,Nat.gcd_comm]
  ·simp only [zaa,qQ,if_false,e4]
  ·simp only [zaa,qQ,if_false,e5]
  ·simp only [zaa,qQ,if_false,e6]
  ·rw [em]
 ·have hq:q=0:=by
   have h0:((q:Nat):Int).sign=0:=Decidable.not_not.1 heq
   have:=Int.sign_eq_zero_iff_zero.1 h0
   omega
  subst hq
  rw [Nat.gcd_zero_right] at hg
  rw [hg] at h1
  simp only [r150_4,SS,reduceIte,qJ,qQ,qZ,e4,e5]
  exact ⟨.inl trivial,_,_,zev (id:=2) (by simp only [zaa,qQ,if_false,e4]) rfl,.drop _ _ rfl (by intro i cs h;omega),h1.wk⟩
end Go.Proofs.YtpflahgcdgdkjaaGreatDoor
namespace Go.Proofs.YtpflahgcdgdkjaaGreatDoor
open Int renaming mul_le_mul_of_nonneg_right → qH, natAbs_ediv_le_natAbs → qM, mul_ediv_mul_of_pos_left → xZ, mul_assoc → xC, ediv_mul_cancel → xL, add_mul → yQ
set_option linter.unusedSimpArgs false
set_option linter.unusedVariables false
open Go Go.AL Go.Det
def numR (n d:Int):Int:=n/(Int.gcd n d:Int)
def denR (n d:Int):Int:=d/(Int.gcd n d:Int)
theorem znw {n d:Int} (hd:0<d):0<(Int.gcd n d:Int):=by
 have:=Int.gcd_pos_of_ne_zero_right n (show d≠0 by omega)
 omega
theorem qhq (n d:Int):numR n d*(Int.gcd n d:Int)=n:=xL (Int.gcd_dvd_left ..)
theorem zwl (n d:Int):denR n d*(Int.gcd n d:Int)=d:=xL (Int.gcd_dvd_right ..)
theorem zrs {n d:Int} (hd:0<d):0<denR n d:=by
 have h1:=znw (n:=n) hd
 have h2:=zwl n d
 rcases Int.lt_or_le 0 (denR n d) with h | h
 ·exact h
 ·have:=qH h (show (0:Int)≤(Int.gcd n d:Int) by omega)
  omega
theorem qwk (n d:Int):(numR n d).natAbs≤n.natAbs:=qM _ _
theorem qwl (n d:Int):(denR n d).natAbs≤d.natAbs:=qM _ _
theorem qhr {n d:Int} (hd:0<d):Int.gcd (numR n d) (denR n d)=1:=by
 have h1:=znw (n:=n) hd
 exact Int.gcd_ediv_gcd_ediv_gcd (by omega)
theorem qtm {n d:Int} (hd:0<d):numR (numR n d) (denR n d)=numR n d:=by
 show numR n d/(Int.gcd (numR n d) (denR n d):Int)=_
 rw [qhr hd];exact Int.ediv_one _
theorem qtn {n d:Int} (hd:0<d):denR (numR n d) (denR n d)=denR n d:=by
 show denR n d/(Int.gcd (numR n d) (denR n d):Int)=_
 rw [qhr hd];exact Int.ediv_one _
theorem qhs {n d:Int} (hd:0<d):numR n d/denR n d=n/d:=by
 have h1:=znw (n:=n) hd
 have e1:=qhq n d
 have e2:=zwl n d
 have e3:(numR n d*(Int.gcd n d:Int))/(denR n d*(Int.gcd n d:Int))=numR n d/denR n d:=xZ _ _ h1
 rw [e1,e2] at e3
 exact e3.symm
theorem qnf {l d:Int} (hd:0<d):(numR l d*2+1*denR l d)/(denR l d*2)=zga l d:=by
 unfold zga
 have h1:=znw (n:=l) hd
 have e1:=qhq l d
 have e2:=zwl l d
 have e3:((numR l d*2+1*denR l d)*(Int.gcd l d:Int))/((denR l d*2)*(Int.gcd l d:Int))=(numR l d*2+1*denR l d)/(denR l d*2):=xZ _ _ h1
 rw [←e3]
 congr 1
 ·rw [yQ,Int.one_mul,e2,xC,Int.mul_comm 2,←xC,e1];omega
 ·rw [xC,Int.mul_comm 2,←xC,e2];omega
theorem qng:numR 1 2=1:=by decide
theorem qnh:denR 1 2=2:=by decide
end Go.Proofs.YtpflahgcdgdkjaaGreatDoor
namespace Go.Proofs.YtpflahgcdgdkjaaGreatDoor
open Nat renaming reduceEqDiff → qQ, reduceLeDiff → qZ, reduceAdd → qJ, le_refl → qB, add_zero → qS, zero_le → xB, eq_zero_or_pos → xP
open List renaming getD_cons_succ → qX, getD_eq_getElem?_getD → qV, getD_cons_zero → qY, getElem?_cons_succ → qU, getElem?_cons_zero → qA, length_map → qN, length_set → xQ, length_nil → xX, nil_append → yK
open Go.AL.AV.closed renaming closedL → qK
open Int renaming toNat_natCast → qW
open Bool renaming and_self → qD
open Option renaming getD_some → xS
set_option linter.unusedSimpArgs false
set_option linter.unusedVariables false
open Go Go.AL Go.Proofs Go.Limb
set_option maxRecDepth 100000
def zod (n d:Int) (v:AV):Prop:= ∃a1 a2 b1 b2,v= .agg [a1,a2,b1,b2]∧zaw n (.agg [a1,a2])∧zaw d (.agg [b1,b2])
theorem qNew {n d:Int} {a b:AV} (ha:zaw n a) (hb:zaw d b) (hd:0<d):∃v,zod (numR n d) (denR n d) v∧Ret Tryz.prog G 86 [a,b] [] (.tup [v,.bool true]) []:=by
 have t1:=zsw hb
 have s1:d.sign=1:=Int.sign_eq_one_of_pos hd
 rw [s1] at t1
 have t2:=zGcd ha hb
 have hg:=znw (n:=n) hd
 have hgf:((Int.gcd n d:Nat):Int).natAbs<BIG:=by
  have h1:Int.gcd n d≤d.natAbs:=Nat.le_of_dvd (by omega) (Int.gcd_dvd_natAbs_right n d)
  have:=hb.fits
  omega
 have hgi:=zbr hgf
 obtain ⟨v1,hv1,t3⟩:=qtl ha hgi (by omega)
 obtain ⟨v2,hv2,t4⟩:=qtl hb hgi (by omega)
 obtain ⟨lg,cg,_,_,_,heg⟩:=hgi
 rw [heg] at t2 t3 t4
 obtain ⟨l,ca,_,_,_,rfl⟩:=ha
 obtain ⟨m,cb,_,_,_,rfl⟩:=hb
 obtain ⟨l1,c1,_,_,_,he1⟩:=id hv1
 obtain ⟨l2,c2,_,_,_,he2⟩:=id hv2
 subst he1 he2
 refine ⟨_,⟨_,_,_,_,rfl,hv1,hv2⟩,?_⟩
 refine zai zah Tryz.func86 comp86 _ 28 res86 nt86 (by simp) (by simp) ?_
 simp only [c86,r86_0,r86_1,SS,reduceCtorEq,reduceIte,qJ,qQ,qZ]
 refine zab t1 ?_
 simp only [SS,reduceIte,qQ]
 refine ⟨fun h=>absurd h (by decide),fun _=>?_⟩
 simp only [r86_3,SS,reduceIte,qJ,qQ,qZ]
 refine zab t1 ?_
 simp only [SS,reduceIte,qQ]
 refine ⟨fun h=>absurd h (by decide),fun _=>?_⟩
 simp only [r86_5,SS,reduceIte,qJ,qQ,qZ]
 refine zab t2 ?_
 simp only [SS,reduceIte,qJ,qQ,qZ]
 simp only [r86_6,SS,reduceIte,qJ,qQ,qZ]
 refine zab t3 ?_
 simp only [SS,reduceIte,qJ,qQ,qZ]
 refine zab t4 ?_
 simp only [SS,reduceIte,qJ,qQ,qZ]
 refine ⟨rfl,?_⟩
 exact ⟨.inl trivial,_,rfl,.drop _ _ rfl (by intro i cs h;omega)⟩
theorem zih {n d:Int} {v:AV} (h:zod n d v) (hd:0<d):∃w,zod (numR n d) (denR n d) w∧Ret Tryz.prog G 168 [v] [] w []:=by
 obtain ⟨a1,a2,b1,b2,rfl,h1,h2⟩:=h
 obtain ⟨w,hw,t1⟩:=qNew h1 h2 hd
 obtain ⟨l1,c1,e1,e2⟩:=zao h1
 obtain ⟨l2,c2,e3,e4⟩:=zao h2
 subst e1 e2 e3 e4
 obtain ⟨w1,w2,w3,w4,rfl,k1,k2⟩:=id hw
 obtain ⟨m1,d1,f1,f2⟩:=zao k1
 obtain ⟨m2,d2,f3,f4⟩:=zao k2
 subst f1 f2 f3 f4
 refine ⟨_,hw,?_⟩
 refine zai zah Tryz.func168 comp168 _ 17 res168 nt168 (by simp) (by simp) ?_
 simp only [c168,r168_0,r168_1,SS,reduceCtorEq,reduceIte,qJ,qQ,qZ]
 refine zab t1 ?_
 simp only [SS,reduceIte,qJ,qQ,qZ,qA,qU]
 simp only [r168_2,SS,forall_const,reduceIte,qQ]
 simp only [r168_4,SS,reduceIte,qJ,qQ,qZ]
 exact ⟨.inl trivial,_,rfl,.drop _ _ rfl (by intro i cs h;omega)⟩
theorem qht {n d:Int} {a b:AV} (ha:zaw n a) (hb:zaw d b) (hd:0<d):∃v,zod (numR n d) (denR n d) v∧Ret Tryz.prog G 128 [a,b] [] v []:=by
 obtain ⟨l,ca,q1,q2,q3,rfl⟩:=ha
 obtain ⟨m,cb,q4,q5,q6,rfl⟩:=hb
 obtain ⟨w,hw,t1⟩:=zih (v:= .agg [.bool (decide (n<0)),.vec (u32s l) l.length ca,.bool (decide (d<0)),.vec (u32s m) m.length cb]) ⟨_,_,_,_,rfl,⟨l,ca,q1,q2,q3,rfl⟩,⟨m,cb,q4,q5,q6,rfl⟩⟩ hd
 obtain ⟨w1,w2,w3,w4,rfl,k1,k2⟩:=id hw
 obtain ⟨m1,d1,f1,f2⟩:=zao k1
 obtain ⟨m2,d2,f3,f4⟩:=zao k2
 subst f1 f2 f3 f4
 refine ⟨_,hw,?_⟩
 refine zai zah Tryz.func128 comp128 _ 9 res128 nt128 (by simp) (by simp) ?_
 simp only [c128,r128_0,r128_1,SS,reduceCtorEq,reduceIte,qJ,qQ,qZ]
 refine zab t1 ?_
 simp only [SS,reduceIte,qJ,qQ,qZ]
 exact ⟨.inl trivial,_,rfl,.drop _ _ rfl (by intro i cs h;omega)⟩
theorem qxv:∃v,zod 1 2 v∧Ret Tryz.prog G 189 [] [] v []:=by
 obtain ⟨v1,hv1,t1⟩:=zfu 1 (by omega) (by omega)
 obtain ⟨v2,hv2,t2⟩:=zfu 2 (by omega) (by omega)
 obtain ⟨l1,c1,_,_,_,he1⟩:=id hv1
 obtain ⟨l2,c2,_,_,_,he2⟩:=id hv2
 subst he1 he2
 refine ⟨_,⟨_,_,_,_,rfl,hv1,hv2⟩,?_⟩
 refine zai zah Tryz.func189 comp189 _ 4 res189 nt189 (by simp) (by simp) ?_
 simp only [c189,r189_0,r189_1,SS,reduceCtorEq]
 refine zab t1 ?_
 simp only [SS]
 refine zab t2 ?_
 simp only [SS,reduceCtorEq,reduceIte,qJ,qQ,qZ]
 exact ⟨.inl trivial,_,rfl,.drop _ _ rfl (by intro i cs h;omega)⟩
theorem qni {l d:Int} {v h:AV} (hv:zod (numR l d) (denR l d) v) (hh:zod 1 2 h) (hd:0<d) (hf:2*(l.natAbs+d.natAbs)<BIG):
  ∃w,zod (numR (numR l d*2+1*denR l d) (denR l d*2)) (denR (numR l d*2+1*denR l d) (denR l d*2)) w∧Ret Tryz.prog G 165 [v,h] [] w []:=by
 have hdp:=zrs (n:=l) hd
 have hnl:=qwk l d
 have hdl:=qwl l d
 obtain ⟨x,hx,t1⟩:=zih hv hdp
 rw [qtm hd,qtn hd] at hx
 obtain ⟨y,hy,t2⟩:=zih hh (by decide)
 rw [qng,qnh] at hy
 obtain ⟨a1,a2,a3,a4,rfl,p1,p2⟩:=hv
 obtain ⟨b1,b2,b3,b4,rfl,p3,p4⟩:=hh
 obtain ⟨x1,x2,x3,x4,rfl,k1,k2⟩:=hx
 obtain ⟨y1,y2,y3,y4,rfl,k3,k4⟩:=hy
 obtain ⟨m1,hm1,t3⟩:=zMul k1 k4 (by omega)
 obtain ⟨m2,hm2,t4⟩:=zMul k3 k2 (by omega)
 obtain ⟨s,hs,t5⟩:=zAdd hm1 hm2 (by omega)
 obtain ⟨m3,hm3,t6⟩:=zMul k2 k4 (by omega)
 obtain ⟨w,hw,t7⟩:=qNew hs hm3 (by omega)
 obtain ⟨_,_,e1,e2⟩:=zao p1
 obtain ⟨_,_,e3,e4⟩:=zao p2
 obtain ⟨_,_,e5,e6⟩:=zao p3
 obtain ⟨_,_,e7,e8⟩:=zao p4
 subst e1 e2 e3 e4 e5 e6 e7 e8
 obtain ⟨_,_,e1,e2⟩:=zao k1
 obtain ⟨_,_,e3,e4⟩:=zao k2
 obtain ⟨_,_,e5,e6⟩:=zao k3
 obtain ⟨_,_,e7,e8⟩:=zao k4
 subst e1 e2 e3 e4 e5 e6 e7 e8
 obtain ⟨_,_,_,_,_,rfl⟩:=id hm1
 obtain ⟨_,_,_,_,_,rfl⟩:=id hm2
 obtain ⟨_,_,_,_,_,rfl⟩:=id hm3
 obtain ⟨_,_,_,_,_,rfl⟩:=id hs
 obtain ⟨w1,w2,w3,w4,rfl,j1,j2⟩:=id hw
 obtain ⟨_,_,e1,e2⟩:=zao j1
 obtain ⟨_,_,e3,e4⟩:=zao j2
 subst e1 e2 e3 e4
 refine ⟨_,hw,?_⟩
 refine zai zah Tryz.func165 comp165 _ 34 res165 nt165 (by simp) (by simp) ?_
 simp only [c165,r165_0,r165_1,SS,reduceCtorEq,reduceIte,qJ,qQ,qZ]
 refine zab t1 ?_
 simp only [SS,reduceIte,qJ,qQ,qZ]
 refine zab t2 ?_
 simp only [SS,reduceIte,qJ,qQ,qZ]
 refine ⟨rfl,?_⟩
 simp only [r165_2,SS,reduceIte,qJ,qQ,qZ]
 refine zab t3 ?_
 simp only [SS,reduceIte,qJ,qQ,qZ]
 refine zab t4 ?_
 simp only [SS,reduceIte,qQ]
 refine zab t5 ?_
 simp only [SS,reduceIte,qJ,qQ,qZ]
 refine zab t6 ?_
 simp only [SS,reduceIte,qQ]
 refine zab t7 ?_
 simp only [SS,reduceIte,qJ,qQ,qZ,qA,qU]
 refine ⟨rfl,?_⟩
 simp only [r165_3,SS,reduceIte,qJ,qQ,qZ]
 exact ⟨.inl trivial,_,rfl,.drop _ _ rfl (by intro i cs h;omega)⟩
theorem qwm {n d:Int} {v:AV} (h:zod n d v) (hd:0<d):∃w,zaw (n/d) w∧Ret Tryz.prog G 188 [v] [] w []:=by
 obtain ⟨x,hx,t1⟩:=zih h hd
 have hdp:=zrs (n:=n) hd
 obtain ⟨a1,a2,a3,a4,rfl,p1,p2⟩:=h
 obtain ⟨x1,x2,x3,x4,rfl,k1,k2⟩:=hx
 obtain ⟨w,hw,t2⟩:=qtl k1 k2 (by omega)
 rw [qhs hd] at hw
 obtain ⟨_,_,e1,e2⟩:=zao p1
 obtain ⟨_,_,e3,e4⟩:=zao p2
 subst e1 e2 e3 e4
 obtain ⟨_,_,e1,e2⟩:=zao k1
 obtain ⟨_,_,e3,e4⟩:=zao k2
 subst e1 e2 e3 e4
 obtain ⟨_,_,_,_,_,rfl⟩:=id hw
 refine ⟨_,hw,?_⟩
 refine zai zah Tryz.func188 comp188 _ 11 res188 nt188 (by simp) (by simp) ?_
 simp only [c188,r188_0,r188_1,SS,reduceCtorEq,reduceIte,qJ,qQ,qZ]
 refine zab t1 ?_
 simp only [SS,reduceIte,qJ,qQ,qZ]
 simp only [r188_2,SS,reduceIte,qJ,qQ,qZ]
 refine zab t2 ?_
 simp only [SS,reduceIte,qJ,qQ,qZ]
 exact ⟨.inl trivial,_,rfl,.drop _ _ rfl (by intro i cs h;omega)⟩
theorem qnj {l d:Int} {v:AV} (hv:zod (numR l d) (denR l d) v) (hd:0<d) (hf:2*(l.natAbs+d.natAbs)<BIG):∃w,zaw (zga l d) w∧Ret Tryz.prog G 127 [v] [] w []:=by
 obtain ⟨h,hh,t1⟩:=qxv
 obtain ⟨s,hs,t2⟩:=qni hv hh hd hf
 have hdp:=zrs (n:=l) hd
 have hd2:0<denR l d*2:=by omega
 obtain ⟨w,hw,t3⟩:=qwm hs (zrs hd2)
 rw [qhs hd2,qnf hd] at hw
 obtain ⟨a1,a2,a3,a4,rfl,p1,p2⟩:=hv
 obtain ⟨b1,b2,b3,b4,rfl,p3,p4⟩:=hh
 obtain ⟨s1,s2,s3,s4,rfl,p5,p6⟩:=hs
 obtain ⟨_,_,e1,e2⟩:=zao p1
 obtain ⟨_,_,e3,e4⟩:=zao p2
 obtain ⟨_,_,e5,e6⟩:=zao p3
 obtain ⟨_,_,e7,e8⟩:=zao p4
 subst e1 e2 e3 e4 e5 e6 e7 e8
 obtain ⟨_,_,e1,e2⟩:=zao p5
 obtain ⟨_,_,e3,e4⟩:=zao p6
 subst e1 e2 e3 e4
 obtain ⟨_,_,_,_,_,rfl⟩:=id hw
 refine ⟨_,hw,?_⟩
 refine zai zah Tryz.func127 comp127 _ 7 res127 nt127 (by simp) (by simp) ?_
 simp only [c127,r127_0,r127_1,SS,reduceCtorEq,reduceIte,qJ,qQ,qZ]
 refine zab t1 ?_
 simp only [SS,reduceIte,qQ]
 refine zab t2 ?_
 simp only [SS,reduceIte,qQ]
 refine zab t3 ?_
 simp only [SS,reduceIte,qJ,qQ,qZ]
 refine ⟨rfl,?_⟩
 exact ⟨.inl trivial,_,rfl,.drop _ _ rfl (by intro i cs h;omega)⟩
def idB (H:Heap) (ps:List (Nat×Option Nat)) (uv:List AV):Nat→Heap
 | 0=>H
 | i+1=>(idB H ps uv i).set (pid ps i) (some (setL ((getB (idB H ps uv i) (pid ps i)).getD []) (i*2) uv))
def idX (n:Nat):Nat→List (List Int)
 | 0=>zmat n n
 | i+1=>setM (idX n i) i i 1
theorem znx (n:Nat):∀i,(idX n i).length=n:=by
 intro i
 induction i with
 | zero=>exact (zib n n).1
 | succ i ih=>show (setM _ _ _ _).length=n;rw [zcn,ih]
theorem qto {H:Heap} {ps:List (Nat×Option Nat)} {n:Nat} {u v:AV} (h:MatH H 0 ps n (zmat n n)) (hz:zaw 1 (.agg [u,v])):∀i,i≤n→MatH (idB H ps [u,v] i) 0 ps n (idX n i):=by
 intro i
 induction i with
 | zero=>intro _;exact h
 | succ i ih=>
  intro hi
  have hM:=ih (by omega)
  obtain ⟨cs,gk,_⟩:=zer hM (i:=i) (by rw [znx];omega)
  have:=ziw hM (i:=i) (j:=i) (by rw [znx];omega) (by omega) hz gk
  show MatH ((idB H ps [u,v] i).set (pid ps i) (some (setL ((getB (idB H ps [u,v] i) (pid ps i)).getD []) (i*2) [u,v]))) 0 ps n (setM (idX n i) i i 1)
  rw [gk]
  exact this
theorem qtp {n:Nat}:∀i,i≤n→(∀s,s<n→((idX n i).getD s []).length=n)∧∀s t,ent (idX n i) s t=if s<i∧s=t then 1 else 0:=by
 intro i
 induction i with
 | zero=>intro _;exact ⟨(zib n n).2,fun s t=>by rw [if_neg (by omega)];exact zjr n n s t⟩
 | succ i ih=>
  intro hi
  obtain ⟨h1,h2⟩:=ih (by omega)
  have hl:=znx n i
  have hrow:∀s,s<n→((setM (idX n i) i i 1).getD s []).length=n:=by
   intro s hs
   unfold setM
   rw [qV,List.getElem?_set]
   by_cases e:i=s
   ·subst e
    rw [if_pos rfl,if_pos (by omega),xS,xQ];exact h1 i hs
   ·rw [if_neg e,←qV];exact h1 s hs
  refine ⟨hrow,fun s t=>?_⟩
  show ent (setM (idX n i) i i 1) s t=_
  rw [zgk (by omega) (by rw [h1 i (by omega)];omega),h2]
  by_cases e1:s=i∧t=i
  ·rw [if_pos e1,if_pos ⟨by omega,by omega⟩]
  ·rw [if_neg e1]
   by_cases e2:s<i∧s=t
   ·rw [if_pos e2,if_pos ⟨by omega,e2.2⟩]
   ·rw [if_neg e2,if_neg (by omega)]
theorem qwn (n:Nat):idX n n=idM n:=by
 obtain ⟨h1,h2⟩:=qtp (n:=n) n (qB _)
 refine zrg (n:=n) ⟨znx n n,h1⟩ (zfe n) fun s t hs ht=>?_
 rw [h2,znn hs ht]
 by_cases e:s=t
 ·rw [if_pos ⟨hs,e⟩,if_pos e]
 ·rw [if_neg (fun x=>e x.2),if_neg e]
theorem qbo {n:Nat} (hn:1≤n∧n≤16):∃H1 ps,MatH H1 0 ps n (idM n)∧Ret Tryz.prog G 59 [.int .i64 (n:Nat)] [] (.tup [.sl 0 0 n 1 (some n),.bool true]) H1:=by
 obtain ⟨H1,ps,hH1,hz⟩:=zig n n
 obtain ⟨v,hv,ts⟩:=zfu 1 (by omega) (by omega)
 have hv0:=hv
 obtain ⟨lv,cv,_,_,_,rfl⟩:=hv0
 have hM:=qto hz hv
 refine ⟨idB H1 ps _ n,ps,by have:=hM n (qB _);rw [qwn] at this;exact this,?_⟩
 refine zai zah Tryz.func59 comp59 _ 29 res59 nt59 (by simp) (by simp) ?_
 simp only [c59,r59_0,r59_1,SS,forall_const,reduceCtorEq,reduceIte,qQ]
 refine ⟨fun _=>⟨fun h=>absurd h (by omega),fun _=>?_⟩,fun h=>absurd h (by omega)⟩
 simp only [r59_3,SS,reduceCtorEq,reduceIte,qQ]
 refine zdt (qfp hn.2 hn.2) rfl ?_
 simp only [zba,SS,reduceIte,qQ,AV.ren,zbp,qS,hH1]
 simp only [r59_4,SS,reduceIte,qQ]
 refine zal (fun k E H=>∃i,i+k=n∧H=idB H1 ps [.bool (decide ((1:Int)<0)),.vec (u32s lv) lv.length cv] i∧E 4= .sl 0 0 n 1 (some n)∧E 16= .int .i64 (n:Nat)∧E 17= .int .i64 (i:Nat)) (n:=n) ⟨0,by omega,rfl,by simp only [zaa,zac,qX,qQ,reduceIte,if_false],by simp only [zaa,zac,qX,qQ,reduceIte,if_false],by simp only [zaa,zac,qX,qQ,reduceIte,if_false];rfl⟩ ?_
 rintro k E H ⟨i,hik,rfl,e4,e16,e17⟩
 refine zaf zah ?_
 simp only [l59_0,r59_5,SS,reduceCtorEq,reduceIte,e16,e17]
 refine ⟨fun hlt=>?_,fun hge=>?_⟩
 ·obtain ⟨k,rfl⟩:∃k',k=k'+1:=⟨k-1,by omega⟩
  have hi:i<n:=by omega
  have hMi:=hM i (by omega)
  have hXl:=znx n i
  obtain ⟨csk,gk,lk,rk,fk⟩:=zer hMi (i:=i) (by omega)
  have ok:=zce (ps:=ps) (n:=n) (i:=i) (by rw [hMi.len];omega)
  have hol:(ps.map (zcm n)).length=n:=by rw [qN,hMi.len];exact hXl
  have hou:=hMi.outer
  have w5:IntKind.i64.wrap ((i:Int)+1)=((i+1:Nat):Int):=by rw [show (i:Int)+1=((i+1:Nat):Int) by omega];exact w64 (by omega) (by omega)
  simp only [r59_6,r59_7,SS,forall_const,reduceIte,qQ,e4,e17,qW,hou,hol,ok]
  refine ⟨⟨by omega,by omega⟩,by omega,?_⟩
  refine zab ts ?_
  simp only [SS,reduceIte,qJ,qQ,gk,lk,qW]
  refine ⟨⟨by omega,by omega⟩,by omega,rfl,?_⟩
  simp only [r59_8,SS,reduceIte,qQ,e17,w5]
  refine ⟨k,_,_,by omega,⟨i+1,by omega,?_,?_,?_,?_⟩,.refl⟩
  ·show _=(idB H1 ps _ i).set (pid ps i) (some (setL ((getB (idB H1 ps _ i) (pid ps i)).getD []) (i*2) _))
   rw [gk]
   rfl
  all_goals simp only [zaa,qQ,reduceIte,if_false, *]
 ·have hin:i=n:=by omega
  subst hin
  simp only [r59_9,SS,reduceIte,qQ,e4]
  exact ⟨.inl trivial,_,rfl,.keep _ _⟩
open Go.Det
structure StepOut (n:Nat) (M:List (List Int)) (out:AV):Prop where
 add:∀i j,CurA n (rowF M) i j→out= .tup [matC (zho n M i j),.bool true]
 sw:∀i,CurS n (rowF M) i→out= .tup [matC (zkg n i),.bool true]
 none:(∀i,i<n→OKr (rowF M) i)→out= .tup [.vec [] 0 none,.bool false]
theorem qnk {n N A0:Nat} {M:List (List Int)} {ar:List AV} {ac:Option Nat} {ds:List Int} (hsq:Sq n M (.vec ar n ac)) (hL:Lead BIG n M ds) (hF:FitN N BIG A0) (hb:Bnd A0 M) (hnN:n≤N) (hp:∀t,t≤n→0<lead (rowF M) t) (hds:zdk BIG M n=some ds) (hdf:∀z∈ds,z.natAbs≤bndS A0 N)
  {H2:Heap} {ps:List (Nat×Option Nat)} (hH:MatH H2 0 ps n (idM n)) {out:AV} (ho:StepOut n M out) {i:Nat} (hi:i<n) (hpre:∀s,s<i→OKr (rowF M) s) {v22 v23:AV} {E:Env} {Q:Post}
  (e0:E 0= .vec ar n ac) (e4:E 4=rowV ds) (e6:E 6= .sl 0 0 n 1 (some n)) (e8:E 8= .int .i64 (i:Nat)) (e9:E 9= .int .i64 ((i:Int)-1)) (e22:E 22=v22) (e23:E 23=v23)
  (hret:∀E' H' v,E' 2= .sl 0 0 n 1 (some n)→E' 3= .bool true→AL.Fin 0 (.tup [.sl 0 0 n 1 (some n),.bool true]) H' v []→v.wk=out→Q .ret E' H')
  (hQ:∀E',(∀l,l<i→SZ (rowF M) i l)→E' 0= .vec ar n ac→E' 4=rowV ds→E' 6= .sl 0 0 n 1 (some n)→E' 8= .int .i64 (i:Nat)→E' 22=v22→E' 23=v23→Q (.exit 2) E' H2):
  W Tryz.prog G 0 83 (.loop l60_1) E H2 Q:=by
 have hn:1≤n∧n≤8:=⟨hsq.lo,hsq.hi⟩
 refine zal (fun k E H=>k≤i∧(∀l,k≤l→l<i→SZ (rowF M) i l)∧H=H2∧E 0= .vec ar n ac∧E 4=rowV ds∧E 6= .sl 0 0 n 1 (some n)∧E 8= .int .i64 (i:Nat)∧E 9= .int .i64 ((k:Int)-1)∧E 22=v22∧E 23=v23) (n:=i)
  ⟨qB _,fun l h1 h2=>absurd h2 (by omega),rfl,e0,e4,e6,e8,e9,e22,e23⟩ ?_
 clear e0 e4 e6 e8 e9 e22 e23 E
 rintro k E H ⟨hki,hup,rfl,e0,e4,e6,e8,e9,e22,e23⟩
 refine zaf zah ?_
 simp only [l60_1,r60_7,SS,reduceIte,qQ,e9]
 refine ⟨fun hge=>?_,fun hlt=>?_⟩
 ·obtain ⟨k,rfl⟩:∃k',k=k'+1:=⟨k-1,by omega⟩
  have e9k:((k+1:Nat):Int)-1=(k:Nat):=by omega
  rw [e9k] at e9
  have hk:k<n:=by omega
  have tS:=qos zdq hsq hL hi hk (qhn hF hb hnN hds hp (i:=i) hk)
  have c1:qK [.vec ar n ac,rowV ds,.int .i64 (i:Nat),.int .i64 (k:Nat)]=true:=rfl
  have w3:IntKind.i64.wrap ((k:Int)-1)=(k:Int)-1:=w64 (by omega) (by omega)
  simp only [r60_8,SS,reduceCtorEq,reduceIte,qQ,e0,e4,e8,e9,e9k]
  refine zab tS ?_ c1
  simp only [SS,reduceIte,qQ]
  by_cases hz:SZ (rowF M) i k
  ·have d1:decide (SZ (rowF M) i k)=true:=decide_eq_true hz
   simp only [SS,forall_const,d1]
   simp only [r60_11,SS,reduceIte,qQ,e9,w3]
   refine ⟨k,_,_,by omega,⟨by omega,fun l h1 h2=>?_,rfl,?_,?_,?_,?_,?_,?_,?_⟩,.refl⟩
   ·rcases (by omega:l=k∨k+1≤l) with e | e
    ·rw [e];exact hz
    ·exact hup l e h2
   all_goals simp only [zaa,qQ,reduceIte,if_false, *]
  ·have d1:decide (SZ (rowF M) i k)=false:=decide_eq_false hz
   have hc:CurA n (rowF M) i k:=⟨hi,by omega,hpre,fun l h1 h2=>hup l (by omega) h2,hz⟩
   have hout:=ho.add i k hc
   obtain ⟨hlam,hlb⟩:=qho hF hb hnN hp (i:=i) (j:=k) hk
   obtain ⟨hdet,hlf⟩:=zfw hlam
   have tL:=zvs zdq hsq hi hk hdet hlf
   have hli:=zbr (z:=stg (rowF M) k i k) hlf
   have tM:=zth zdq hL hn.2 (k:=k+1) (by omega)
   have hmin:zcf ds (k+1)=lead (rowF M) (k+1):=zfx hds hp (by omega)
   have hmi:=zbr (zkt zdq hL (k+1))
   rw [hmin] at tM hmi
   have hdp:=hp (k+1) (by omega)
   obtain ⟨q,hq,tQ⟩:=qht hli hmi hdp
   have hmb:=zhj hF hdf (k+1)
   rw [hmin] at hmb
   have hfit:=hF.fit
   have hsq1:=Nat.mul_le_mul_left (bndS A0 N) (zjw hF.one N)
   obtain ⟨w,hw,tN⟩:=qnj hq hdp (by omega)
   obtain ⟨x,hx,tG⟩:=zNeg hw
   obtain ⟨csk,gk,lk,rk,fk⟩:=zer hH (i:=k) (by rw [(zfe n).len];exact hk)
   have ok:=zce (ps:=ps) (n:=n) (i:=k) (by rw [hH.len,(zfe n).len];exact hk)
   have hol:(ps.map (zcm n)).length=n:=by rw [qN,hH.len];exact (zfe n).len
   have hou:=hH.outer
   have hx0:=hx
   obtain ⟨lx,cx,_,_,_,rfl⟩:=hx0
   have hset:=ziw hH (i:=k) (j:=i) (by rw [(zfe n).len];exact hk) hi hx gk
   have eU:setM (idM n) k i (-(zga (stg (rowF M) k i k) (lead (rowF M) (k+1))))=zho n M i k:=rfl
   rw [eU] at hset
   have hUl:(zho n M i k).length=n:=(zyg (c:= -(zga (stg (rowF M) k i k) (lead (rowF M) (k+1)))) (i:=i) hk).len
   obtain ⟨a1,a2,b1,b2,rfl,p1,p2⟩:=id hq
   obtain ⟨_,_,y1,y2⟩:=zao p1
   obtain ⟨_,_,y3,y4⟩:=zao p2
   subst y1 y2 y3 y4
   obtain ⟨lw,cw,_,_,_,hew⟩:=id hw
   subst hew
   have w6:IntKind.i64.wrap ((k:Int)+1)=((k+1:Nat):Int):=by rw [show (k:Int)+1=((k+1:Nat):Int) by omega];exact w64 (by omega) (by omega)
   have cL:qK [.vec ar n ac,.int .i64 (i:Nat),.int .i64 (k:Nat)]=true:=rfl
   have cM:qK [rowV ds,.int .i64 ((k+1:Nat):Int)]=true:=rfl
   have cQ:qK [intV (stg (rowF M) k i k),intV (lead (rowF M) (k+1))]=true:=by simp only [qK,hli.closed,hmi.closed,qD]
   simp only [SS,forall_const,d1]
   simp only [r60_9,SS,forall_const,reduceCtorEq,reduceIte,qQ,e0,e6,e8,e9,qW,hou,hol,ok]
   refine ⟨⟨by omega,by omega⟩,by omega,?_⟩
   refine zab tL ?_ cL hli.closed
   simp only [SS,reduceIte,qQ,e4,e9,w6]
   refine zab tM ?_ cM hmi.closed
   simp only [SS,reduceIte,qQ]
   refine zab tQ ?_ cQ
   simp only [SS,reduceIte,qQ]
   refine zab tN ?_
   simp only [SS,reduceIte,qQ]
   refine zab tG ?_
   simp only [SS,reduceIte,qJ,qQ,gk,lk,qW]
   refine ⟨⟨by omega,by omega⟩,by omega,rfl,?_⟩
   simp only [r60_10,SS,reduceIte,qQ,e6]
   obtain ⟨v,g1,g2⟩:=zia (cap:=some n) (b:=true) hset
   rw [hUl] at g1
   exact hret _ _ v (by simp only [zaa,qQ,reduceIte,if_false]) (by simp only [zaa,qQ,reduceIte,if_false]) g1 (by rw [g2,hout])
 ·have hk0:k=0:=by omega
  subst hk0
  exact hQ _ (fun l hl=>hup l (xB _) hl) (by simp only [zaa,qQ,if_false,e0]) (by simp only [zaa,qQ,if_false,e4]) (by simp only [zaa,qQ,if_false,e6]) (by simp only [zaa,qQ,if_false,e8]) (by simp only [zaa,qQ,if_false,e22]) (by simp only [zaa,qQ,if_false,e23])
theorem qtq {n N A0:Nat} {M:List (List Int)} {a out:AV} {ds:List Int} (hsq:Sq n M a) (hF:FitN N BIG A0) (hb:Bnd A0 M) (hnN:n≤N) (hp:∀t,t≤n→0<lead (rowF M) t) (ho:StepOut n M out):Ret Tryz.prog G 60 [a] [] out []:=by
 have hn:1≤n∧n≤8:=⟨hsq.lo,hsq.hi⟩
 obtain ⟨ds,hds,hdf⟩:=zlv hF hb n hnN
 have hds':zjm BIG M=some ds:=by unfold zjm;rw [hsq.len];exact hds
 have hL:=qfn hsq hds'
 have t1:=zqw zdq hsq hds'
 obtain ⟨H0,ps0,hM0,t2⟩:=qbo (n:=n) (by omega)
 have hM2:=zjp (H:=[]) hM0
 have hH2:zag (effs (zan [] 0) 0 H0) (List.replicate H0.length none)=H0.map (renB (zan [] 0)):=zgi (H:=[]) (zan [] 0) (fun i=>zbp 0 i) H0 []
 simp only [yK,xX] at hM2
 have c1:qK [a]=true:=by simp only [qK,hsq.closed,qD]
 obtain ⟨ar,ac,hae,hal,har⟩:=hsq.mat
 subst hae
 rw [hsq.len] at hsq t1 c1 ⊢
 refine zes zah Tryz.func60 comp60 _ 83 res60 nt60 (by simp) (by simp) ?_
 simp only [c60,r60_0,r60_1,SS,reduceCtorEq,reduceIte]
 refine zab t1 ?_ c1
 simp only [SS,reduceIte,qQ,qA,qU]
 simp only [r60_2,SS,reduceCtorEq,reduceIte,qQ]
 refine zdt t2 rfl ?_
 simp only [zba,SS,reduceIte,qQ,AV.ren,AV.ren.renL,zbp,qS,hH2,qA,qU]
 generalize H0.map (renB (zan [] 0))=H2 at*
 generalize (ps0.map fun p=>(0+p.1,p.2))=ps at*
 simp only [r60_3,SS,reduceCtorEq,reduceIte,qQ]
 have hret:∀E' H' v,E' 2= .sl 0 0 n 1 (some n)→E' 3= .bool true→AL.Fin 0 (.tup [.sl 0 0 n 1 (some n),.bool true]) H' v []→v.wk=out→∃v' v'',resA Tryz.prog [.tmp 2,.tmp 3] E' H'=some v'∧AL.Fin 0 v' H' v'' []∧v''.wk=out:=by
  intro E' H' v f2 f3 g gw
  refine ⟨.tup [.sl 0 0 n 1 (some n),.bool true],v,?_,g,gw⟩
  simp only [resA,zgr,List.mapM_cons,List.mapM_nil,f2,f3]
  rfl
 refine zal (fun k E H=>∃i,i+k=n∧H=H2∧E 0= .vec ar n ac∧E 4=rowV ds∧E 6= .sl 0 0 n 1 (some n)∧E 22= .int .i64 (n:Nat)∧E 23= .int .i64 (i:Nat)∧∀s,s<i→OKr (rowF M) s) (n:=n)
  ⟨0,by omega,rfl,by simp only [zaa,zac,qY,qQ,if_false],by simp only [zaa,zac,qX,qQ,reduceIte,if_false],by simp only [zaa,zac,qX,qQ,reduceIte,if_false],by simp only [zaa,zac,qX,qQ,reduceIte,if_false],by simp only [zaa,zac,qX,qQ,reduceIte,if_false];rfl,fun s hs=>absurd hs (by omega)⟩ ?_
 rintro k E H ⟨i,hik,rfl,e0,e4,e6,e22,e23,hpre⟩
 refine zaf zah ?_
 simp only [l60_0,r60_4,SS,reduceCtorEq,reduceIte,e22,e23]
 refine ⟨fun hlt=>?_,fun hge=>?_⟩
 ·obtain ⟨k,rfl⟩:∃k',k=k'+1:=⟨k-1,by omega⟩
  have hi:i<n:=by omega
  have w5:IntKind.i64.wrap ((i:Int)+1)=((i+1:Nat):Int):=by rw [show (i:Int)+1=((i+1:Nat):Int) by omega];exact w64 (by omega) (by omega)
  have w3:IntKind.i64.wrap ((i:Int)-1)=(i:Int)-1:=w64 (by omega) (by omega)
  simp only [r60_5,r60_6,SS,reduceIte,qQ,e23,w3]
  refine qnk (ar:=ar) (ac:=ac) hsq hL hF hb hnN hp hds hdf hM2 ho hi hpre (by simp only [zaa,qQ,if_false,e0]) (by simp only [zaa,qQ,if_false,e4]) (by simp only [zaa,qQ,if_false,e6]) (by simp only [zaa,qQ,reduceIte,if_false]) (by simp only [zaa,qQ,reduceIte,if_false]) (by simp only [zaa,qQ,if_false];exact e22) (by simp only [zaa,qQ,if_false];exact e23) ?_ ?_
  ·intro E' H' v f2 f3 g gw
   simp only [SS,reduceCtorEq]
   exact ⟨.inl trivial,hret E' H' v f2 f3 g gw⟩
  intro E' hSZ f0 f4 f6 f8 f22 f23
  rcases xP i with h0 | h0
  ·have d0:decide ((0:Int)<(i:Nat))=false:=decide_eq_false (by omega)
   simp only [SS,forall_const,reduceCtorEq,reduceIte,qQ,r60_12,f0,f4,f8,d0]
   simp only [r60_15,SS,reduceIte,qQ,f23,w5]
   refine ⟨k,_,_,by omega,⟨i+1,by omega,rfl,?_,?_,?_,?_,?_,fun s hs=>?_⟩,.refl⟩
   ·simp only [zaa,qQ,if_false, *]
   ·simp only [zaa,qQ,if_false, *]
   ·simp only [zaa,qQ,if_false, *]
   ·simp only [zaa,qQ,if_false, *]
   ·simp only [zaa,qQ,reduceIte,if_false, *]
   ·rcases (by omega:s<i∨s=i) with e | e
    ·exact hpre s e
    ·rw [e];exact ⟨hSZ,fun h=>absurd h (by omega)⟩
  ·have d0:decide ((0:Int)<(i:Nat))=true:=decide_eq_true (by omega)
   have tV:=qfo zdq hsq hL h0 hi (qth hF hb hnN hds hdf hp h0 hi)
   simp only [SS,forall_const,reduceCtorEq,reduceIte,qQ,r60_12,f0,f4,f8,d0]
   refine zab tV ?_
   by_cases hv:LV (rowF M) i
   ·have d1:decide (LV (rowF M) i)=true:=decide_eq_true hv
    simp only [SS,forall_const,reduceIte,qQ,d1]
    simp only [r60_15,SS,reduceIte,qQ,f23,w5]
    refine ⟨k,_,_,by omega,⟨i+1,by omega,rfl,?_,?_,?_,?_,?_,fun s hs=>?_⟩,.refl⟩
    ·simp only [zaa,qQ,if_false, *]
    ·simp only [zaa,qQ,if_false, *]
    ·simp only [zaa,qQ,if_false, *]
    ·simp only [zaa,qQ,if_false, *]
    ·simp only [zaa,qQ,reduceIte,if_false, *]
    ·rcases (by omega:s<i∨s=i) with e | e
     ·exact hpre s e
     ·rw [e];exact ⟨hSZ,fun _=>hv⟩
   ·have d1:decide (LV (rowF M) i)=false:=decide_eq_false hv
    have hc:CurS n (rowF M) i:=⟨hi,h0,hpre,hSZ,hv⟩
    have hout:=ho.sw i hc
    have hIl:=(zfe n).len
    have o1:=zce (ps:=ps) (n:=n) (i:=i) (by rw [hM2.len,hIl];exact hi)
    have o2:=zce (ps:=ps) (n:=n) (i:=i-1) (by rw [hM2.len,hIl];omega)
    have hol:(ps.map (zcm n)).length=n:=by rw [qN,hM2.len];exact hIl
    have hou:=hM2.outer
    have w7:(i:Int)-1=((i-1:Nat):Int):=by omega
    have w8:IntKind.i64.wrap ((i-1:Nat):Int)=((i-1:Nat):Int):=w64 (by omega) (by omega)
    have hlt0:=zav hou
    have hsw:=(zxp hM2 (p:=i) (k:=i-1) (by rw [hIl];exact hi) (by rw [hIl];omega)).1
    have hUl:(zde (idM n) i (i-1)).length=n:=(zjv (zfe n) hi (by omega)).1.len
    simp only [SS,forall_const,reduceIte,qQ,d1]
    simp only [r60_13,SS,forall_const,reduceIte,qQ,f6,f8,w7,w8,qW,hou,hol,o1,o2,zbm hlt0,xQ,List.set_set]
    refine ⟨⟨by omega,by omega⟩,by omega,⟨by omega,by omega⟩,by omega,⟨by omega,by omega⟩,by omega,⟨by omega,by omega⟩,by omega,rfl,?_⟩
    simp only [r60_14,SS,reduceIte,qQ,f6]
    obtain ⟨v,g1,g2⟩:=zia (cap:=some n) (b:=true) hsw
    rw [hUl] at g1
    exact ⟨.inl trivial,hret _ _ v (by simp only [zaa,qQ,reduceIte,if_false]) (by simp only [zaa,qQ,reduceIte,if_false]) g1 (by rw [g2,hout];rfl)⟩
 ·have hin:i=n:=by omega
  subst hin
  have hout:=ho.none hpre
  simp only [r60_16,SS]
  exact ⟨.inl trivial,_,_,rfl,.drop _ _ rfl (by intro i cs h;omega),by rw [hout];rfl⟩
end Go.Proofs.YtpflahgcdgdkjaaGreatDoor
