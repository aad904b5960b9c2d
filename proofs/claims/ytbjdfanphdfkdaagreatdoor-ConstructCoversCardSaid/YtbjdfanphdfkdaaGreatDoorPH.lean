/- A part of the proof. -/
import Derived.KernelRfl
import Derived.Test.YtbjdfanphdfkdaaGreatDoorU0
import Derived.Test.YtbjdfanphdfkdaaGreatDoorU1
import Derived.Test.YtbjdfanphdfkdaaGreatDoorU2
import Derived.Test.YtbjdfanphdfkdaaGreatDoorU3
set_option linter.all false
set_option maxRecDepth 1000000
open Nat renaming reduceEqDiff -> qX, reduceLeDiff -> qZ, reduceAdd -> qJ, zero_add -> qK, succ_ne_zero -> qW, mul_one -> qV, reduceSub -> qG, eq_of_beq_eq_true -> qL, zero_le -> qP
open Int renaming reduceSub -> qY, fdiv_eq_ediv_of_nonneg -> qU, reduceLE -> qA, reduceLT -> qB, natCast_zero -> qE, reduceNeg -> qN
open Option.some renaming injEq -> qC
open List renaming getD_eq_getElem?_getD -> qD, drop_eq_getElem_cons -> qH, getElem?_eq_getElem -> qI, replicate_zero -> qM, append_nil -> qS
open Option renaming bind_some -> qO
namespace Go.Proofs.YtbjdfanphdfkdaaGreatDoor
open Go Go.AL Go.Proofs
def r263_0:RL:=[oP 2 (.mov (.k (.vec [] 0 (some 0))))]
def r263_1:RL:=[mV 3 0,oP 4 (.snil false (.t 3))]
def r263_2:RL:=[oP 2 (.mov (.k (.vec [] 0 (some 0))))]
def r263_3:RL:=[oP 5 (.bsl 0 1 [] []),mV 6 0,oP 7 (.append 1 4 (.t 5) (.t 6)),mV 2 7]
def c263:CC:=(.seq (rN r263_0) (.seq (.seq (rN r263_1) (.cond (.t 4) (.seq (rN r263_2) .ret) .skip)) (.seq (rN r263_3) .ret)))
theorem o263:FnI 263 8 Tryz.f263 c263 [.tmp 2]:=oM Tryz.func263
theorem kbo(cs:List AV)(c:Option Nat):Rt 263 [.vec cs 0 c] [] (.vec [] 0 (some 0)) []:=by
 refine oF o263 ?_;simp only[c263,r263_0,r263_1,r263_2,r263_3,SS,fC,reduceCtorEq,reduceIte,iT,qJ,qX,qZ];refine⟨⟨.inl trivial,_,rfl,.keep _ _⟩,?_⟩;simp only[zcd,lenA,zdz,need,qO,Nat.zero_mul,Nat.le_refl,qP,and_self,if_true,zao,zaf,List.take_zero];exact⟨.inl trivial,_,rfl,.freeze 1 _ _ _ rfl (by intro i cs h;omega)⟩
theorem kbp(cs:List AV)(n:Nat)(c:Option Nat)(h0:0<n)(hn:n<=cs.length)(hb:16*n<=2^48):Rt 263 [.vec cs n c] [] (.sl 1 0 n 1 none) [some [],some (cs.take n)]:=by
 refine oF o263 ?_;simp only[c263,r263_0,r263_1,r263_2,r263_3,SS,fC,reduceCtorEq,reduceIte,iT,qJ,qX,qZ,show n≠0 by omega,if_false];have e1:n*1<=cs.length:=by omega
 simp only[zcd,lenA,zdz,need,qO,hn,e1,Nat.le_refl,and_self,if_true,show n≠0 by omega,if_false,getB,List.getElem?_cons_zero,Nat.zero_mul,qP,qK,true_and,show 4*n*4<=2^48 by omega,show n<2^62 by omega,zao,zaf,qV,List.set_cons_succ,List.set_cons_zero,List.take_zero,List.nil_append];exact⟨.inl trivial,_,rfl,.keep _ _⟩
def g263:List AV->Heap->Option (AV×Heap)
 | [.vec cs n _],[]=>match n with
  |0=>some (.vec [] 0 (some 0),[])
  |n+1=>if n+1<=cs.length/\16*(n+1)<=281474976710656 then some (.sl 1 0 (n+1) 1 none,[some [],some (cs.take (n+1))])else none
 |_,_=>none
theorem xdx{args:List AV}{H:Heap}{v:AV}{H':Heap}(h:g263 args H=some (v,H')):Rt 263 args H v H':=by
 unfold g263 at h;split at h
 ·split at h
  ·simp only[qC,Prod.mk.injEq]at h;obtain⟨rfl,rfl⟩:=h;exact kbo _ _
  ·split at h
   ·rename_i hh;simp only[qC,Prod.mk.injEq]at h;obtain⟨rfl,rfl⟩:=h;exact kbp _ _ _ (by omega) hh.1 hh.2
   ·simp at h
 ·simp at h
def nR:N16 Ent:=⟨.no,.no,.no,.no,.no,.no,.no,.no,.no,.no,.no,.no,.no,.no,.no,.no⟩
theorem zdf(g:Nat->Nat):nR.All λk e=>EOT Tryz.prog G okB (g k) e:=⟨trivial,trivial,trivial,trivial,trivial,trivial,trivial,trivial,trivial,trivial,trivial,trivial,trivial,trivial,trivial,trivial⟩
def nRR:N16 (N16 Ent):=⟨nR,nR,nR,nR,nR,nR,nR,nR,nR,nR,nR,nR,nR,nR,nR,nR⟩
theorem zha(g:Nat->Nat->Nat):nRR.All λj r=>r.All λk e=>EOT Tryz.prog G okB (g j k) e:=⟨zdf _,zdf _,zdf _,zdf _,zdf _,zdf _,zdf _,zdf _,zdf _,zdf _,zdf _,zdf _,zdf _,zdf _,zdf _,zdf _⟩
noncomputable def wt0(x9 x22 x57 x114 x115 x117 x119 x173 x174 x178 x201 x203 x220:Ent):N16 Ent:=⟨.no,.no,.no,.no,.no,.no,e6,e7,e8,x9,.no,.no,.no,.no,.no,.no⟩
theorem kbq{x9 x22 x57 x114 x115 x117 x119 x173 x174 x178 x201 x203 x220:Ent}(h9:EOT Tryz.prog G okB 9 x9)(h22:EOT Tryz.prog G okB 22 x22)(h57:EOT Tryz.prog G okB 57 x57)(h114:EOT Tryz.prog G okB 114 x114)(h115:EOT Tryz.prog G okB 115 x115)(h117:EOT Tryz.prog G okB 117 x117)(h119:EOT Tryz.prog G okB 119 x119)(h173:EOT Tryz.prog G okB 173 x173)(h174:EOT Tryz.prog G okB 174 x174)(h178:EOT Tryz.prog G okB 178 x178)(h201:EOT Tryz.prog G okB 201 x201)(h203:EOT Tryz.prog G okB 203 x203)(h220:EOT Tryz.prog G okB 220 x220):(wt0 x9 x22 x57 x114 x115 x117 x119 x173 x174 x178 x201 x203 x220).All λk e=>EOT Tryz.prog G okB (256*0+16*0+k) e:=⟨trivial,trivial,trivial,trivial,trivial,trivial,k6,k7,k8,h9,trivial,trivial,trivial,trivial,trivial,trivial⟩
noncomputable def wt16(x9 x22 x57 x114 x115 x117 x119 x173 x174 x178 x201 x203 x220:Ent):N16 Ent:=⟨e16,.no,e18,e19,e20,e21,x22,e23,e24,e25,.no,.no,e28,.no,.no,.no⟩
theorem xdy{x9 x22 x57 x114 x115 x117 x119 x173 x174 x178 x201 x203 x220:Ent}(h9:EOT Tryz.prog G okB 9 x9)(h22:EOT Tryz.prog G okB 22 x22)(h57:EOT Tryz.prog G okB 57 x57)(h114:EOT Tryz.prog G okB 114 x114)(h115:EOT Tryz.prog G okB 115 x115)(h117:EOT Tryz.prog G okB 117 x117)(h119:EOT Tryz.prog G okB 119 x119)(h173:EOT Tryz.prog G okB 173 x173)(h174:EOT Tryz.prog G okB 174 x174)(h178:EOT Tryz.prog G okB 178 x178)(h201:EOT Tryz.prog G okB 201 x201)(h203:EOT Tryz.prog G okB 203 x203)(h220:EOT Tryz.prog G okB 220 x220):(wt16 x9 x22 x57 x114 x115 x117 x119 x173 x174 x178 x201 x203 x220).All λk e=>EOT Tryz.prog G okB (256*0+16*1+k) e:=⟨k16,trivial,k18,k19,k20,k21,h22,k23,k24,k25,trivial,trivial,k28,trivial,trivial,trivial⟩
noncomputable def wt32:N16 Ent:=⟨.no,.no,.no,.no,e36,.no,.no,.no,.no,.no,.no,.no,.no,.no,.no,e47⟩
theorem xdz:wt32.All λk e=>EOT Tryz.prog G okB (256*0+16*2+k) e:=⟨trivial,trivial,trivial,trivial,k36,trivial,trivial,trivial,trivial,trivial,trivial,trivial,trivial,trivial,trivial,k47⟩
noncomputable def wt48(x9 x22 x57 x114 x115 x117 x119 x173 x174 x178 x201 x203 x220:Ent):N16 Ent:=⟨e48,e49,e50,e51,e52,e53,e54,e55,e56,x57,e58,e59,e60,e61,e62,e63⟩
theorem xea{x9 x22 x57 x114 x115 x117 x119 x173 x174 x178 x201 x203 x220:Ent}(h9:EOT Tryz.prog G okB 9 x9)(h22:EOT Tryz.prog G okB 22 x22)(h57:EOT Tryz.prog G okB 57 x57)(h114:EOT Tryz.prog G okB 114 x114)(h115:EOT Tryz.prog G okB 115 x115)(h117:EOT Tryz.prog G okB 117 x117)(h119:EOT Tryz.prog G okB 119 x119)(h173:EOT Tryz.prog G okB 173 x173)(h174:EOT Tryz.prog G okB 174 x174)(h178:EOT Tryz.prog G okB 178 x178)(h201:EOT Tryz.prog G okB 201 x201)(h203:EOT Tryz.prog G okB 203 x203)(h220:EOT Tryz.prog G okB 220 x220):(wt48 x9 x22 x57 x114 x115 x117 x119 x173 x174 x178 x201 x203 x220).All λk e=>EOT Tryz.prog G okB (256*0+16*3+k) e:=⟨k48,k49,k50,k51,k52,k53,k54,k55,k56,h57,k58,k59,k60,k61,k62,k63⟩
noncomputable def wt64:N16 Ent:=⟨e64,.no,.no,.no,.no,.no,.no,.no,.no,e73,.no,.no,.no,.no,.no,.no⟩
theorem xeb:wt64.All λk e=>EOT Tryz.prog G okB (256*0+16*4+k) e:=⟨k64,trivial,trivial,trivial,trivial,trivial,trivial,trivial,trivial,k73,trivial,trivial,trivial,trivial,trivial,trivial⟩
noncomputable def wt80:N16 Ent:=⟨.no,.no,.no,.no,.no,.no,.no,e87,.no,.no,.no,.no,.no,.no,.no,.no⟩
theorem xec:wt80.All λk e=>EOT Tryz.prog G okB (256*0+16*5+k) e:=⟨trivial,trivial,trivial,trivial,trivial,trivial,trivial,k87,trivial,trivial,trivial,trivial,trivial,trivial,trivial,trivial⟩
noncomputable def wt96:N16 Ent:=⟨e96,e97,e98,e99,e100,e101,e102,e103,e104,e105,e106,e107,e108,e109,e110,e111⟩
theorem xed:wt96.All λk e=>EOT Tryz.prog G okB (256*0+16*6+k) e:=⟨k96,k97,k98,k99,k100,k101,k102,k103,k104,k105,k106,k107,k108,k109,k110,k111⟩
noncomputable def kbr(x9 x22 x57 x114 x115 x117 x119 x173 x174 x178 x201 x203 x220:Ent):N16 Ent:=⟨e112,e113,x114,x115,e116,x117,e118,x119,e120,e121,e122,e123,e124,e125,.no,.no⟩
theorem qym{x9 x22 x57 x114 x115 x117 x119 x173 x174 x178 x201 x203 x220:Ent}(h9:EOT Tryz.prog G okB 9 x9)(h22:EOT Tryz.prog G okB 22 x22)(h57:EOT Tryz.prog G okB 57 x57)(h114:EOT Tryz.prog G okB 114 x114)(h115:EOT Tryz.prog G okB 115 x115)(h117:EOT Tryz.prog G okB 117 x117)(h119:EOT Tryz.prog G okB 119 x119)(h173:EOT Tryz.prog G okB 173 x173)(h174:EOT Tryz.prog G okB 174 x174)(h178:EOT Tryz.prog G okB 178 x178)(h201:EOT Tryz.prog G okB 201 x201)(h203:EOT Tryz.prog G okB 203 x203)(h220:EOT Tryz.prog G okB 220 x220):(kbr x9 x22 x57 x114 x115 x117 x119 x173 x174 x178 x201 x203 x220).All λk e=>EOT Tryz.prog G okB (256*0+16*7+k) e:=⟨k112,k113,h114,h115,k116,h117,k118,h119,k120,k121,k122,k123,k124,k125,trivial,trivial⟩
noncomputable def kbs:N16 Ent:=⟨.no,.no,.no,.no,.no,.no,.no,.no,.no,.no,.no,e139,e140,.no,.no,.no⟩
theorem qyn:kbs.All λk e=>EOT Tryz.prog G okB (256*0+16*8+k) e:=⟨trivial,trivial,trivial,trivial,trivial,trivial,trivial,trivial,trivial,trivial,trivial,k139,k140,trivial,trivial,trivial⟩
noncomputable def kbt:N16 Ent:=⟨e144,.no,.no,.no,.no,.no,.no,.no,.no,.no,.no,.no,.no,.no,.no,.no⟩
theorem qyo:kbt.All λk e=>EOT Tryz.prog G okB (256*0+16*9+k) e:=⟨k144,trivial,trivial,trivial,trivial,trivial,trivial,trivial,trivial,trivial,trivial,trivial,trivial,trivial,trivial,trivial⟩
noncomputable def kbu(x9 x22 x57 x114 x115 x117 x119 x173 x174 x178 x201 x203 x220:Ent):N16 Ent:=⟨.no,.no,.no,.no,.no,.no,.no,.no,e168,e169,e170,e171,e172,x173,x174,e175⟩
theorem qyp{x9 x22 x57 x114 x115 x117 x119 x173 x174 x178 x201 x203 x220:Ent}(h9:EOT Tryz.prog G okB 9 x9)(h22:EOT Tryz.prog G okB 22 x22)(h57:EOT Tryz.prog G okB 57 x57)(h114:EOT Tryz.prog G okB 114 x114)(h115:EOT Tryz.prog G okB 115 x115)(h117:EOT Tryz.prog G okB 117 x117)(h119:EOT Tryz.prog G okB 119 x119)(h173:EOT Tryz.prog G okB 173 x173)(h174:EOT Tryz.prog G okB 174 x174)(h178:EOT Tryz.prog G okB 178 x178)(h201:EOT Tryz.prog G okB 201 x201)(h203:EOT Tryz.prog G okB 203 x203)(h220:EOT Tryz.prog G okB 220 x220):(kbu x9 x22 x57 x114 x115 x117 x119 x173 x174 x178 x201 x203 x220).All λk e=>EOT Tryz.prog G okB (256*0+16*10+k) e:=⟨trivial,trivial,trivial,trivial,trivial,trivial,trivial,trivial,k168,k169,k170,k171,k172,h173,h174,k175⟩
noncomputable def kbv(x9 x22 x57 x114 x115 x117 x119 x173 x174 x178 x201 x203 x220:Ent):N16 Ent:=⟨e176,e177,x178,e179,e180,e181,e182,e183,e184,e185,e186,e187,e188,e189,e190,e191⟩
theorem qyq{x9 x22 x57 x114 x115 x117 x119 x173 x174 x178 x201 x203 x220:Ent}(h9:EOT Tryz.prog G okB 9 x9)(h22:EOT Tryz.prog G okB 22 x22)(h57:EOT Tryz.prog G okB 57 x57)(h114:EOT Tryz.prog G okB 114 x114)(h115:EOT Tryz.prog G okB 115 x115)(h117:EOT Tryz.prog G okB 117 x117)(h119:EOT Tryz.prog G okB 119 x119)(h173:EOT Tryz.prog G okB 173 x173)(h174:EOT Tryz.prog G okB 174 x174)(h178:EOT Tryz.prog G okB 178 x178)(h201:EOT Tryz.prog G okB 201 x201)(h203:EOT Tryz.prog G okB 203 x203)(h220:EOT Tryz.prog G okB 220 x220):(kbv x9 x22 x57 x114 x115 x117 x119 x173 x174 x178 x201 x203 x220).All λk e=>EOT Tryz.prog G okB (256*0+16*11+k) e:=⟨k176,k177,h178,k179,k180,k181,k182,k183,k184,k185,k186,k187,k188,k189,k190,k191⟩
noncomputable def kbw(x9 x22 x57 x114 x115 x117 x119 x173 x174 x178 x201 x203 x220:Ent):N16 Ent:=⟨e192,e193,e194,e195,e196,e197,e198,e199,e200,x201,e202,x203,e204,e205,e206,.no⟩
theorem qyr{x9 x22 x57 x114 x115 x117 x119 x173 x174 x178 x201 x203 x220:Ent}(h9:EOT Tryz.prog G okB 9 x9)(h22:EOT Tryz.prog G okB 22 x22)(h57:EOT Tryz.prog G okB 57 x57)(h114:EOT Tryz.prog G okB 114 x114)(h115:EOT Tryz.prog G okB 115 x115)(h117:EOT Tryz.prog G okB 117 x117)(h119:EOT Tryz.prog G okB 119 x119)(h173:EOT Tryz.prog G okB 173 x173)(h174:EOT Tryz.prog G okB 174 x174)(h178:EOT Tryz.prog G okB 178 x178)(h201:EOT Tryz.prog G okB 201 x201)(h203:EOT Tryz.prog G okB 203 x203)(h220:EOT Tryz.prog G okB 220 x220):(kbw x9 x22 x57 x114 x115 x117 x119 x173 x174 x178 x201 x203 x220).All λk e=>EOT Tryz.prog G okB (256*0+16*12+k) e:=⟨k192,k193,k194,k195,k196,k197,k198,k199,k200,h201,k202,h203,k204,k205,k206,trivial⟩
noncomputable def kbx(x9 x22 x57 x114 x115 x117 x119 x173 x174 x178 x201 x203 x220:Ent):N16 Ent:=⟨.no,.no,.no,.no,.no,.no,.no,.no,.no,.no,.no,e219,x220,.no,.no,.no⟩
theorem qys{x9 x22 x57 x114 x115 x117 x119 x173 x174 x178 x201 x203 x220:Ent}(h9:EOT Tryz.prog G okB 9 x9)(h22:EOT Tryz.prog G okB 22 x22)(h57:EOT Tryz.prog G okB 57 x57)(h114:EOT Tryz.prog G okB 114 x114)(h115:EOT Tryz.prog G okB 115 x115)(h117:EOT Tryz.prog G okB 117 x117)(h119:EOT Tryz.prog G okB 119 x119)(h173:EOT Tryz.prog G okB 173 x173)(h174:EOT Tryz.prog G okB 174 x174)(h178:EOT Tryz.prog G okB 178 x178)(h201:EOT Tryz.prog G okB 201 x201)(h203:EOT Tryz.prog G okB 203 x203)(h220:EOT Tryz.prog G okB 220 x220):(kbx x9 x22 x57 x114 x115 x117 x119 x173 x174 x178 x201 x203 x220).All λk e=>EOT Tryz.prog G okB (256*0+16*13+k) e:=⟨trivial,trivial,trivial,trivial,trivial,trivial,trivial,trivial,trivial,trivial,trivial,k219,h220,trivial,trivial,trivial⟩
noncomputable def kby:N16 Ent:=⟨.no,.no,e226,.no,e228,.no,.no,.no,.no,.no,.no,.no,.no,.no,.no,.no⟩
theorem qyt:kby.All λk e=>EOT Tryz.prog G okB (256*0+16*14+k) e:=⟨trivial,trivial,k226,trivial,k228,trivial,trivial,trivial,trivial,trivial,trivial,trivial,trivial,trivial,trivial,trivial⟩
noncomputable def kbz:N16 Ent:=⟨.no,.no,.no,.no,.no,.no,e246,e247,e248,e249,e250,e251,e252,e253,e254,e255⟩
theorem qyu:kbz.All λk e=>EOT Tryz.prog G okB (256*0+16*15+k) e:=⟨trivial,trivial,trivial,trivial,trivial,trivial,k246,k247,k248,k249,k250,k251,k252,k253,k254,k255⟩
noncomputable def vt0(x9 x22 x57 x114 x115 x117 x119 x173 x174 x178 x201 x203 x220:Ent):N16 (N16 Ent):=⟨wt0 x9 x22 x57 x114 x115 x117 x119 x173 x174 x178 x201 x203 x220,wt16 x9 x22 x57 x114 x115 x117 x119 x173 x174 x178 x201 x203 x220,wt32,wt48 x9 x22 x57 x114 x115 x117 x119 x173 x174 x178 x201 x203 x220,wt64,wt80,wt96,kbr x9 x22 x57 x114 x115 x117 x119 x173 x174 x178 x201 x203 x220,kbs,kbt,kbu x9 x22 x57 x114 x115 x117 x119 x173 x174 x178 x201 x203 x220,kbv x9 x22 x57 x114 x115 x117 x119 x173 x174 x178 x201 x203 x220,kbw x9 x22 x57 x114 x115 x117 x119 x173 x174 x178 x201 x203 x220,kbx x9 x22 x57 x114 x115 x117 x119 x173 x174 x178 x201 x203 x220,kby,kbz⟩
theorem kca{x9 x22 x57 x114 x115 x117 x119 x173 x174 x178 x201 x203 x220:Ent}(h9:EOT Tryz.prog G okB 9 x9)(h22:EOT Tryz.prog G okB 22 x22)(h57:EOT Tryz.prog G okB 57 x57)(h114:EOT Tryz.prog G okB 114 x114)(h115:EOT Tryz.prog G okB 115 x115)(h117:EOT Tryz.prog G okB 117 x117)(h119:EOT Tryz.prog G okB 119 x119)(h173:EOT Tryz.prog G okB 173 x173)(h174:EOT Tryz.prog G okB 174 x174)(h178:EOT Tryz.prog G okB 178 x178)(h201:EOT Tryz.prog G okB 201 x201)(h203:EOT Tryz.prog G okB 203 x203)(h220:EOT Tryz.prog G okB 220 x220):(vt0 x9 x22 x57 x114 x115 x117 x119 x173 x174 x178 x201 x203 x220).All λj r=>r.All λk e=>EOT Tryz.prog G okB (256*0+16*j+k) e:=⟨kbq h9 h22 h57 h114 h115 h117 h119 h173 h174 h178 h201 h203 h220,xdy h9 h22 h57 h114 h115 h117 h119 h173 h174 h178 h201 h203 h220,xdz,xea h9 h22 h57 h114 h115 h117 h119 h173 h174 h178 h201 h203 h220,xeb,xec,xed,qym h9 h22 h57 h114 h115 h117 h119 h173 h174 h178 h201 h203 h220,qyn,qyo,qyp h9 h22 h57 h114 h115 h117 h119 h173 h174 h178 h201 h203 h220,qyq h9 h22 h57 h114 h115 h117 h119 h173 h174 h178 h201 h203 h220,qyr h9 h22 h57 h114 h115 h117 h119 h173 h174 h178 h201 h203 h220,qys h9 h22 h57 h114 h115 h117 h119 h173 h174 h178 h201 h203 h220,qyt,qyu⟩
noncomputable def kcb:N16 Ent:=⟨e256,e257,e258,e259,e260,e261,e262,(.known g263),e264,e265,e266,e267,e268,e269,e270,e271⟩
theorem qyv:kcb.All λk e=>EOT Tryz.prog G okB (256*1+16*0+k) e:=⟨k256,k257,k258,k259,k260,k261,k262,(λ_ _ _ _ h=>xdx h),k264,k265,k266,k267,k268,k269,k270,k271⟩
noncomputable def kcc:N16 Ent:=⟨e272,e273,e274,e275,e276,e277,e278,e279,e280,e281,.no,.no,.no,.no,.no,.no⟩
theorem qyw:kcc.All λk e=>EOT Tryz.prog G okB (256*1+16*1+k) e:=⟨k272,k273,k274,k275,k276,k277,k278,k279,k280,k281,trivial,trivial,trivial,trivial,trivial,trivial⟩
noncomputable def kcd:N16 Ent:=⟨.no,.no,.no,.no,.no,.no,.no,.no,.no,e297,.no,.no,.no,.no,.no,.no⟩
theorem qyx:kcd.All λk e=>EOT Tryz.prog G okB (256*1+16*2+k) e:=⟨trivial,trivial,trivial,trivial,trivial,trivial,trivial,trivial,trivial,k297,trivial,trivial,trivial,trivial,trivial,trivial⟩
noncomputable def kce:N16 Ent:=⟨.no,.no,.no,e307,e308,e309,e310,e311,e312,e313,e314,e315,e316,e317,e318,e319⟩
theorem qyy:kce.All λk e=>EOT Tryz.prog G okB (256*1+16*3+k) e:=⟨trivial,trivial,trivial,k307,k308,k309,k310,k311,k312,k313,k314,k315,k316,k317,k318,k319⟩
noncomputable def kcf:N16 Ent:=⟨e320,e321,e322,e323,e324,e325,e326,e327,e328,e329,e330,e331,e332,e333,.no,.no⟩
theorem qyz:kcf.All λk e=>EOT Tryz.prog G okB (256*1+16*4+k) e:=⟨k320,k321,k322,k323,k324,k325,k326,k327,k328,k329,k330,k331,k332,k333,trivial,trivial⟩
noncomputable def kch:N16 Ent:=⟨e352,e353,e354,e355,e356,e357,e358,.no,.no,e361,e362,e363,e364,e365,e366,.no⟩
theorem qzb:kch.All λk e=>EOT Tryz.prog G okB (256*1+16*6+k) e:=⟨k352,k353,k354,k355,k356,k357,k358,trivial,trivial,k361,k362,k363,k364,k365,k366,trivial⟩
noncomputable def kci:N16 Ent:=⟨.no,.no,.no,.no,.no,.no,.no,.no,.no,.no,e378,e379,e380,e381,e382,e383⟩
theorem qzc:kci.All λk e=>EOT Tryz.prog G okB (256*1+16*7+k) e:=⟨trivial,trivial,trivial,trivial,trivial,trivial,trivial,trivial,trivial,trivial,k378,k379,k380,k381,k382,k383⟩
noncomputable def xjt:N16 Ent:=⟨e384,e385,e386,.no,e388,e389,e390,e391,.no,.no,.no,.no,.no,.no,.no,.no⟩
theorem jcp:xjt.All λk e=>EOT Tryz.prog G okB (256*1+16*8+k) e:=⟨k384,k385,k386,trivial,k388,k389,k390,k391,trivial,trivial,trivial,trivial,trivial,trivial,trivial,trivial⟩
noncomputable def vt1:N16 (N16 Ent):=⟨kcb,kcc,kcd,kce,kcf,nR,kch,kci,xjt,nR,nR,nR,nR,nR,nR,nR⟩
theorem kcj:vt1.All λj r=>r.All λk e=>EOT Tryz.prog G okB (256*1+16*j+k) e:=⟨qyv,qyw,qyx,qyy,qyz,zdf _,qzb,qzc,jcp,zdf _,zdf _,zdf _,zdf _,zdf _,zdf _,zdf _⟩
noncomputable def jxy:N16 Ent:=⟨.no,.no,.no,.no,.no,.no,.no,.no,.no,.no,.no,.no,.no,.no,.no,(.own (yldK rndT))⟩
theorem qrn:jxy.All λk e=>EOT Tryz.prog G okB (256*15+16*15+k) e:=⟨trivial,trivial,trivial,trivial,trivial,trivial,trivial,trivial,trivial,trivial,trivial,trivial,trivial,trivial,trivial,kqy⟩
noncomputable def vt15:N16 (N16 Ent):=⟨nR,nR,nR,nR,nR,nR,nR,nR,nR,nR,nR,nR,nR,nR,nR,jxy⟩
theorem xee:vt15.All λj r=>r.All λk e=>EOT Tryz.prog G okB (256*15+16*j+k) e:=⟨zdf _,zdf _,zdf _,zdf _,zdf _,zdf _,zdf _,zdf _,zdf _,zdf _,zdf _,zdf _,zdf _,zdf _,zdf _,qrn⟩
noncomputable def TM(x9 x22 x57 x114 x115 x117 x119 x173 x174 x178 x201 x203 x220:Ent):Tab:=⟨vt0 x9 x22 x57 x114 x115 x117 x119 x173 x174 x178 x201 x203 x220,vt1,nRR,nRR,nRR,nRR,nRR,nRR,nRR,nRR,nRR,nRR,nRR,nRR,nRR,vt15⟩
theorem kqz{x9 x22 x57 x114 x115 x117 x119 x173 x174 x178 x201 x203 x220:Ent}(h9:EOT Tryz.prog G okB 9 x9)(h22:EOT Tryz.prog G okB 22 x22)(h57:EOT Tryz.prog G okB 57 x57)(h114:EOT Tryz.prog G okB 114 x114)(h115:EOT Tryz.prog G okB 115 x115)(h117:EOT Tryz.prog G okB 117 x117)(h119:EOT Tryz.prog G okB 119 x119)(h173:EOT Tryz.prog G okB 173 x173)(h174:EOT Tryz.prog G okB 174 x174)(h178:EOT Tryz.prog G okB 178 x178)(h201:EOT Tryz.prog G okB 201 x201)(h203:EOT Tryz.prog G okB 203 x203)(h220:EOT Tryz.prog G okB 220 x220):TOK Tryz.prog G okB (TM x9 x22 x57 x114 x115 x117 x119 x173 x174 x178 x201 x203 x220):=⟨kca h9 h22 h57 h114 h115 h117 h119 h173 h174 h178 h201 h203 h220,kcj,zha _,zha _,zha _,zha _,zha _,zha _,zha _,zha _,zha _,zha _,zha _,zha _,zha _,xee⟩
theorem runM{x9 x22 x57 x114 x115 x117 x119 x173 x174 x178 x201 x203 x220:Ent}(h9:EOT Tryz.prog G okB 9 x9)(h22:EOT Tryz.prog G okB 22 x22)(h57:EOT Tryz.prog G okB 57 x57)(h114:EOT Tryz.prog G okB 114 x114)(h115:EOT Tryz.prog G okB 115 x115)(h117:EOT Tryz.prog G okB 117 x117)(h119:EOT Tryz.prog G okB 119 x119)(h173:EOT Tryz.prog G okB 173 x173)(h174:EOT Tryz.prog G okB 174 x174)(h178:EOT Tryz.prog G okB 178 x178)(h201:EOT Tryz.prog G okB 201 x201)(h203:EOT Tryz.prog G okB 203 x203)(h220:EOT Tryz.prog G okB 220 x220){n f:Nat}{args:List AV}{H:Heap}{v:AV}{H':Heap}(h:frun (exT (TM x9 x22 x57 x114 x115 x117 x119 x173 x174 x178 x201 x203 x220) n) f args H=some (v,H')):Ret Tryz.prog G f args H v H':=qmz (by kernel_rfl) zxb zxa (kqz h9 h22 h57 h114 h115 h117 h119 h173 h174 h178 h201 h203 h220) n f args H v H' h
def r173_0:RL:=[oP 4 (.box (.k (.agg [(.bool false),(.vec [] 0 (some 0))])))]
def r173_1:RL:=[mV 5 1,lN 6 5,bK 7 .eql 6 0]
def r173_2:RL:=[oP 8 (.build [(.bool false),(.vec [] 0 (some 0))] []),sT (.store 2 (.t 4) (.t 8))]
def r173_3:RL:=[mV 9 0,mV 10 1,oP 11 (.build [(.bool false),(.vec [] 0 (some 0))] [(0,(1,(.t 9))),(1,(1,(.t 10)))]),sT (.store 2 (.t 4) (.t 11))]
def c173:CC:=(.seq (rN r173_0) (.seq (.seq (rN r173_1) (.cond (.t 7) (.seq (rN r173_2) .ret) .skip)) (.seq (rN r173_3) .ret)))
theorem o173:FnI 173 12 Tryz.f173 c173 [(.cell 4 53)]:=⟨Tryz.func173,by kernel_rfl⟩
def r174_0:RL:=[oP 2 (.mov (.k (.vec [] 0 (some 0))))]
def r174_1:RL:=[mV 3 0,oP 4 (.conv .u32 (.t 3)),mV 5 0,oP 6 (.bin .shr (.t 5) (.k (.int .u64 32))),oP 7 (.conv .u32 (.t 6)),oP 8 (.bsl 2 1 [(.int .u32 0),(.int .u32 0)] [(0,(1,(.t 4))),(1,(1,(.t 7)))]),cL 9 178 [.t 8],mV 2 9]
def c174:CC:=(.seq (rN r174_0) (.seq (rN r174_1) .ret))
theorem o174:FnI 174 10 Tryz.f174 c174 [(.tmp 2)]:=⟨Tryz.func174,by kernel_rfl⟩
def r178_0:RL:=[oP 2 (.mov (.k (.vec [] 0 (some 0))))]
def r178_1:RL:=[mV 3 0,lN 4 3,bK 5 .gtr 4 0,mV 6 5,gU 7 6 true (.mov (.t 0)),gU 8 6 true (.mov (.t 0)),gU 9 6 true (.len false (.t 8)),gU 10 6 true (.bin .sub (.t 9) (kI 1)),gU 11 6 true (.idx 1 (.t 7) (.t 10)),gU 12 6 true (.load false 1 (.t 11)),gU 13 6 true (.bin .eql (.t 12) (.k (.int .u32 0))),oP 14 (.pick (.t 6) (.t 13) (.k (.bool false)))]
def r178_2:RL:=[mV 15 0,mV 16 0,lN 17 16,bK 18 .sub 17 1,oP 19 (.slice 1 (.t 15) none (some (.t 18)) none),mV 0 19]
def l178_0:CC:=(.seq (.seq (rN r178_1) (.cond (.t 14) .skip (.exit 0))) (.block 1 (rN r178_2)))
def r178_3:RL:=[mV 20 0,mV 2 20]
def c178:CC:=(.seq (rN r178_0) (.seq (.block 0 (.loop l178_0)) (.seq (rN r178_3) .ret)))
theorem o178:FnI 178 21 Tryz.f178 c178 [(.tmp 2)]:=⟨Tryz.func178,by kernel_rfl⟩
def r201_0:RL:=[oP 4 (.mov (kI 0))]
def r201_1:RL:=[oP 5 (.mov (kI 0))]
def r201_2:RL:=[mV 8 0,lN 9 8,oP 10 (.mov (kI 0))]
def r201_3:RL:=[bT 11 .lss 10 9]
def r201_4:RL:=[mV 12 10,iX 13 1 8 10,ldO 14 false 1 13,mV 6 12,mV 7 14]
def r201_5:RL:=[mV 15 5,mV 16 7,mV 17 1,mV 18 6,iX 19 1 17 18,ldO 20 false 1 19,bT 21 .mul 16 20,bT 22 .add 15 21,mV 5 22]
def r201_6:RL:=[bK 23 .add 10 1,mV 10 23]
def l201_0:CC:=(.seq (rN r201_3) (.seq (.cond (.t 11) .skip (.exit 0)) (.seq (.block 1 (.seq (rN r201_4) (rN r201_5))) (rN r201_6))))
def r201_7:RL:=[mV 24 5,mV 4 24]
def c201:CC:=(.seq (rN r201_0) (.seq (rN r201_1) (.seq (.seq (rN r201_2) (.block 0 (.loop l201_0))) (.seq (rN r201_7) .ret))))
theorem o201:FnI 201 25 Tryz.f201 c201 [(.tmp 4)]:=⟨Tryz.func201,by kernel_rfl⟩
def r202_0:RL:=[oP 2 (.mov (.k (.int .u64 0)))]
def r202_1:RL:=[mV 3 0,mV 4 0,oP 5 (.bin .shr (.t 4) (.k (.int .u64 30))),bT 6 .xor 3 5,oP 7 (.bin .mul (.t 6) (.k (.int .u64 13787848793156543929))),mV 0 7]
def r202_2:RL:=[mV 8 0,mV 9 0,oP 10 (.bin .shr (.t 9) (.k (.int .u64 27))),bT 11 .xor 8 10,oP 12 (.bin .mul (.t 11) (.k (.int .u64 10723151780598845931))),mV 0 12]
def r202_3:RL:=[mV 13 0,mV 14 0,oP 15 (.bin .shr (.t 14) (.k (.int .u64 31))),bT 16 .xor 13 15,mV 2 16]
def c202:CC:=(.seq (rN r202_0) (.seq (rN r202_1) (.seq (rN r202_2) (.seq (rN r202_3) .ret))))
theorem o202:FnI 202 17 Tryz.f202 c202 [(.tmp 2)]:=⟨Tryz.func202,by kernel_rfl⟩
def r203_0:RL:=[oP 4 (.mov (.k (.int .u64 0)))]
def r203_1:RL:=[mV 5 0,mV 6 1,oP 7 (.conv .u64 (.t 6)),oP 8 (.bin .mul (.t 7) (.k (.int .u64 11400714819323198485))),bT 9 .add 5 8,oP 10 (.bin .add (.t 9) (.k (.int .u64 1))),cL 11 202 [.t 10],mV 4 11]
def c203:CC:=(.seq (rN r203_0) (.seq (rN r203_1) .ret))
theorem o203:FnI 203 12 Tryz.f203 c203 [(.tmp 4)]:=⟨Tryz.func203,by kernel_rfl⟩
def r220_0:RL:=[oP 2 (.mov (.k (.int .u64 0)))]
def r220_1:RL:=[oP 3 (.mov (.k (.int .u64 0)))]
def r220_2:RL:=[mV 6 0,lN 7 6,oP 8 (.mov (kI 0))]
def r220_3:RL:=[bT 9 .lss 8 7]
def r220_4:RL:=[mV 10 8,iX 11 1 6 8,ldO 12 false 1 11,mV 4 10,mV 5 12]
def r220_5:RL:=[mV 13 3,mV 14 5,oP 15 (.conv .u64 (.t 14)),mV 16 4,oP 17 (.bin .mul (kI 32) (.t 16)),bT 18 .shl 15 17,bT 19 .or 13 18,mV 3 19]
def r220_6:RL:=[bK 20 .add 8 1,mV 8 20]
def l220_0:CC:=(.seq (rN r220_3) (.seq (.cond (.t 9) .skip (.exit 0)) (.seq (.block 1 (.seq (rN r220_4) (rN r220_5))) (rN r220_6))))
def r220_7:RL:=[mV 21 3,mV 2 21]
def c220:CC:=(.seq (rN r220_0) (.seq (rN r220_1) (.seq (.seq (rN r220_2) (.block 0 (.loop l220_0))) (.seq (rN r220_7) .ret))))
theorem o220:FnI 220 22 Tryz.f220 c220 [(.tmp 2)]:=⟨Tryz.func220,by kernel_rfl⟩
theorem wuq(x:Nat):IntKind.u64.wrap (x:Int)=((x%18446744073709551616:Nat):Int):=by
 simp[IntKind.wrap,IntKind.bits,IntKind.signed]
theorem wuq'{x:Nat}(h:x<18446744073709551616):IntKind.u64.wrap (x:Int)=(x:Int):=by
 rw[wuq,Nat.mod_eq_of_lt h]
theorem wiq(i:Nat)(h:i<1000):IntKind.i64.wrap ((i:Int)+1)=((i+1:Nat):Int):=by
 simp[IntKind.wrap,IntKind.bits,IntKind.signed];omega
noncomputable section
def dotL(xs:List AV):List AV->Int->O:=List.rec (motive:=λ_=>List AV->Int->O) (λ_ s=>some (.int .i64 s,[]))
 (λx _ ih ys s=>List.rec (motive:=λ_=>O) none (λy yr _=>zli x λk a=>zli y λk' b=>zwj k .i64 (zwj k' .i64 (wrK .i64 (mulI a b) λp=>wrK .i64 (addI s p) λs=>ih yr s))) ys) xs
def gDot(args:List AV)(H:Heap):O:=match args with
 | [.vec xs n _,.vec ys m _]=>match H with
  | []=>ifK (Nat.beq n xs.length) (ifK (Nat.beq m n) (ifK (Nat.blt n (nat_lit 1000)) (dotL xs ys (.ofNat (nat_lit 0)))))
  |_=>none
 |_=>none
end
theorem zve{x:AV}{xs ys:List AV}{s:Int}{R:AV×Heap}(h:dotL (x::xs) ys s=some R):∃a b yr,x= .int .i64 a/\ys= .int .i64 b::yr/\dotL xs yr (IntKind.i64.wrap (s+IntKind.i64.wrap (a*b)))=some R:=by
 cases ys with
 |nil=>exact absurd (show(none:O)=some R from h) (by simp)
 |cons y yr=>
  have h:(zli x λk a=>zli y λk' b=>zwj k .i64 (zwj k' .i64 (wrK .i64 (mulI a b) λp=>wrK .i64 (addI s p) λs=>dotL xs yr s)))=some R:=h;obtain⟨k,a,rfl,h1⟩:=zfz h;obtain⟨k',b,rfl,h2⟩:=zfz (v:=y) h1;obtain⟨rfl,h3⟩:=zba h2;obtain⟨rfl,h4⟩:=zba h3;rw[zry,zry,xaa,jzy]at h4;exact⟨a,b,yr,rfl,rfl,h4⟩
theorem qah{xs:List AV}:∀{ys:List AV} {s:Int} {v:AV} {H:Heap},dotL xs ys s=some (v,H)->H=[]:=by
 induction xs with
 |nil=>intro ys s v H h;have h:some ((.int .i64 s:AV),([]:Heap))=some (v,H):=h;simp at h;exact h.2
 |cons x xs ih=>
  intro ys s v H h;obtain⟨_,_,_,_,_,h⟩:=zve h;exact ih h
theorem dotR{xs ys:List AV}{c d:Option Nat}{v:AV}{H1:Heap}(h:dotL xs ys 0=some (v,H1))(hn:xs.length<1000):Rt 201 [.vec xs xs.length c,.vec ys xs.length d] [] v []:=by
 refine oF o201 ?_;simp only[c201,r201_0,r201_1,r201_2,SS,fC,reduceCtorEq,reduceIte,iT,qJ,qX,qZ]
 refine zax (λm E H=>∃k s,k+m=xs.length/\H=[]/\dotL (xs.drop k) (ys.drop k) s=some (v,H1)/\E 1= .vec ys xs.length d/\E 5= .int .i64 s/\E 8= .vec xs xs.length c/\E 9= .int .i64 (xs.length:Nat)/\E 10= .int .i64 (k:Nat)) (n:=xs.length)
  ⟨0,0,by omega,rfl,h,by rfl,by rfl,by rfl,by rfl,by rfl⟩ ?_
 rintro m E H ⟨k,s,hkm,rfl,hs,e1,e5,e8,e9,e10⟩;refine wM ?_;simp only[l201_0,r201_3,SS,fC,reduceCtorEq,reduceIte,iT,qJ,qX,qZ,e9,e10];refine⟨λhlt=>?_,λhge=>?_⟩
 ·obtain⟨m,rfl⟩:∃m',m=m'+1:=⟨m-1,by omega⟩
  have hk:k<xs.length:=by omega
  rw[qH hk]at hs;obtain⟨a,b,yr,hx,hy,hs⟩:=zve hs
  have hky:k<ys.length:=by
   have:=congrArg List.length hy;simp only[List.length_drop,List.length_cons]at this;omega
  rw[qH hky]at hy;obtain⟨hb,hr⟩:=List.cons.inj hy;subst hr;have g1:xs.getD k AV.junk= .int .i64 a:=by rw[qD,qI hk];exact hx
  have g2:ys.getD k AV.junk= .int .i64 b:=by rw[qD,qI hky];exact hb
  have w5:=wiq k (by omega);simp only[r201_4,r201_5,SS,fC,reduceCtorEq,reduceIte,iT,qJ,qX,qZ,e1,e5,e8,e10,Int.toNat_natCast,g1,g2];refine⟨⟨by omega,by omega⟩,by omega,⟨by omega,by omega⟩,by omega,?_⟩;simp only[r201_6,SS,fC,reduceCtorEq,reduceIte,iT,qJ,qX,qZ,e10,w5];refine⟨m,_,_,by omega,⟨k+1,_,by omega,rfl,hs,?_,?_,?_,?_,?_⟩,.refl⟩
  all_goals simp only[UU,qX,reduceIte, *]
 ·have hkr:k=xs.length:=by omega
  subst hkr;rw[List.drop_length]at hs;have hs:some ((.int .i64 s:AV),([]:Heap))=some (v,H1):=hs;obtain⟨rfl,_⟩:AV.int .i64 s=v/\([]:Heap)=H1:=by simpa using hs
  simp only[r201_7,SS,fC,reduceCtorEq,reduceIte,iT,qJ,qX,qZ,e5];exact kR
theorem wU(a:Int):∃m:Nat,m<18446744073709551616/\IntKind.u64.wrap a=(m:Int):=by
 refine⟨(a%18446744073709551616).toNat,by omega,?_⟩;simp[IntKind.wrap,IntKind.bits,IntKind.signed];omega
theorem xorW{x y:Nat}(hx:x<18446744073709551616)(hy:y<18446744073709551616):IntKind.u64.wrap ((BitVec.ofInt IntKind.u64.bits (x:Int) ^^^ BitVec.ofInt IntKind.u64.bits (y:Int)).toNat:Int)=((Nat.xor x y:Nat):Int):=by
 have e:∀z:Nat,z<18446744073709551616->(BitVec.ofInt 64 (z:Int)).toNat=z:=by
  intro z hz;rw[BitVec.toNat_ofInt];omega
 show IntKind.u64.wrap ((BitVec.ofInt 64 (x:Int) ^^^ BitVec.ofInt 64 (y:Int)).toNat:Int)=_
 rw[BitVec.toNat_xor,e x hx,e y hy];exact wuq' (Nat.xor_lt_two_pow (n:=64) hx hy)
theorem bXor{x y:Nat}(hx:x<18446744073709551616)(hy:y<18446744073709551616):binA .xor (.int .u64 (x:Int)) (.int .u64 (y:Int))=some (.int .u64 ((Nat.xor x y:Nat):Int)):=by
 simp only[binA,need];rw[<-xorW hx hy];simp
theorem sh30(x:Nat):Int.fdiv (x:Int) (2^min (Int.toNat 30) IntKind.u64.bits)=((Nat.div x 1073741824:Nat):Int):=by
 show Int.fdiv (x:Int) 1073741824=((x/1073741824:Nat):Int)
 rw[qU _ (by decide)];omega
theorem sh27(x:Nat):Int.fdiv (x:Int) (2^min (Int.toNat 27) IntKind.u64.bits)=((Nat.div x 134217728:Nat):Int):=by
 show Int.fdiv (x:Int) 134217728=((x/134217728:Nat):Int)
 rw[qU _ (by decide)];omega
theorem sh31(x:Nat):Int.fdiv (x:Int) (2^min (Int.toNat 31) IntKind.u64.bits)=((Nat.div x 2147483648:Nat):Int):=by
 show Int.fdiv (x:Int) 2147483648=((x/2147483648:Nat):Int)
 rw[qU _ (by decide)];omega
theorem wX(x c:Nat):IntKind.u64.wrap ((x:Int)*(c:Int))=((Nat.mod (Nat.mul x c) 18446744073709551616:Nat):Int):=by
 rw[<-Int.natCast_mul];exact wuq _
theorem wMa(x:Nat):IntKind.u64.wrap ((x:Int)*13787848793156543929)=((Nat.mod (Nat.mul x 13787848793156543929) 18446744073709551616:Nat):Int):=wX x _
theorem wMb(x:Nat):IntKind.u64.wrap ((x:Int)*10723151780598845931)=((Nat.mod (Nat.mul x 10723151780598845931) 18446744073709551616:Nat):Int):=wX x _
theorem divL{x c:Nat}(hx:x<18446744073709551616):Nat.div x c<18446744073709551616:=Nat.lt_of_le_of_lt (Nat.div_le_self x c) hx
theorem modL{x:Nat}:Nat.mod x 18446744073709551616<18446744073709551616:=Nat.mod_lt _ (by decide)
noncomputable section
def mixA(n:Nat):Nat:=Nat.mod (Nat.mul (Nat.xor n (Nat.div n (nat_lit 1073741824))) (nat_lit 13787848793156543929)) (nat_lit 18446744073709551616)
def mixB(n:Nat):Nat:=Nat.mod (Nat.mul (Nat.xor n (Nat.div n (nat_lit 134217728))) (nat_lit 10723151780598845931)) (nat_lit 18446744073709551616)
def mixC(n:Nat):Nat:=Nat.xor n (Nat.div n (nat_lit 2147483648))
end
theorem mixR(n:Nat)(hn:n<18446744073709551616):Rt 202 [.int .u64 n] [] (.int .u64 (mixC (mixB (mixA n)):Nat)) []:=by
 have ha:mixA n<18446744073709551616:=modL;have hb:mixB (mixA n)<18446744073709551616:=modL;refine oF o202 ?_;simp only[c202,r202_0,r202_1,SS,fC,reduceCtorEq,reduceIte,iT,qJ,qX,qZ,sh30];refine⟨by decide,?_⟩;simp only[bXor hn (divL hn),SS,fC,reduceCtorEq,reduceIte,iT,qJ,qX,qZ,wMa];simp only[r202_2,SS,fC,reduceCtorEq,reduceIte,iT,qJ,qX,qZ,sh27];refine⟨by decide,?_⟩;simp only[bXor modL (divL modL),SS,fC,reduceCtorEq,reduceIte,iT,qJ,qX,qZ,wMb];simp only[r202_3,SS,fC,reduceCtorEq,reduceIte,iT,qJ,qX,qZ,sh31];refine⟨by decide,?_⟩;simp only[bXor modL (divL modL),SS,fC,reduceCtorEq,reduceIte,iT,qJ,qX,qZ];exact kR
theorem qbo(n m:Nat)(z:Int)(hm:m<18446744073709551616)(e:IntKind.u64.wrap (IntKind.u64.wrap ((n:Int)+IntKind.u64.wrap (IntKind.u64.wrap z*11400714819323198485))+1)=(m:Int)):Rt 203 [.int .u64 n,.int .i64 z] [] (.int .u64 (mixC (mixB (mixA m)):Nat)) []:=by
 refine oF o203 ?_;simp only[c203,r203_0,r203_1,SS,fC,reduceCtorEq,reduceIte,iT,qJ,qX,qZ,e];refine zaa (mixR m hm) ?_;simp only[SS,fC,reduceCtorEq,reduceIte,iT,qJ,qX,qZ];exact kR
noncomputable section
def mixK(n:Nat):O:=natK (mixA n) λn=>natK (mixB n) λn=>natK (mixC n) λn=>some (.int .u64 (.ofNat n),[])
def natZ(z:Int)(k:Nat->O):O:=Int.rec (motive:=λ_=>(Nat->O)->O) (λm k=>k m) (λ_ _=>none) z k
def zyd(args:List AV)(H:Heap):O:=match args with
 | [a,b]=>match H with
  | []=>zli a λk x=>zli b λk' z=>zwj k .u64 (zwj k' .i64 (natZ x λn=>wrK .u64 z λu=>wrK .u64 (mulI u (.ofNat (nat_lit 11400714819323198485))) λp=>wrK .u64 (addI (.ofNat n) p) λq=>wrK .u64 (addI q (.ofNat (nat_lit 1))) λr=>natZ r mixK))
  |_=>none
 |_=>none
end
theorem zye{z:Int}{k:Nat->O}{R:AV×Heap}(h:natZ z k=some R):∃n:Nat,z=(n:Int)/\k n=some R:=by
 cases z with
 |ofNat n=>exact⟨n,rfl,h⟩
 |negSucc n=>exact absurd (show(none:O)=some R from h) (by simp)
theorem zvh:EOT Tryz.prog G okB 203 (.known zyd):=by
 intro args H v H' h;unfold zyd at h;split at h
 ·rename_i a b;split at h
  ·obtain⟨k,x,rfl,h1⟩:=zfz h;obtain⟨k',z,rfl,h2⟩:=zfz (v:=b) h1;obtain⟨rfl,h3⟩:=zba h2;obtain⟨rfl,h4⟩:=zba h3;obtain⟨n,rfl,h5⟩:=zye h4;rw[zry,zry,zry,zry,xaa,jzy,jzy]at h5;obtain⟨m,hm,h6⟩:=zye h5
   have hm':m<18446744073709551616:=by
    obtain⟨q,hq,e⟩:=wU (IntKind.u64.wrap ((n:Int)+IntKind.u64.wrap (IntKind.u64.wrap z*11400714819323198485))+1);have:(q:Int)=(m:Int):=e.symm.trans hm;omega
   unfold mixK at h6;rw[zbf,zbf,zbf]at h6;simp only[qC,Prod.mk.injEq]at h6;obtain⟨rfl,rfl⟩:=h6;exact qbo n m z hm' hm
  ·simp at h
 ·simp at h
theorem qbi:EOT Tryz.prog G okB 201 (.known gDot):=by
 intro args H v H' h;unfold gDot at h;split at h
 ·rename_i xs n c ys m d;split at h
  ·obtain⟨h1,h4⟩:=zan h;obtain⟨h2,h5⟩:=zan h4;obtain⟨h3,h6⟩:=zan h5;have e1:=qL h1;have e2:=qL h2;subst e2;subst e1;have hl:xs.length<1000:=Nat.le_of_ble_eq_true h3;have eh:H'=[]:=qah h6;subst eh;exact dotR h6 hl
  ·simp at h
 ·simp at h
theorem n1:((1:Nat):Int)=1:=rfl
theorem n2:((2:Nat):Int)=2:=rfl
theorem wi0:IntKind.i64.wrap 0=0:=rfl
theorem wi1:IntKind.i64.wrap 1=1:=rfl
theorem wim1:IntKind.i64.wrap (-1)= -1:=rfl
theorem tn0:Int.toNat 0=0:=rfl
theorem tn1:Int.toNat 1=1:=rfl
theorem le0:((0:Int)<=0)=True:=eq_true (by decide)
theorem lt01:((0:Int)<1)=True:=eq_true (by decide)
theorem lt12:((1:Int)<2)=True:=eq_true (by decide)
theorem ne0{x:Nat}(h:x≠0):decide ((x:Int)=0)=false:=by simp;omega
theorem qzr(c:Option Nat):Rt 178 [.vec [] 0 c] [] (.vec [] 0 c) []:=by
 refine oF o178 ?_;simp only[c178,r178_0,SS,reduceCtorEq];refine W_un zxa 1 (qnz ?_);simp only[l178_0,r178_1,qV,SS,fC,reduceCtorEq,reduceIte,qX,qZ,decide_false,qB,qA,qY,qN,qE,wim1];simp only[r178_3,SS,reduceCtorEq,reduceIte,qX];exact kR
theorem qzt(x:Nat)(c:Option Nat)(hx:x≠0):Rt 178 [.vec [.int .u32 x] 1 c] [] (.vec [.int .u32 x] 1 c) []:=by
 have h0:=ne0 hx;refine oF o178 ?_;simp only[c178,r178_0,SS,reduceCtorEq];refine W_un zxa 1 (qnz ?_);simp only[l178_0,r178_1,qK,qV,h0,SS,fC,reduceCtorEq,reduceIte,qX,qZ,decide_true,qY,n1,wi0,tn0,le0,lt01];simp only[r178_3,SS,reduceCtorEq,reduceIte,qX];exact kR
theorem qzn(x:Nat)(k:Option Nat)(hx:x≠0):Rt 178 [.sl 0 0 1 1 k] [some [.int .u32 x]] (.sl 0 0 1 1 k) [some [.int .u32 x]]:=by
 have h0:=ne0 hx;refine oF o178 ?_;simp only[c178,r178_0,qK,SS,reduceCtorEq];refine W_un zxa 1 (qnz ?_);simp only[l178_0,r178_1,qK,qV,h0,SS,fC,reduceCtorEq,reduceIte,qX,qZ,decide_true,qY,n1,wi0,tn0,le0,lt01];simp only[r178_3,SS,reduceCtorEq,reduceIte,qX];exact kR
theorem qzi(k:Nat):Rt 178 [.sl 0 0 1 1 (some k)] [some [.int .u32 0]] (.vec [] 0 (some k)) [some [.int .u32 0]]:=by
 refine oF o178 ?_;simp only[c178,r178_0,qK,SS,reduceCtorEq];refine W_un zxa 2 (qnz ?_);simp only[l178_0,r178_1,r178_2,qK,qV,SS,fC,reduceCtorEq,reduceIte,qX,qZ,decide_true,qY,qG,n1,wi0,tn0,le0,lt01];refine qnz ?_;simp only[qW,qV,List.drop_zero,SS,fC,reduceCtorEq,reduceIte,qX,qZ,decide_false,qB,qA,qY,qN,qE,wim1];simp only[r178_3,qW,SS,reduceCtorEq,reduceIte,qX];exact kR
theorem qzo(x y:Nat)(k:Option Nat)(hy:y≠0):Rt 178 [.sl 0 0 2 1 k] [some [.int .u32 x,.int .u32 y]] (.sl 0 0 2 1 k) [some [.int .u32 x,.int .u32 y]]:=by
 have h0:=ne0 hy;refine oF o178 ?_;simp only[c178,r178_0,qK,SS,reduceCtorEq];refine W_un zxa 1 (qnz ?_);simp only[l178_0,r178_1,qK,qV,h0,SS,fC,reduceCtorEq,reduceIte,qJ,qX,qZ,decide_true,qB,qA,qY,n2,wi1,tn1,lt12];simp only[r178_3,SS,reduceCtorEq,reduceIte,qX];exact kR
theorem qru(x:Nat)(k:Nat)(hx:x≠0):Rt 178 [.sl 0 0 2 1 (some k)] [some [.int .u32 x,.int .u32 0]] (.sl 0 0 1 1 (some k)) [some [.int .u32 x,.int .u32 0]]:=by
 have h0:=ne0 hx;refine oF o178 ?_;simp only[c178,r178_0,qK,SS,reduceCtorEq];refine W_un zxa 2 (qnz ?_);simp only[l178_0,r178_1,r178_2,qK,qV,SS,fC,reduceCtorEq,reduceIte,qJ,qX,qZ,decide_true,qB,qA,qY,qG,n2,wi1,tn1,lt12];refine qnz ?_;simp only[qK,qW,qV,h0,SS,fC,reduceCtorEq,reduceIte,qJ,qX,qZ,decide_true,qY,qG,n1,wi0,tn0,le0,lt01];simp only[r178_3,qW,SS,reduceCtorEq,reduceIte,qX];exact kR
theorem qrs(k:Nat):Rt 178 [.sl 0 0 2 1 (some k)] [some [.int .u32 0,.int .u32 0]] (.vec [] 0 (some k)) [some [.int .u32 0,.int .u32 0]]:=by
 refine oF o178 ?_;simp only[c178,r178_0,qK,SS,reduceCtorEq];refine W_un zxa 3 (qnz ?_);simp only[l178_0,r178_1,r178_2,qK,qV,SS,fC,reduceCtorEq,reduceIte,qJ,qX,qZ,decide_true,qB,qA,qY,qG,n2,wi1,tn1,lt12];refine qnz ?_;simp only[qK,qW,qV,SS,fC,reduceCtorEq,reduceIte,qJ,qX,qZ,decide_true,qY,qG,n1,wi0,tn0,le0,lt01];refine qnz ?_;simp only[qW,qV,List.drop_zero,SS,fC,reduceCtorEq,reduceIte,qX,qZ,decide_false,qB,qA,qY,qN,qE,wim1];simp only[r178_3,qW,SS,reduceCtorEq,reduceIte,qX];exact kR
theorem qzu(c:Option Nat):Rt 220 [.vec [] 0 c] [] (.int .u64 0) []:=by
 refine oF o220 ?_;simp only[c220,r220_0,r220_1,r220_2,SS,reduceCtorEq,reduceIte,qE];refine W_un zxa 1 (qnz ?_);simp only[l220_0,r220_3,SS,fC,reduceCtorEq,reduceIte,qX,decide_false,qB];simp only[r220_7,SS,reduceIte,qX];exact kR
theorem qzv(x:Nat)(c:Option Nat)(hx:x<4294967296):Rt 220 [.vec [.int .u32 x] 1 c] [] (.int .u64 x) []:=by
 have w1:IntKind.u64.wrap (x:Int)=x:=qzf (by omega);have w2:IntKind.u64.wrap ((BitVec.ofInt IntKind.u64.bits 0 ||| BitVec.ofInt IntKind.u64.bits (x:Int)).toNat:Int)=x:=qoa (x:=x) (by omega);refine oF o220 ?_;simp only[c220,r220_0,r220_1,r220_2,SS,reduceCtorEq,reduceIte,n1];refine W_un zxa 2 (qnz ?_);simp only[l220_0,r220_3,SS,fC,reduceCtorEq,reduceIte,qX,decide_true,lt01];simp only[r220_4,r220_5,qK,qV,w1,Nat.zero_min,Int.pow_zero,Int.mul_one,w2,SS,fC,reduceIte,qX,qZ,Int.reduceMul,n1,wi0,tn0,le0,lt01];simp only[r220_6,SS,reduceIte,qX,Int.reduceAdd,wi1];refine qnz ?_;simp only[qK,qV,SS,fC,reduceCtorEq,reduceIte,qJ,qX,qZ,decide_false,qB,qA,n1,tn1];simp only[r220_7,SS,reduceIte,qX];exact kR
theorem qzp(s:Bool)(cs:List AV)(c:Option Nat):Rt 173 [.bool s,.vec cs 0 c] [] (.agg [.bool false,.vec [] 0 (some 0)]) []:=by
 refine oF o173 ?_;simp only[c173,r173_0,r173_1,r173_2,qK,SS,fC,reduceCtorEq,reduceIte,qJ,qX,qZ,decide_true,qE];exact dR
theorem qzq(s:Bool)(l:List AV)(c:Option Nat):Rt 173 [.bool s,.vec l 1 c] [] (.agg [.bool s,.vec l 1 c]) []:=by
 refine oF o173 ?_;simp only[c173,r173_0,r173_1,r173_3,qK,SS,fC,reduceCtorEq,reduceIte,qJ,qX,qZ,decide_false,Int.reduceEq,n1];exact dR
theorem qrv:Rt 174 [.int .u64 0] [] (.vec [] 0 (some 2)) []:=by
 have w1:IntKind.u32.wrap 0=0:=rfl;have w2:Int.fdiv 0 (2^min (Int.toNat 32) IntKind.u64.bits)=0:=rfl;refine oF o174 ?_;simp only[c174,r174_0,r174_1,qK,qV,w1,w2,SS,reduceCtorEq,reduceIte,qJ,qX,qZ,qA];refine callA_one (qrs 2) rfl rfl ?_;simp only[zcy,zaf,qM,qS,qK,SS,reduceIte,qX];exact⟨.inl trivial,_,rfl,.freeze 3 _ _ _ rfl (by intro i cs h;omega)⟩
theorem qrw(x:Nat)(hx:x≠0)(hx':x<4294967296):Rt 174 [.int .u64 x] [] (.vec [.int .u32 x] 1 (some 2)) []:=by
 have w1:IntKind.u32.wrap (x:Int)=x:=qob hx';have w3:IntKind.u32.wrap 0=0:=rfl
 have w2:Int.fdiv (x:Int) (2^min (Int.toNat 32) IntKind.u64.bits)=0:=by
  show Int.fdiv (x:Int) 4294967296=0
  rw[qU _ (by decide)];omega
 refine oF o174 ?_;simp only[c174,r174_0,r174_1,qK,qV,w1,w2,w3,SS,reduceCtorEq,reduceIte,qJ,qX,qZ,qA];refine callA_one (qru x 2 hx) rfl rfl ?_;simp only[zcy,zaf,qM,qS,qK,SS,reduceIte,qX];exact⟨.inl trivial,_,rfl,.freeze 3 _ _ _ rfl (by intro i cs h;omega)⟩
def qzg(x:Nat)(y:Nat)(k:Option Nat):O:=match y with
 |y+1=>some (.sl 0 0 2 1 k,[some [.int .u32 (.ofNat x),.int .u32 (.ofNat (y+1))]])
 |0=>match k with
  |some k=>match x with
   |x+1=>some (.sl 0 0 1 1 (some k),[some [.int .u32 (.ofNat (x+1)),.int .u32 (.ofNat 0)]])
   |0=>some (.vec [] 0 (some k),[some [.int .u32 (.ofNat 0),.int .u32 (.ofNat 0)]])
  |none=>none
def qzh(x:Nat)(k:Option Nat):O:=match x with
 |x+1=>some (.sl 0 0 1 1 k,[some [.int .u32 (.ofNat (x+1))]])
 |0=>match k with
  |some k=>some (.vec [] 0 (some k),[some [.int .u32 (.ofNat 0)]])
  |none=>none
def qzj(args:List AV)(H:Heap):O:=match args,H with
 | [.vec cs n c],[]=>match n,cs with
  |0,[]=>some (.vec [] 0 c,[])
  |1,[.int .u32 (.ofNat (x+1))]=>some (.vec [.int .u32 (.ofNat (x+1))] 1 c,[])
  |_,_=>none
 | [.sl id off n sz k],[some cs]=>match id,off,sz,n,cs with
  |0,0,1,1,[.int .u32 (.ofNat x)]=>qzh x k
  |0,0,1,2,[.int .u32 (.ofNat x),.int .u32 (.ofNat y)]=>qzg x y k
  |_,_,_,_,_=>none
 |_,_=>none
theorem qzd:EOT Tryz.prog G okB 178 (.known qzj):=by
 intro args H v H' h;unfold qzj at h;split at h
 ·split at h
  ·cases h;exact qzr _
  ·cases h;exact qzt _ _ (qW _)
  ·simp at h
 ·split at h
  ·unfold qzh at h;split at h
   ·cases h;exact qzn _ _ (qW _)
   ·split at h
    ·cases h;exact qzi _
    ·simp at h
  ·unfold qzg at h;split at h
   ·cases h;exact qzo _ _ _ (qW _)
   ·split at h
    ·split at h
     ·cases h;exact qru _ _ (qW _)
     ·cases h;exact qrs _
    ·simp at h
  ·simp at h
 ·simp at h
def qzk(args:List AV)(H:Heap):O:=match args,H with
 | [.vec cs n _],[]=>match n,cs with
  |0,[]=>some (.int .u64 (.ofNat 0),[])
  |1,[.int .u32 (.ofNat x)]=>if x<4294967296 then some (.int .u64 (.ofNat x),[])else none
  |_,_=>none
 |_,_=>none
theorem qze:EOT Tryz.prog G okB 220 (.known qzk):=by
 intro args H v H' h;unfold qzk at h;split at h
 ·split at h
  ·cases h;exact qzu _
  ·split at h
   ·rename_i hx;cases h;exact qzv _ _ hx
   ·simp at h
  ·simp at h
 ·simp at h
def qry(args:List AV)(H:Heap):O:=match args,H with
 | [.bool s,.vec cs n c],[]=>match n with
  |0=>some (.agg [.bool false,.vec [] 0 (some 0)],[])
  |1=>some (.agg [.bool s,.vec cs 1 c],[])
  |_=>none
 |_,_=>none
theorem qsh:EOT Tryz.prog G okB 173 (.known qry):=by
 intro args H v H' h;unfold qry at h;split at h
 ·split at h
  ·cases h;exact qzp _ _ _
  ·cases h;exact qzq _ _ _
  ·simp at h
 ·simp at h
def qrj(args:List AV)(H:Heap):O:=match args,H with
 | [.int .u64 (.ofNat x)],[]=>match x with
  |0=>some (.vec [] 0 (some 2),[])
  |x+1=>if x+1<4294967296 then some (.vec [.int .u32 (.ofNat (x+1))] 1 (some 2),[])else none
 |_,_=>none
theorem qrk:EOT Tryz.prog G okB 174 (.known qrj):=by
 intro args H v H' h;unfold qrj at h;split at h
 ·split at h
  ·cases h;exact qrv
  ·split at h
   ·rename_i hx;cases h;exact qrw _ (qW _) hx
   ·simp at h
 ·simp at h
section
variable{P:Program}{Γ:Glob}{ok:FuncId->Bool}
theorem qrt{e:Ent}{f:FuncId}{cl:FR}(hsz:P.funcs[4095]?=none)(hok:∀f,ok f=true->okFn P f=true)(hm:P.follows .mixedOrders=true)(hE:EOT P Γ ok f e)(ih:zzs P Γ (frun cl))
  {args:List AV} {H:Heap} {v:AV} {H':Heap} (h:entK e cl args H=some (v,H')):Ret P Γ f args H v H':=by
 cases e with
 |no=>exact absurd (show(none:O)=some (v,H')from h) (by simp)
 |known g=>exact hE _ _ _ _ h
 |own g=>exact hE _ ih _ _ _ _ h
 |code t nt rs keep=>
  obtain⟨fn,c,rs0,md,hfn,hc,hnt,hrs,rfl,rfl⟩:=hE;obtain⟨hle,h⟩:=zan (show ifK (Nat.ble args.length nt) (lenK H λn0=>argE zwt args zqd λE=>tr ok md c cl n0 (finK n0 keep (rs0.map trR)) (λx E H=>endX x (finK n0 keep (rs0.map trR) E H)) E H)=some (v,H')from h);rw[Nat.ble_eq]at hle;rw[zet]at h;obtain⟨_,E,hE1,h⟩:=qdd args 0 zqd (by omega) (by simpa using h)
  have hEe:E.env=zig args:=by
   funext t;rw[hE1];simp only[qK,qP,true_and,Nat.sub_zero,zig];split
   ·rfl
   ·rename_i hh;rw[zqe];simp only[qD,List.getElem?_eq_none (Nat.le_of_not_lt hh),Option.getD_none]
  obtain⟨x,E',H1,h1,h2⟩:=zoc (Γ:=Γ) hok hm md c _ _ _ _ _ _ _ ih h
  have hend:(x= .ret\/x= .normal)/\finK H.length keep (rs0.map trR) E' H1=some (v,H'):=by
   cases x with
   |normal=>exact⟨.inr rfl,h1⟩
   |ret=>exact⟨.inl rfl,h1⟩
   |_=>exact absurd (show(none:O)=some (v,H')from h1) (by simp)
  have hfx:=qdc hend.2;cases hr:resB rs0 E'.env H1 with
  |none=>rw[hr]at hfx;simp[FinP]at hfx
  |some v1=>
   rw[hr]at hfx;obtain⟨hfin,hlen⟩:=zsd hfx;cases hb:fn.body with
   |none=>rw[hb]at hc;simp at hc
   |some code=>
    rw[hb]at hc;refine zld hfn hb hc (by rw[hnt];exact hle) hlen (λe=>by rw[e,hsz]at hfn;simp at hfn) ?_;rw[<-hEe];refine h2 _ _ ⟨hend.1,v1,?_,hfin⟩;unfold resA;rw[qlk _ _ hrs];exact hr
noncomputable def orO(x y:O):O:=Option.rec (motive:=λ_=>O) y (λr=>some r) x
noncomputable def orE(g:List AV->Heap->O)(e:Ent):Ent:= .own (λc args H=>orO (g args H) (entK e c args H))
theorem qrl{f:FuncId}{g:List AV->Heap->O}{e:Ent}(hsz:P.funcs[4095]?=none)(hok:∀f,ok f=true->okFn P f=true)(hm:P.follows .mixedOrders=true)(hg:EOT P Γ ok f (.known g))(hE:EOT P Γ ok f e):EOT P Γ ok f (orE g e):=by
 intro c hc args H v H' h;have h:orO (g args H) (entK e c args H)=some (v,H'):=h;cases hx:g args H with
 |some r=>rw[hx]at h;exact hg _ _ _ _ (hx.trans h)
 |none=>rw[hx]at h;exact qrt hsz hok hm hE hc h
end
end Go.Proofs.YtbjdfanphdfkdaaGreatDoor
namespace Go.Proofs.YtbjdfanphdfkdaaGreatDoor
open Go Go.AL Go.Proofs
noncomputable section
def J(n:Nat):AV:= .int .i64 (.ofNat n)
def zo(n:Nat):AV:= .int .i64 (match Nat.ble (nat_lit 16) n with
 |true=> .ofNat (Nat.sub n (nat_lit 16))
 |false=> .negSucc (Nat.sub (nat_lit 15) n))
def rwV(l:List AV):AV:= .vec l l.length (some l.length)
def mV(n:Nat):AV:=match Nat.beq (n%64) (nat_lit 0)with
 |false=>rwV [rwV [J (n/134217728),zo (n/4194304%32),zo (n/131072%32)],rwV [zo (n/4194304%32),J (n/2048%64),zo (n/64%32)],rwV [zo (n/131072%32),zo (n/64%32),J (n%64)]]
 |true=>match Nat.beq (n/2048%64) (nat_lit 0)with
  |false=>rwV [rwV [J (n/134217728),zo (n/4194304%32)],rwV [zo (n/4194304%32),J (n/2048%64)]]
  |true=>rwV [rwV [J (n/134217728)]]
def nI(v:AV):Nat:=match v with
 |.int _ z=>match z with
  |.ofNat n=>n
  |.negSucc _=>0
 |_=>0
def nO(v:AV):Nat:=match v with
 |.int _ z=>match z with
  |.ofNat n=>Nat.add n (nat_lit 16)
  |.negSucc n=>Nat.sub (nat_lit 15) n
 |_=>0
def cdM(l:List AV):Nat:=match l with
 | [.vec rs _ _]=>match rs with
  | [.vec [a] _ _]=>Nat.add (Nat.mul (nI a) (nat_lit 134217728)) (nat_lit 69207040)
  | [.vec [a,t] _ _,.vec [_,b] _ _]=>Nat.add (Nat.mul (nI a) (nat_lit 134217728)) (Nat.add (Nat.mul (nO t) (nat_lit 4194304)) (Nat.add (Nat.mul (nI b) (nat_lit 2048)) (nat_lit 2098176)))
  | [.vec [a,t,s] _ _,.vec [_,b,r] _ _,.vec [_,_,c] _ _]=>Nat.add (Nat.mul (nI a) (nat_lit 134217728)) (Nat.add (Nat.mul (nO t) (nat_lit 4194304)) (Nat.add (Nat.mul (nO s) (nat_lit 131072)) (Nat.add (Nat.mul (nI b) (nat_lit 2048)) (Nat.add (Nat.mul (nO r) (nat_lit 64)) (nI c)))))
  |_=>0
 |_=>0
end
noncomputable section
def nN(n:Nat)(k:Nat->Nat):Nat:=Nat.rec (motive:=λ_=>(Nat->Nat)->Nat) (λk=>k (nat_lit 0)) (λp _ k=>k (Nat.succ p)) n k
def iN(z:Int)(k:Int->Nat):Nat:=Int.rec (motive:=λ_=>(Int->Nat)->Nat) (λm k=>nN m λm=>k (.ofNat m)) (λm k=>nN m λm=>k (.negSucc m)) z k
def aN(z:Int):Nat:=Int.rec (motive:=λ_=>Nat) (λm=>m) (λ_=>nat_lit 0) z
def dI(d:Nat):Int:=Bool.rec (motive:=λ_=>Int) (.negSucc (Nat.sub (nat_lit 15) d)) (.ofNat (Nat.sub d (nat_lit 16))) (Nat.ble (nat_lit 16) d)
def eA(n:Nat):Int:= .ofNat (Nat.div n (nat_lit 134217728))
def eT(n:Nat):Int:=dI (Nat.mod (Nat.div n (nat_lit 4194304)) (nat_lit 32))
def eS(n:Nat):Int:=dI (Nat.mod (Nat.div n (nat_lit 131072)) (nat_lit 32))
def eB(n:Nat):Int:= .ofNat (Nat.mod (Nat.div n (nat_lit 2048)) (nat_lit 64))
def eR(n:Nat):Int:=dI (Nat.mod (Nat.div n (nat_lit 64)) (nat_lit 32))
def eC(n:Nat):Int:= .ofNat (Nat.mod n (nat_lit 64))
def d3{α:Type}(n:Nat)(x3 x2 x1:α):α:=Bool.rec (motive:=λ_=>α) x3 (Bool.rec (motive:=λ_=>α) x2 x1 (Nat.beq (Nat.mod (Nat.div n (nat_lit 2048)) (nat_lit 64)) (nat_lit 0))) (Nat.beq (Nat.mod n (nat_lit 64)) (nat_lit 0))
def b2(b:Bool):Nat:=Bool.rec (motive:=λ_=>Nat) (nat_lit 0) (nat_lit 1) b
def bnd(d q:Nat):Nat:=Nat.add (b2 (Nat.ble d q)) (Nat.add (b2 (Nat.ble (Nat.mul (nat_lit 4) d) q)) (Nat.add (b2 (Nat.ble (Nat.mul (nat_lit 9) d) q)) (b2 (Nat.ble (Nat.mul (nat_lit 16) d) q))))
def detZ(n:Nat):Int:=d3 n (addI (subI (mulI (eA n) (subI (mulI (eB n) (eC n)) (mulI (eR n) (eR n)))) (mulI (eT n) (subI (mulI (eT n) (eC n)) (mulI (eR n) (eS n))))) (mulI (eS n) (subI (mulI (eT n) (eR n)) (mulI (eB n) (eS n))))) (subI (mulI (eA n) (eB n)) (mulI (eT n) (eT n))) (eA n)
def detN(n:Nat):Nat:=aN (detZ n)
def ad1(n:Nat):Nat:=aN (d3 n (subI (mulI (eB n) (eC n)) (mulI (eR n) (eR n))) (eB n) (.ofNat (nat_lit 1)))
def ad2(n:Nat):Nat:=aN (d3 n (subI (mulI (eA n) (eC n)) (mulI (eS n) (eS n))) (eA n) (.ofNat (nat_lit 0)))
def ad3(n:Nat):Nat:=aN (d3 n (subI (mulI (eA n) (eB n)) (mulI (eT n) (eT n))) (.ofNat (nat_lit 0)) (.ofNat (nat_lit 0)))
def dn(n:Nat)(f:Nat->Nat->Nat)(K:Nat):Nat:=Nat.rec (motive:=λ_=>Nat->Nat) (λK=>K) (λi ih K=>ih (f i K)) n K
def qbj(n g:Nat):Nat:=
 nN (detN n) λd=>nN (bnd d (Nat.mul g (ad1 n))) λB1=>nN (bnd d (Nat.mul g (ad2 n))) λB2=>nN (bnd d (Nat.mul g (ad3 n))) λB3=>
 iN (eA n) λa=>iN (eT n) λt=>iN (eS n) λs=>iN (eB n) λb=>iN (eR n) λr=>iN (eC n) λc=>
 dn (Nat.succ B1) (λi K=>dn (Nat.succ (Nat.add B2 B2)) (λj K=>
  iN (qgk j B2) λy=>iN (addI (mulI a (.ofNat (Nat.mul i i))) (mulI y (addI (mulI b y) (mulI t (.ofNat (Nat.mul (nat_lit 2) i)))))) λA=>
  iN (addI (mulI s (.ofNat (Nat.mul (nat_lit 2) i))) (mulI r (addI y y))) λB=>
  dn (Nat.succ (Nat.add B3 B3)) (λl K=>iN (qgk l B3) λz=>nN (Nat.add (Nat.mul (Nat.add (Nat.mul (Nat.add i (nat_lit 8)) (nat_lit 16)) (Nat.sub (Nat.add j (nat_lit 8)) B2)) (nat_lit 16)) (Nat.sub (Nat.add l (nat_lit 8)) B3)) λkey=>
   Bool.rec (motive:=λ_=>Nat) K (nN (aN (addI A (mulI z (addI B (mulI c z))))) λv=>Bool.rec (motive:=λ_=>Nat) K (Nat.add (Nat.mul K (nat_lit 65536)) (Nat.add (Nat.mul v (nat_lit 4096)) key)) (Nat.ble v g)) (Nat.blt (nat_lit 2184) key)) K) K) (nat_lit 0)
def dg8(d:Nat)(k:Int->O):O:=Bool.rec (motive:=λ_=>O) (natK (Nat.sub (nat_lit 7) d) λm=>k (.negSucc m)) (natK (Nat.sub d (nat_lit 8)) λm=>k (.ofNat m)) (Nat.ble (nat_lit 8) d)
def pt(key:Nat)(k:Int->Int->Int->O):O:=dg8 (Nat.div key (nat_lit 256)) λx=>dg8 (Nat.mod (Nat.div key (nat_lit 16)) (nat_lit 16)) λy=>dg8 (Nat.mod key (nat_lit 16)) λz=>k x y z
def zJ:AV:= .junk
def zV(x:Int):AV:= .int .i64 x
def vcV(n:Nat)(x y z:Int)(c:Bool):AV:=d3 n (.vec [zV x,zV y,zV z] (nat_lit 3) (Bool.rec (motive:=λ_=>Option Nat) none (some (nat_lit 3)) c)) (.vec [zV x,zV y] (nat_lit 2) (Bool.rec (motive:=λ_=>Option Nat) none (some (nat_lit 2)) c)) (.vec [zV x] (nat_lit 1) (Bool.rec (motive:=λ_=>Option Nat) none (some (nat_lit 1)) c))
def lsV(n v K:Nat)(m:Nat)(l:List AV)(k:Nat->List AV->O):O:=Nat.rec (motive:=λ_=>Nat->(Nat->List AV->O)->O) (λ_ _=>none) (λ_ ih K k=>Bool.rec (motive:=λ_=>O)
 (natK (Nat.mod K (nat_lit 65536)) λq=>ih (Nat.div K (nat_lit 65536)) λm l=>Bool.rec (motive:=λ_=>O) (k m l) (pt (Nat.mod q (nat_lit 4096)) λx y z=>fv (vcV n x y z false) λw=>natK (Nat.succ m) λm=>k m (w::l)) (Nat.beq (Nat.div q (nat_lit 4096)) v))
 (k m l) (Nat.beq K (nat_lit 0))) (nat_lit 40) K k
def lsG(n g K:Nat)(k:Nat->List AV->O):O:=Nat.rec (motive:=λ_=>Nat->List AV->O) (λm l=>k m l) (λv ih m l=>lsV n (Nat.succ v) K m l ih) g (nat_lit 0) []
def gLv(n g:Nat):O:=natK (qbj n g) λK=>lsG n g K λm l=>some (.vec l m (some m),[])
def gVv(n g tot:Nat):O:=natK (qbj n g) λK=>lsG n g K λm l=>some (.tup [.vec l m (some m),J tot,J (nat_lit 0)],[])
def ptD(n:Nat)(x y z:Int)(k:Int->Int->Int->Int->O):O:=
 intK (addI (addI (mulI (eA n) x) (mulI (eT n) y)) (mulI (eS n) z)) λp=>intK (addI (addI (mulI (eT n) x) (mulI (eB n) y)) (mulI (eR n) z)) λq=>intK (addI (addI (mulI (eS n) x) (mulI (eR n) y)) (mulI (eC n) z)) λr=>
 intK (addI (addI (mulI p x) (mulI q y)) (mulI r z)) λv=>k p q r v
def syK(n:Nat)(c:Bool)(key:Nat)(P D N:List AV)(k:List AV->List AV->List AV->O):O:=pt key λx y z=>ptD n x y z λp q r v=>fv (vcV n x y z c) λw=>fv (vcV n p q r true) λu=>k (w::P) (u::D) (zV v::N)
def syA(n K:Nat)(k:List AV->List AV->List AV->O):O:=Nat.rec (motive:=λ_=>Nat->(List AV->List AV->List AV->O)->O) (λ_ _=>none) (λ_ ih K k=>Bool.rec (motive:=λ_=>O)
 (natK (Nat.mod K (nat_lit 4096)) λq=>ih (Nat.div K (nat_lit 65536)) λP D N=>syK n false q P D N k) (k [] [] []) (Nat.beq K (nat_lit 0))) (nat_lit 40) K k
def syB(n K m:Nat)(P D N:List AV)(k:Nat->List AV->List AV->List AV->O):O:=Nat.rec (motive:=λ_=>Nat->Nat->List AV->List AV->List AV->O) (λ_ _ _ _ _=>none) (λ_ ih K m P D N=>Bool.rec (motive:=λ_=>O)
 (natK (Nat.sub (nat_lit 4368) (Nat.mod K (nat_lit 4096))) λq=>syK n true q P D N λP D N=>natK (Nat.add m (nat_lit 2)) λm=>ih (Nat.div K (nat_lit 65536)) m P D N) (k m P D N) (Nat.beq K (nat_lit 0))) (nat_lit 40) K m P D N
def gSv(n g:Nat):O:=natK (qbj n g) λK=>syA n K λP D N=>syB n K (nat_lit 0) P D N λm P D N=>some (.agg [.vec P m none,.vec D m none,.vec N m none,.vec [] (nat_lit 0) (some (nat_lit 0))],[])
abbrev LR3:=List (Nat×Nat×AV)
def hdR(l:LR3):Nat:=List.rec (motive:=λ_=>Nat) (nat_lit 0) (λx _ _=>x.1) l
def rowW(c:Nat)(T:List LR3):Option (Nat×AV):=List.rec (motive:=λ_=>Option (Nat×AV)) none (λl _ ih=>Bool.rec (motive:=λ_=>Option (Nat×AV)) ih (rowL c l) (Nat.ble (hdR l) c)) T
def rA(m h:Nat):Nat×Nat×AV:=(m,h,zJ)
def itL(h:Nat):List Nat:=Nat.rec (motive:=λ_=>Nat->List Nat) (λ_=>[]) (λ_ ih h=>Bool.rec (motive:=λ_=>List Nat) (Nat.mod h (nat_lit 2048)::ih (Nat.div h (nat_lit 2048))) [] (Nat.beq h (nat_lit 0))) (nat_lit 12) h
def iG(i:Nat):Nat:=Nat.mod (Nat.div i (nat_lit 2)) (nat_lit 16)
def iF(i:Nat):Nat:=Bool.rec (motive:=λ_=>Nat) (nat_lit 200000) (nat_lit 1000000) (Nat.beq (Nat.mod i (nat_lit 2)) (nat_lit 1))
def iT(i:Nat):Nat:=Nat.div i (nat_lit 32)
def okO(r e:O):Bool:=match e with
 |some (v,[])=>okV r v
 |_=>false
def gOne(v:AV)(args:List AV)(H:Heap):O:=match args with
 | [f]=>match H with
  | []=>match eqA2 (nat_lit 8) v f with
   |true=>some (.bool true,[])
   |false=>none
  |_=>none
 |_=>none
def x173:Ent:=orE qry e173
def x174:Ent:=orE qrj e174
def x178:Ent:=orE qzj e178
def x201:Ent:=orE gDot e201
def x220:Ent:=orE qzk e220
def run4(x114:Ent)(f:Nat)(a:List AV):O:=frun (exT (TM e9 e22 e57 x114 e115 e117 e119 x173 x174 x178 x201 (.known zyd) x220) (nat_lit 1000)) f a []
def rowI(n i:Nat):Bool:=match okO (run4 (.known (gOne (mV n))) (nat_lit 117) [mV n,J (iG i),J (iF i)]) (gVv n (iG i) (iT i))with
 |true=>match gLv n (iG i)with
  |some (l,[])=>okO (run4 (.known (gOne (mV n))) (nat_lit 119) [mV n,l]) (gSv n (iG i))
  |_=>false
 |false=>false
def allJ(n:Nat)(l:List Nat):Bool:=List.rec (motive:=λ_=>Bool) true (λi _ ih=>Bool.rec (motive:=λ_=>Bool) false ih (rowI n i)) l
def rowR(n h:Nat)(_:AV):Bool:=match okV (run4 e114 (nat_lit 114) [mV n]) (.bool true)with
 |true=>match okV (run4 e114 (nat_lit 115) [mV n]) (J (detN n))with
  |true=>allJ n (itL h)
  |false=>false
 |false=>false
end
def AllW(Q:Nat->Nat->AV->Prop):List LR3->Prop
 | []=>True
 |l::r=>AllL Q l/\AllW Q r
theorem qbg{Q:Nat->Nat->AV->Prop}{c:Nat}{p:Nat×AV}:∀{T:List LR3},AllW Q T->rowW c T=some p->Q c p.1 p.2:=by
 intro T
 induction T with
 |nil=>intro _ h;simp[rowW]at h
 |cons l T ih=>
  intro hq h;have h:(Bool.rec (motive:=λ_=>Option (Nat×AV)) (rowW c T) (rowL c l) (Nat.ble (hdR l) c):Option (Nat×AV))=some p:=h;cases hx:Nat.ble (hdR l) c with
  |false=>rw[hx]at h;exact ih hq.2 h
  |true=>rw[hx]at h;exact xdu hq.1 h
def QI(n i:Nat):Prop:=(∀v,gVv n (iG i) (iT i)=some (v,[])->Rt 117 [mV n,J (iG i),J (iF i)] [] v [])/\∀l s,gLv n (iG i)=some (l,[])->gSv n (iG i)=some (s,[])->Rt 119 [mV n,l] [] s []
def QR(n h:Nat)(_:AV):Prop:=Rt 114 [mV n] [] (.bool true) []/\Rt 115 [mV n] [] (J (detN n)) []/\∀i,i∈itL h->QI n i
theorem qbh{r e:O}{v:AV}(h:okO r e=true)(he:e=some (v,[])):r=some (v,[]):=by
 subst he;exact qes h
theorem qaf{v:AV}(h:Rt 114 [v] [] (.bool true) []):EOT Tryz.prog G okB 114 (.known (gOne v)):=by
 intro args H u H' e;unfold gOne at e;split at e
 ·split at e
  ·split at e
   ·rename_i he;simp only[qC,Prod.mk.injEq]at e;obtain⟨rfl,rfl⟩:=e;rw[<-zpz 8 _ _ he];exact h
   ·simp at e
  ·simp at e
 ·simp at e
theorem qrm:EOT Tryz.prog G okB 173 x173:=qrl (by kernel_rfl) zxb zxa qsh k173
theorem qro:EOT Tryz.prog G okB 174 x174:=qrl (by kernel_rfl) zxb zxa qrk k174
theorem qrp:EOT Tryz.prog G okB 178 x178:=qrl (by kernel_rfl) zxb zxa qzd k178
theorem qrq:EOT Tryz.prog G okB 201 x201:=qrl (by kernel_rfl) zxb zxa qbi k201
theorem qrr:EOT Tryz.prog G okB 220 x220:=qrl (by kernel_rfl) zxb zxa qze k220
theorem zae{x:Ent}(hx:EOT Tryz.prog G okB 114 x){f:Nat}{a:List AV}{v:AV}(h:run4 x f a=some (v,[])):Rt f a [] v []:=runM k9 k22 k57 hx k115 k117 k119 qrm qro qrp qrq zvh qrr h
theorem qbl{n i:Nat}(h1:Rt 114 [mV n] [] (.bool true) [])(h:rowI n i=true):QI n i:=by
 unfold rowI at h;split at h
 ·rename_i h2;split at h
  ·rename_i l hl;refine⟨λv hv=>zae (qaf h1) (qbh h2 hv),λl' s hl' hs=>?_⟩;rw[hl]at hl';simp only[qC,Prod.mk.injEq,and_true]at hl';subst hl';exact zae (qaf h1) (qbh h hs)
  ·simp at h
 ·simp at h
theorem qbm{n:Nat}(h1:Rt 114 [mV n] [] (.bool true) []):∀{l:List Nat},allJ n l=true->∀i,i∈l->QI n i:=by
 intro l
 induction l with
 |nil=>intro _ i hi;simp at hi
 |cons x l ih=>
  intro h;have h:(Bool.rec (motive:=λ_=>Bool) false (allJ n l) (rowI n x):Bool)=true:=h;cases hx:rowI n x with
  |false=>rw[hx]at h;simp at h
  |true=>
   rw[hx]at h;intro i hi;rcases List.mem_cons.1 hi with rfl | hi
   ·exact qbl h1 hx
   ·exact ih h i hi
theorem qR0(n h:Nat)(v:AV)(e:rowR n h v=true):QR n h v:=by
 unfold rowR at e;split at e
 ·rename_i h1;split at e
  ·rename_i h2;have g1:=zae k114 (qes h1);exact⟨g1,zae k114 (qes h2),qbm g1 e⟩
  ·simp at e
 ·simp at e
theorem kerR(l:LR3)(h:allK rowR l=true:=by kernel_rfl):AllL QR l:=qri qR0 h
noncomputable section
def hv(m h:Nat):Nat:=Bool.rec (motive:=λ_=>Nat) h m (Nat.beq h (nat_lit 2))
def run1(f:Nat)(a:List AV):O:=frun (exT (TM e9 e22 e57 e114 e115 e117 e119 x173 x174 x178 x201 (.known zyd) x220) (nat_lit 1000)) f a []
def rowA(m h:Nat)(_:AV):Bool:=Bool.rec (motive:=λ_=>Bool) false
 (Bool.rec (motive:=λ_=>Bool) (okV (run1 (nat_lit 22) [mV m]) (.tup [mV (hv m h),.bool true])) true (Nat.ble h (nat_lit 1)))
 (okV (run1 (nat_lit 57) [mV m]) (.bool (Nat.blt (nat_lit 0) h)))
end
def QA(m h:Nat)(_:AV):Prop:=Rt 57 [mV m] [] (.bool (Nat.blt 0 h)) []/\(Nat.ble h 1=false->Rt 22 [mV m] [] (.tup [mV (hv m h),.bool true]) [])
theorem qzl{f:Nat}{a:List AV}{v:AV}(h:run1 f a=some (v,[])):Rt f a [] v []:=runM k9 k22 k57 k114 k115 k117 k119 qrm qro qrp qrq zvh qrr h
theorem qbp{f:Nat}{a:List AV}{v:AV}(h:okV (run1 f a) v=true):Rt f a [] v []:=qzl (qes h)
theorem qA0(m h:Nat)(v:AV)(e:rowA m h v=true):QA m h v:=by
 unfold rowA at e;cases h1:okV (run1 (nat_lit 57) [mV m]) (.bool (Nat.blt (nat_lit 0) h))with
 |false=>rw[h1]at e;simp at e
 |true=>
  rw[h1]at e;refine⟨qbp h1,λe2=>?_⟩;rw[show Nat.ble h (nat_lit 1)=false from e2]at e;exact qbp e
theorem kerA(l:List (Nat×Nat×AV))(h:allK rowA l=true:=by kernel_rfl):AllL QA l:=qri qA0 h
