/- A part of the proof. -/
import Derived.KernelRfl
import Derived.Test.YtbjdfanphdfkdaaGreatDoorV0
import Derived.Test.YtbjdfanphdfkdaaGreatDoorV1
import Derived.Test.YtbjdfanphdfkdaaGreatDoorV2
import Derived.Test.YtbjdfanphdfkdaaGreatDoorV3
import Derived.Test.YtbjdfanphdfkdaaGreatDoorV4
import Derived.Test.YtbjdfanphdfkdaaGreatDoorPG
set_option linter.all false
set_option maxRecDepth 1000000
open Option.some renaming injEq -> qQ
open Nat renaming reduceEqDiff -> qX, reduceLeDiff -> qZ
open Option renaming bind_some -> qJ
namespace Go.Proofs.YtbjdfanphdfkdaaGreatDoor
open Go Go.AL Go.Proofs
def r263_0:RL:=[oP 2 (.mov (.k (.vec [] 0 (some 0))))]
def r263_1:RL:=[mV 3 0,oP 4 (.snil false (.t 3))]
def r263_2:RL:=[oP 2 (.mov (.k (.vec [] 0 (some 0))))]
def r263_3:RL:=[oP 5 (.bsl 0 1 [] []),mV 6 0,oP 7 (.append 1 4 (.t 5) (.t 6)),mV 2 7]
def c263:CC:=(.seq (rN r263_0) (.seq (.seq (rN r263_1) (.cond (.t 4) (.seq (rN r263_2) .ret) .skip)) (.seq (rN r263_3) .ret)))
theorem o263:FnI 263 8 Tryz.f263 c263 [.tmp 2]:=oM Tryz.func263
theorem kbo(cs:List AV)(c:Option Nat):Rt 263 [.vec cs 0 c] [] (.vec [] 0 (some 0)) []:=by
 refine oF o263 ?_;simp only[c263,r263_0,r263_1,r263_2,r263_3,SS,fC,reduceCtorEq,reduceIte,iT,Nat.reduceAdd,qX,qZ];refine⟨⟨.inl trivial,_,rfl,.keep _ _⟩,?_⟩;simp only[zcd,lenA,zdz,need,qJ,Nat.zero_mul,Nat.le_refl,Nat.zero_le,and_self,if_true,zao,zaf,List.take_zero];exact⟨.inl trivial,_,rfl,.freeze 1 _ _ _ rfl (by intro i cs h;omega)⟩
theorem kbp(cs:List AV)(n:Nat)(c:Option Nat)(h0:0<n)(hn:n<=cs.length)(hb:16*n<=2^48):Rt 263 [.vec cs n c] [] (.sl 1 0 n 1 none) [some [],some (cs.take n)]:=by
 refine oF o263 ?_;simp only[c263,r263_0,r263_1,r263_2,r263_3,SS,fC,reduceCtorEq,reduceIte,iT,Nat.reduceAdd,qX,qZ,show n≠0 by omega,if_false];have e1:n*1<=cs.length:=by omega
 simp only[zcd,lenA,zdz,need,qJ,hn,e1,Nat.le_refl,and_self,if_true,show n≠0 by omega,if_false,getB,List.getElem?_cons_zero,Nat.zero_mul,Nat.zero_le,Nat.zero_add,true_and,show 4*n*4<=2^48 by omega,show n<2^62 by omega,zao,zaf,Nat.mul_one,List.set_cons_succ,List.set_cons_zero,List.take_zero,List.nil_append];exact⟨.inl trivial,_,rfl,.keep _ _⟩
def g263:List AV->Heap->Option (AV×Heap)
 | [.vec cs n _],[]=>match n with
  |0=>some (.vec [] 0 (some 0),[])
  |n+1=>if n+1<=cs.length/\16*(n+1)<=281474976710656 then some (.sl 1 0 (n+1) 1 none,[some [],some (cs.take (n+1))])else none
 |_,_=>none
theorem xdx{args:List AV}{H:Heap}{v:AV}{H':Heap}(h:g263 args H=some (v,H')):Rt 263 args H v H':=by
 unfold g263 at h;split at h
 ·split at h
  ·simp only[qQ,Prod.mk.injEq]at h;obtain⟨rfl,rfl⟩:=h;exact kbo _ _
  ·split at h
   ·rename_i hh;simp only[qQ,Prod.mk.injEq]at h;obtain⟨rfl,rfl⟩:=h;exact kbp _ _ _ (by omega) hh.1 hh.2
   ·simp at h
 ·simp at h
def nR:N16 Ent:=⟨.no,.no,.no,.no,.no,.no,.no,.no,.no,.no,.no,.no,.no,.no,.no,.no⟩
theorem zdf(g:Nat->Nat):nR.All λk e=>EOT Tryz.prog G okB (g k) e:=⟨trivial,trivial,trivial,trivial,trivial,trivial,trivial,trivial,trivial,trivial,trivial,trivial,trivial,trivial,trivial,trivial⟩
def nRR:N16 (N16 Ent):=⟨nR,nR,nR,nR,nR,nR,nR,nR,nR,nR,nR,nR,nR,nR,nR,nR⟩
theorem zha(g:Nat->Nat->Nat):nRR.All λj r=>r.All λk e=>EOT Tryz.prog G okB (g j k) e:=⟨zdf _,zdf _,zdf _,zdf _,zdf _,zdf _,zdf _,zdf _,zdf _,zdf _,zdf _,zdf _,zdf _,zdf _,zdf _,zdf _⟩
noncomputable def wt0:N16 Ent:=⟨.no,.no,.no,.no,.no,.no,e6,e7,e8,.no,.no,e11,e12,e13,e14,.no⟩
theorem kbq:wt0.All λk e=>EOT Tryz.prog G okB (256*0+16*0+k) e:=⟨trivial,trivial,trivial,trivial,trivial,trivial,k6,k7,k8,trivial,trivial,k11,k12,k13,k14,trivial⟩
noncomputable def wt16(x22 x57 x71:Ent):N16 Ent:=⟨e16,.no,e18,e19,e20,e21,x22,e23,e24,.no,e26,e27,e28,e29,e30,e31⟩
theorem xdy{x22 x57 x71:Ent}(h22:EOT Tryz.prog G okB 22 x22)(h57:EOT Tryz.prog G okB 57 x57)(h71:EOT Tryz.prog G okB 71 x71):(wt16 x22 x57 x71).All λk e=>EOT Tryz.prog G okB (256*0+16*1+k) e:=⟨k16,trivial,k18,k19,k20,k21,h22,k23,k24,trivial,k26,k27,k28,k29,k30,k31⟩
noncomputable def wt32:N16 Ent:=⟨e32,e33,e34,e35,e36,.no,.no,.no,.no,.no,.no,.no,.no,.no,.no,e47⟩
theorem xdz:wt32.All λk e=>EOT Tryz.prog G okB (256*0+16*2+k) e:=⟨k32,k33,k34,k35,k36,trivial,trivial,trivial,trivial,trivial,trivial,trivial,trivial,trivial,trivial,k47⟩
noncomputable def wt48(x22 x57 x71:Ent):N16 Ent:=⟨e48,e49,e50,e51,e52,e53,e54,e55,e56,x57,e58,e59,.no,.no,.no,.no⟩
theorem xea{x22 x57 x71:Ent}(h22:EOT Tryz.prog G okB 22 x22)(h57:EOT Tryz.prog G okB 57 x57)(h71:EOT Tryz.prog G okB 71 x71):(wt48 x22 x57 x71).All λk e=>EOT Tryz.prog G okB (256*0+16*3+k) e:=⟨k48,k49,k50,k51,k52,k53,k54,k55,k56,h57,k58,k59,trivial,trivial,trivial,trivial⟩
noncomputable def wt64(x22 x57 x71:Ent):N16 Ent:=⟨.no,e65,e66,e67,e68,e69,e70,x71,e72,e73,e74,e75,e76,e77,e78,e79⟩
theorem xeb{x22 x57 x71:Ent}(h22:EOT Tryz.prog G okB 22 x22)(h57:EOT Tryz.prog G okB 57 x57)(h71:EOT Tryz.prog G okB 71 x71):(wt64 x22 x57 x71).All λk e=>EOT Tryz.prog G okB (256*0+16*4+k) e:=⟨trivial,k65,k66,k67,k68,k69,k70,h71,k72,k73,k74,k75,k76,k77,k78,k79⟩
noncomputable def wt80:N16 Ent:=⟨e80,e81,e82,e83,e84,e85,e86,e87,.no,.no,e90,e91,e92,.no,.no,.no⟩
theorem xec:wt80.All λk e=>EOT Tryz.prog G okB (256*0+16*5+k) e:=⟨k80,k81,k82,k83,k84,k85,k86,k87,trivial,trivial,k90,k91,k92,trivial,trivial,trivial⟩
noncomputable def wt96:N16 Ent:=⟨e96,e97,e98,e99,e100,e101,e102,e103,e104,e105,e106,e107,e108,e109,e110,e111⟩
theorem xed:wt96.All λk e=>EOT Tryz.prog G okB (256*0+16*6+k) e:=⟨k96,k97,k98,k99,k100,k101,k102,k103,k104,k105,k106,k107,k108,k109,k110,k111⟩
noncomputable def kbr:N16 Ent:=⟨e112,e113,e114,.no,.no,.no,.no,.no,.no,.no,.no,.no,.no,.no,e126,e127⟩
theorem qym:kbr.All λk e=>EOT Tryz.prog G okB (256*0+16*7+k) e:=⟨k112,k113,k114,trivial,trivial,trivial,trivial,trivial,trivial,trivial,trivial,trivial,trivial,trivial,k126,k127⟩
noncomputable def kbs:N16 Ent:=⟨e128,e129,e130,e131,e132,e133,e134,e135,e136,e137,e138,e139,e140,e141,e142,e143⟩
theorem qyn:kbs.All λk e=>EOT Tryz.prog G okB (256*0+16*8+k) e:=⟨k128,k129,k130,k131,k132,k133,k134,k135,k136,k137,k138,k139,k140,k141,k142,k143⟩
noncomputable def kbt:N16 Ent:=⟨e144,e145,e146,e147,e148,e149,e150,e151,e152,e153,e154,e155,e156,e157,e158,e159⟩
theorem qyo:kbt.All λk e=>EOT Tryz.prog G okB (256*0+16*9+k) e:=⟨k144,k145,k146,k147,k148,k149,k150,k151,k152,k153,k154,k155,k156,k157,k158,k159⟩
noncomputable def kbu:N16 Ent:=⟨e160,e161,e162,.no,.no,.no,.no,.no,e168,e169,e170,e171,e172,e173,e174,e175⟩
theorem qyp:kbu.All λk e=>EOT Tryz.prog G okB (256*0+16*10+k) e:=⟨k160,k161,k162,trivial,trivial,trivial,trivial,trivial,k168,k169,k170,k171,k172,k173,k174,k175⟩
noncomputable def kbv:N16 Ent:=⟨e176,e177,e178,e179,e180,e181,e182,e183,.no,e185,e186,e187,e188,e189,e190,e191⟩
theorem qyq:kbv.All λk e=>EOT Tryz.prog G okB (256*0+16*11+k) e:=⟨k176,k177,k178,k179,k180,k181,k182,k183,trivial,k185,k186,k187,k188,k189,k190,k191⟩
noncomputable def kbw:N16 Ent:=⟨e192,e193,e194,.no,.no,.no,.no,.no,.no,.no,.no,.no,.no,.no,.no,e207⟩
theorem qyr:kbw.All λk e=>EOT Tryz.prog G okB (256*0+16*12+k) e:=⟨k192,k193,k194,trivial,trivial,trivial,trivial,trivial,trivial,trivial,trivial,trivial,trivial,trivial,trivial,k207⟩
noncomputable def kbx:N16 Ent:=⟨e208,e209,e210,e211,e212,e213,e214,e215,e216,e217,e218,e219,e220,e221,e222,e223⟩
theorem qys:kbx.All λk e=>EOT Tryz.prog G okB (256*0+16*13+k) e:=⟨k208,k209,k210,k211,k212,k213,k214,k215,k216,k217,k218,k219,k220,k221,k222,k223⟩
noncomputable def kby:N16 Ent:=⟨e224,e225,e226,e227,e228,e229,e230,e231,e232,e233,e234,e235,e236,e237,e238,e239⟩
theorem qyt:kby.All λk e=>EOT Tryz.prog G okB (256*0+16*14+k) e:=⟨k224,k225,k226,k227,k228,k229,k230,k231,k232,k233,k234,k235,k236,k237,k238,k239⟩
noncomputable def kbz:N16 Ent:=⟨e240,e241,e242,e243,.no,.no,.no,e247,e248,e249,e250,e251,e252,e253,e254,e255⟩
theorem qyu:kbz.All λk e=>EOT Tryz.prog G okB (256*0+16*15+k) e:=⟨k240,k241,k242,k243,trivial,trivial,trivial,k247,k248,k249,k250,k251,k252,k253,k254,k255⟩
noncomputable def vt0(x22 x57 x71:Ent):N16 (N16 Ent):=⟨wt0,wt16 x22 x57 x71,wt32,wt48 x22 x57 x71,wt64 x22 x57 x71,wt80,wt96,kbr,kbs,kbt,kbu,kbv,kbw,kbx,kby,kbz⟩
theorem kca{x22 x57 x71:Ent}(h22:EOT Tryz.prog G okB 22 x22)(h57:EOT Tryz.prog G okB 57 x57)(h71:EOT Tryz.prog G okB 71 x71):(vt0 x22 x57 x71).All λj r=>r.All λk e=>EOT Tryz.prog G okB (256*0+16*j+k) e:=⟨kbq,xdy h22 h57 h71,xdz,xea h22 h57 h71,xeb h22 h57 h71,xec,xed,qym,qyn,qyo,qyp,qyq,qyr,qys,qyt,qyu⟩
noncomputable def kcb:N16 Ent:=⟨e256,.no,e258,e259,e260,.no,.no,(.known g263),e264,e265,.no,.no,.no,.no,.no,.no⟩
theorem qyv:kcb.All λk e=>EOT Tryz.prog G okB (256*1+16*0+k) e:=⟨k256,trivial,k258,k259,k260,trivial,trivial,(λ_ _ _ _ h=>xdx h),k264,k265,trivial,trivial,trivial,trivial,trivial,trivial⟩
noncomputable def kcc:N16 Ent:=⟨.no,.no,.no,.no,.no,.no,.no,.no,.no,.no,e282,e283,e284,e285,e286,e287⟩
theorem qyw:kcc.All λk e=>EOT Tryz.prog G okB (256*1+16*1+k) e:=⟨trivial,trivial,trivial,trivial,trivial,trivial,trivial,trivial,trivial,trivial,k282,k283,k284,k285,k286,k287⟩
noncomputable def kcd:N16 Ent:=⟨e288,e289,e290,e291,e292,e293,e294,e295,e296,e297,e298,e299,e300,e301,e302,e303⟩
theorem qyx:kcd.All λk e=>EOT Tryz.prog G okB (256*1+16*2+k) e:=⟨k288,k289,k290,k291,k292,k293,k294,k295,k296,k297,k298,k299,k300,k301,k302,k303⟩
noncomputable def kce:N16 Ent:=⟨e304,.no,.no,e307,e308,e309,e310,e311,e312,.no,.no,.no,.no,.no,.no,.no⟩
theorem qyy:kce.All λk e=>EOT Tryz.prog G okB (256*1+16*3+k) e:=⟨k304,trivial,trivial,k307,k308,k309,k310,k311,k312,trivial,trivial,trivial,trivial,trivial,trivial,trivial⟩
noncomputable def kcf:N16 Ent:=⟨.no,.no,.no,.no,.no,.no,.no,.no,.no,.no,.no,.no,.no,.no,e334,e335⟩
theorem qyz:kcf.All λk e=>EOT Tryz.prog G okB (256*1+16*4+k) e:=⟨trivial,trivial,trivial,trivial,trivial,trivial,trivial,trivial,trivial,trivial,trivial,trivial,trivial,trivial,k334,k335⟩
noncomputable def kcg:N16 Ent:=⟨e336,e337,e338,e339,e340,e341,e342,e343,e344,e345,e346,e347,e348,e349,e350,.no⟩
theorem qza:kcg.All λk e=>EOT Tryz.prog G okB (256*1+16*5+k) e:=⟨k336,k337,k338,k339,k340,k341,k342,k343,k344,k345,k346,k347,k348,k349,k350,trivial⟩
noncomputable def kch:N16 Ent:=⟨.no,.no,.no,.no,.no,.no,.no,.no,.no,.no,.no,.no,.no,.no,.no,e367⟩
theorem qzb:kch.All λk e=>EOT Tryz.prog G okB (256*1+16*6+k) e:=⟨trivial,trivial,trivial,trivial,trivial,trivial,trivial,trivial,trivial,trivial,trivial,trivial,trivial,trivial,trivial,k367⟩
noncomputable def kci:N16 Ent:=⟨e368,e369,e370,e371,e372,e373,e374,e375,e376,e377,.no,.no,.no,.no,.no,.no⟩
theorem qzc:kci.All λk e=>EOT Tryz.prog G okB (256*1+16*7+k) e:=⟨k368,k369,k370,k371,k372,k373,k374,k375,k376,k377,trivial,trivial,trivial,trivial,trivial,trivial⟩
noncomputable def vt1:N16 (N16 Ent):=⟨kcb,kcc,kcd,kce,kcf,kcg,kch,kci,nR,nR,nR,nR,nR,nR,nR,nR⟩
theorem kcj:vt1.All λj r=>r.All λk e=>EOT Tryz.prog G okB (256*1+16*j+k) e:=⟨qyv,qyw,qyx,qyy,qyz,qza,qzb,qzc,zdf _,zdf _,zdf _,zdf _,zdf _,zdf _,zdf _,zdf _⟩
noncomputable def jxy:N16 Ent:=⟨.no,.no,.no,.no,.no,.no,.no,.no,.no,.no,.no,.no,.no,.no,.no,(.own (yldK rndT))⟩
theorem qrn:jxy.All λk e=>EOT Tryz.prog G okB (256*15+16*15+k) e:=⟨trivial,trivial,trivial,trivial,trivial,trivial,trivial,trivial,trivial,trivial,trivial,trivial,trivial,trivial,trivial,kqy⟩
noncomputable def vt15:N16 (N16 Ent):=⟨nR,nR,nR,nR,nR,nR,nR,nR,nR,nR,nR,nR,nR,nR,nR,jxy⟩
theorem xee:vt15.All λj r=>r.All λk e=>EOT Tryz.prog G okB (256*15+16*j+k) e:=⟨zdf _,zdf _,zdf _,zdf _,zdf _,zdf _,zdf _,zdf _,zdf _,zdf _,zdf _,zdf _,zdf _,zdf _,zdf _,qrn⟩
noncomputable def TM(x22 x57 x71:Ent):Tab:=⟨vt0 x22 x57 x71,vt1,nRR,nRR,nRR,nRR,nRR,nRR,nRR,nRR,nRR,nRR,nRR,nRR,nRR,vt15⟩
theorem kqz{x22 x57 x71:Ent}(h22:EOT Tryz.prog G okB 22 x22)(h57:EOT Tryz.prog G okB 57 x57)(h71:EOT Tryz.prog G okB 71 x71):TOK Tryz.prog G okB (TM x22 x57 x71):=⟨kca h22 h57 h71,kcj,zha _,zha _,zha _,zha _,zha _,zha _,zha _,zha _,zha _,zha _,zha _,zha _,zha _,xee⟩
theorem runM{x22 x57 x71:Ent}(h22:EOT Tryz.prog G okB 22 x22)(h57:EOT Tryz.prog G okB 57 x57)(h71:EOT Tryz.prog G okB 71 x71){n f:Nat}{args:List AV}{H:Heap}{v:AV}{H':Heap}(h:frun (exT (TM x22 x57 x71) n) f args H=some (v,H')):Ret Tryz.prog G f args H v H':=qmz (by kernel_rfl) zxb zxa (kqz h22 h57 h71) n f args H v H' h
end Go.Proofs.YtbjdfanphdfkdaaGreatDoor
namespace Go.Proofs.YtbjdfanphdfkdaaGreatDoor
open Go Go.AL Go.Proofs
noncomputable section
def J(n:Nat):AV:= .int .i64 (.ofNat n)
def zo(n:Nat):AV:= .int .i64 (match Nat.ble (nat_lit 16) n with
 |true=> .ofNat (Nat.sub n (nat_lit 16))
 |false=> .negSucc (Nat.sub (nat_lit 15) n))
def rwV(l:List AV):AV:= .vec l l.length (some l.length)
def mV(n:Nat):AV:=match Nat.beq (n%64) (nat_lit 0)with
 |false=>rwV [rwV [J (n/134217728),zo (n/4194304%32),zo (n/131072%32)],rwV [zo (n/4194304%32),J (n/2048%64),zo (n/64%32)],rwV [zo (n/131072%32),zo (n/64%32),J (n%64)]]
 |true=>match Nat.beq (n/2048%64) (nat_lit 0)with
  |false=>rwV [rwV [J (n/134217728),zo (n/4194304%32)],rwV [zo (n/4194304%32),J (n/2048%64)]]
  |true=>rwV [rwV [J (n/134217728)]]
def nI(v:AV):Nat:=match v with
 |.int _ z=>match z with
  |.ofNat n=>n
  |.negSucc _=>0
 |_=>0
def nO(v:AV):Nat:=match v with
 |.int _ z=>match z with
  |.ofNat n=>Nat.add n (nat_lit 16)
  |.negSucc n=>Nat.sub (nat_lit 15) n
 |_=>0
def cdM(l:List AV):Nat:=match l with
 | [.vec rs _ _]=>match rs with
  | [.vec [a] _ _]=>Nat.add (Nat.mul (nI a) (nat_lit 134217728)) (nat_lit 69207040)
  | [.vec [a,t] _ _,.vec [_,b] _ _]=>Nat.add (Nat.mul (nI a) (nat_lit 134217728)) (Nat.add (Nat.mul (nO t) (nat_lit 4194304)) (Nat.add (Nat.mul (nI b) (nat_lit 2048)) (nat_lit 2098176)))
  | [.vec [a,t,s] _ _,.vec [_,b,r] _ _,.vec [_,_,c] _ _]=>Nat.add (Nat.mul (nI a) (nat_lit 134217728)) (Nat.add (Nat.mul (nO t) (nat_lit 4194304)) (Nat.add (Nat.mul (nO s) (nat_lit 131072)) (Nat.add (Nat.mul (nI b) (nat_lit 2048)) (Nat.add (Nat.mul (nO r) (nat_lit 64)) (nI c)))))
  |_=>0
 |_=>0
def cC(n:Nat):List AV:=[J (n/10000),J (n/1000%10),.int .i64 (match Nat.beq (n/100%10) (nat_lit 1)with | true=> .ofNat (nat_lit 1) | false=> .negSucc (nat_lit 0)),.bool (Nat.beq (n/10%10) (nat_lit 1)),J (n%10)]
def gA(n d:Nat)(l:List (Nat×List Nat)):AV:= .agg [J n,J d,.vec (l.flatMap λx=>[J x.1,.vec (x.2.flatMap cC) x.2.length none]) l.length none]
def gs0:AV:=gA 1 1 [(2,[1111])]
def gs1:AV:=gA 1 2 [(2,[11111])]
def gs2:AV:=gA 1 3 [(2,[1013]),(3,[11100])]
def gs3:AV:=gA 1 4 [(2,[21111])]
def gs4:AV:=gA 1 5 [(2,[1015]),(5,[11100])]
def gs5:AV:=gA 1 6 [(2,[11013]),(3,[11000])]
def gs6:AV:=gA 1 7 [(2,[1117]),(7,[11100])]
def gs7:AV:=gA 1 8 [(2,[31111])]
def gs8:AV:=gA 1 9 [(2,[1111]),(3,[21100])]
def gs9:AV:=gA 2 1 [(2,[2112])]
def gs10:AV:=gA 2 2 [(2,[1112,11110])]
def gs11:AV:=gA 2 3 [(2,[2000]),(3,[1000,11000])]
def gs12:AV:=gA 2 3 [(2,[2014]),(3,[1100,11100])]
def gs13:AV:=gA 2 4 [(2,[1111,21111])]
def gs14:AV:=gA 2 4 [(2,[12112])]
def gs15:AV:=gA 2 5 [(2,[2012]),(5,[1000,11000])]
def gs16:AV:=gA 2 5 [(2,[2016]),(5,[1100,11100])]
def gs17:AV:=gA 2 6 [(2,[1014,11110]),(3,[1000,11100])]
def gs18:AV:=gA 2 6 [(2,[1114,11010]),(3,[1100,11000])]
def gs19:AV:=gA 2 7 [(2,[2100]),(7,[1100,11100])]
def gs20:AV:=gA 2 7 [(2,[2110]),(7,[1100,11100])]
def gs21:AV:=gA 2 8 [(2,[1013,31013])]
def gs22:AV:=gA 2 8 [(2,[1111,31111])]
def gs23:AV:=gA 2 8 [(2,[11112,21110])]
def gs24:AV:=gA 2 9 [(2,[2112]),(3,[1000,21000])]
def gs25:AV:=gA 2 9 [(2,[2112]),(3,[1100,21100])]
def gs26:AV:=gA 2 9 [(2,[2116]),(3,[12100])]
def gs27:AV:=gA 2 10 [(2,[1012,11110]),(5,[1100,11000])]
def gs28:AV:=gA 2 10 [(2,[1016,11110]),(5,[1000,11100])]
def gs29:AV:=gA 2 11 [(2,[2000]),(11,[1000,11000])]
def gs30:AV:=gA 2 11 [(2,[2014]),(11,[1100,11100])]
def gs31:AV:=gA 2 12 [(2,[1013,21111]),(3,[1100,11100])]
def gs32:AV:=gA 2 12 [(2,[1015,21117]),(3,[1100,11100])]
def gs33:AV:=gA 2 12 [(2,[12000]),(3,[1100,11100])]
def gs34:AV:=gA 2 12 [(2,[12014]),(3,[1000,11000])]
def gs35:AV:=gA 2 14 [(2,[1010,11010]),(7,[1000,11000])]
def gs36:AV:=gA 2 14 [(2,[1110,11110]),(7,[1100,11100])]
def gs37:AV:=gA 2 15 [(2,[2100]),(3,[1000,11100]),(5,[1000,11100])]
def gs38:AV:=gA 2 15 [(2,[2100]),(3,[1100,11000]),(5,[1100,11000])]
def gs39:AV:=gA 2 15 [(2,[2110]),(3,[1000,11100]),(5,[1000,11100])]
def gs40:AV:=gA 2 15 [(2,[2110]),(3,[1100,11000]),(5,[1100,11000])]
def gs41:AV:=gA 2 16 [(2,[1015,41015])]
def gs42:AV:=gA 2 16 [(2,[1111,41111])]
def gs43:AV:=gA 2 16 [(2,[11111,31111])]
def gs44:AV:=gA 2 16 [(2,[22112])]
def gs45:AV:=gA 2 17 [(2,[2112]),(17,[1100,11100])]
def gs46:AV:=gA 2 17 [(2,[2116]),(17,[1000,11000])]
def gs47:AV:=gA 2 18 [(2,[1112,11110]),(3,[1000,21100])]
def gs48:AV:=gA 2 18 [(2,[1112,11110]),(3,[1100,21000])]
def gs49:AV:=gA 2 18 [(2,[1112,11110]),(3,[12000])]
def gs50:AV:=gA 2 19 [(2,[2014]),(19,[1100,11100])]
def gs51:AV:=gA 2 20 [(2,[1013,21117]),(5,[1000,11000])]
def gs52:AV:=gA 2 20 [(2,[1015,21111]),(5,[1100,11100])]
def gs53:AV:=gA 2 20 [(2,[12012]),(5,[1100,11100])]
def gs54:AV:=gA 2 20 [(2,[12016]),(5,[1000,11000])]
def gs55:AV:=gA 2 21 [(2,[2012]),(3,[1000,11000]),(7,[1100,11000])]
def gs56:AV:=gA 2 21 [(2,[2012]),(3,[1100,11100]),(7,[1000,11100])]
def gs57:AV:=gA 2 21 [(2,[2016]),(3,[1000,11000]),(7,[1000,11100])]
def gs58:AV:=gA 2 21 [(2,[2016]),(3,[1100,11100]),(7,[1100,11000])]
def gs59:AV:=gA 2 23 [(2,[2100]),(23,[1100,11100])]
def gs60:AV:=gA 2 23 [(2,[2110]),(23,[1100,11100])]
def gs61:AV:=gA 2 24 [(2,[1013,31111]),(3,[1000,11100])]
def gs62:AV:=gA 2 24 [(2,[1015,31117]),(3,[1000,11100])]
def gs63:AV:=gA 2 24 [(2,[1111,31013]),(3,[1100,11000])]
def gs64:AV:=gA 2 24 [(2,[1117,31015]),(3,[1100,11000])]
def gs65:AV:=gA 2 24 [(2,[11014,21110]),(3,[1100,11000])]
def gs66:AV:=gA 2 24 [(2,[11114,21010]),(3,[1000,11100])]
def gs67:AV:=gA 2 25 [(2,[2112]),(5,[1000,21000])]
def gs68:AV:=gA 2 25 [(2,[2112]),(5,[1100,21100])]
def gs69:AV:=gA 2 25 [(2,[2112]),(5,[12100])]
def gs70:AV:=gA 2 26 [(2,[1012,11110]),(13,[1100,11000])]
def gs71:AV:=gA 2 26 [(2,[1016,11110]),(13,[1000,11100])]
def gs72:AV:=gA 2 27 [(2,[2000]),(3,[1000,31000])]
def gs73:AV:=gA 2 27 [(2,[2014]),(3,[1100,31100])]
def gs74:AV:=gA 2 27 [(2,[2014]),(3,[11100,21100])]
def gs75:AV:=gA 2 28 [(2,[1111,21117]),(7,[1100,11100])]
def gs76:AV:=gA 2 28 [(2,[1117,21111]),(7,[1100,11100])]
def gs77:AV:=gA 2 28 [(2,[12110]),(7,[1100,11100])]
def gs78:AV:=gA 2 29 [(2,[2016]),(29,[1100,11100])]
def gs79:AV:=gA 2 30 [(2,[1010,11010]),(3,[1000,11000]),(5,[1100,11100])]
def gs80:AV:=gA 2 30 [(2,[1010,11010]),(3,[1100,11100]),(5,[1000,11000])]
def gs81:AV:=gA 2 30 [(2,[1110,11110]),(3,[1000,11000]),(5,[1000,11000])]
def gs82:AV:=gA 2 30 [(2,[1110,11110]),(3,[1100,11100]),(5,[1100,11100])]
def gs83:AV:=gA 2 32 [(2,[1013,51013])]
def gs84:AV:=gA 2 32 [(2,[1111,51111])]
def gs85:AV:=gA 2 32 [(2,[11013,41013])]
def gs86:AV:=gA 2 32 [(2,[11111,41111])]
def gs87:AV:=gA 2 32 [(2,[21112,31110])]
def gs88:AV:=gA 2 35 [(2,[2000]),(5,[1000,11100]),(7,[1100,11000])]
def gs89:AV:=gA 2 35 [(2,[2000]),(5,[1100,11000]),(7,[1000,11100])]
def gs90:AV:=gA 2 35 [(2,[2014]),(5,[1000,11100]),(7,[1000,11100])]
def gs91:AV:=gA 2 35 [(2,[2014]),(5,[1100,11000]),(7,[1100,11000])]
def gs92:AV:=gA 2 36 [(2,[1111,21111]),(3,[1000,21000])]
def gs93:AV:=gA 2 36 [(2,[1111,21111]),(3,[1100,21100])]
def gs94:AV:=gA 2 36 [(2,[1117,21117]),(3,[12100])]
def gs95:AV:=gA 2 36 [(2,[12112]),(3,[1000,21000])]
def gs96:AV:=gA 2 36 [(2,[12112]),(3,[1100,21100])]
def gs97:AV:=gA 2 36 [(2,[12116]),(3,[12100])]
def gs98:AV:=gA 2 40 [(2,[1013,31117]),(5,[1100,11000])]
def gs99:AV:=gA 2 40 [(2,[1015,31111]),(5,[1000,11100])]
def kra:AV:=gA 2 40 [(2,[1111,31015]),(5,[1100,11000])]
def krb:AV:=gA 2 40 [(2,[11012,21110]),(5,[1000,11100])]
def krc:AV:=gA 2 40 [(2,[11016,21110]),(5,[1100,11000])]
def krd:AV:=gA 2 42 [(2,[1012,11110]),(3,[1000,11100]),(7,[1000,11100])]
def kre:AV:=gA 2 42 [(2,[1012,11110]),(3,[1100,11000]),(7,[1100,11000])]
def krf:AV:=gA 2 42 [(2,[1016,11110]),(3,[1000,11100]),(7,[1100,11000])]
def xef:AV:=gA 2 42 [(2,[1016,11110]),(3,[1100,11000]),(7,[1000,11100])]
def krg:AV:=gA 2 45 [(2,[2012]),(3,[1000,21100]),(5,[1000,11000])]
def krh:AV:=gA 2 45 [(2,[2012]),(3,[12000]),(5,[1000,11000])]
def xeg:AV:=gA 2 45 [(2,[2016]),(3,[1000,21100]),(5,[1100,11100])]
def kri:AV:=gA 2 45 [(2,[2016]),(3,[1100,21000]),(5,[1100,11100])]
def krj:AV:=gA 2 48 [(2,[1013,41111]),(3,[1100,11100])]
def krk:AV:=gA 2 48 [(2,[1015,41117]),(3,[1100,11100])]
def krl:AV:=gA 2 48 [(2,[1111,41013]),(3,[1100,11100])]
def xeh:AV:=gA 2 48 [(2,[11013,31111]),(3,[1000,11000])]
def krm:AV:=gA 2 48 [(2,[11015,31117]),(3,[1000,11000])]
def krn:AV:=gA 2 48 [(2,[22014]),(3,[1100,11100])]
def kro:AV:=gA 2 49 [(2,[2112]),(7,[1000,21000])]
def kck:AV:=gA 2 49 [(2,[2112]),(7,[1100,21100])]
def xei:AV:=gA 2 49 [(2,[2116]),(7,[12100])]
def kcl:AV:=gA 2 54 [(2,[1014,11110]),(3,[1000,31100])]
def krp:AV:=gA 2 54 [(2,[1014,11110]),(3,[11100,21000])]
def krq:AV:=gA 2 54 [(2,[1114,11010]),(3,[1100,31000])]
def xej:AV:=gA 2 54 [(2,[1114,11010]),(3,[11000,21100])]
def krr:AV:=gA 2 56 [(2,[1013,31015]),(7,[1000,11000])]
def krs:AV:=gA 2 56 [(2,[1111,31117]),(7,[1100,11100])]
def xek:AV:=gA 2 56 [(2,[1117,31111]),(7,[1100,11100])]
def kcm:AV:=gA 2 56 [(2,[11110,21110]),(7,[1100,11100])]
def xel:AV:=gA 3 1 [(2,[3113])]
def xem:AV:=gA 3 2 [(2,[2113,11110])]
def xen:AV:=gA 3 3 [(2,[3011]),(3,[2000,11000])]
def xeo:AV:=gA 3 3 [(2,[3015]),(3,[2100,11100])]
def xep:AV:=gA 3 4 [(2,[1113,12110])]
def xeq:AV:=gA 3 4 [(2,[2000,21013])]
def xer:AV:=gA 3 4 [(2,[2112,21111])]
def xes:AV:=gA 3 5 [(2,[3013]),(5,[2000,11000])]
def xet:AV:=gA 3 5 [(2,[3017]),(5,[2100,11100])]
def xeu:AV:=gA 3 6 [(2,[2000,11111]),(3,[2100,11000])]
def xev:AV:=gA 3 6 [(2,[2011,11110]),(3,[2100,11000])]
def xew:AV:=gA 3 6 [(2,[2015,11110]),(3,[2000,11100])]
def qzd:AV:=gA 3 7 [(2,[3111]),(7,[2100,11100])]
def xex:AV:=gA 3 7 [(2,[3115]),(7,[2000,11000])]
def xey:AV:=gA 3 8 [(2,[1113,11110,21110])]
def xez:AV:=gA 3 8 [(2,[2012,31015])]
def xfa:AV:=gA 3 8 [(2,[2014,31013])]
def xfb:AV:=gA 3 8 [(2,[2112,31111])]
def xfc:AV:=gA 3 8 [(2,[13113])]
def xfd:AV:=gA 3 9 [(2,[3113]),(3,[1000,12000])]
def xfe:AV:=gA 3 9 [(2,[3113]),(3,[2000,21000])]
def xff:AV:=gA 3 9 [(2,[3113]),(3,[2100,21100])]
def xfg:AV:=gA 3 9 [(2,[3117]),(3,[1100,12100])]
def xfh:AV:=gA 3 10 [(2,[2000,11117]),(5,[2000,11100])]
def qhy:AV:=gA 3 10 [(2,[2013,11110]),(5,[2100,11000])]
def xfi:AV:=gA 3 10 [(2,[2017,11110]),(5,[2000,11100])]
def xfj:AV:=gA 3 11 [(2,[3011]),(11,[2000,11000])]
def xfk:AV:=gA 3 11 [(2,[3015]),(11,[2100,11100])]
def xfl:AV:=gA 3 12 [(2,[1011,12110]),(3,[2000,11000])]
def xfm:AV:=gA 3 12 [(2,[1015,12100]),(3,[2100,11100])]
def xfn:AV:=gA 3 12 [(2,[1015,12110]),(3,[2100,11100])]
def xfo:AV:=gA 3 12 [(2,[2000,21111]),(3,[2000,11000])]
def xfp:AV:=gA 3 12 [(2,[2012,21117]),(3,[2000,11000])]
def xfq:AV:=gA 3 12 [(2,[2014,21111]),(3,[2100,11100])]
def krt:AV:=gA 3 12 [(2,[2016,21117]),(3,[2100,11100])]
def qze:AV:=gA 3 12 [(2,[2100,21015]),(3,[2100,11100])]
def xfr:AV:=gA 3 13 [(2,[3013]),(13,[2000,11000])]
def xfs:AV:=gA 3 13 [(2,[3017]),(13,[2100,11100])]
def xft:AV:=gA 3 14 [(2,[2100,11111]),(7,[2100,11100])]
def qzf:AV:=gA 3 14 [(2,[2111,11110]),(7,[2100,11100])]
def xfu:AV:=gA 3 14 [(2,[2115,11110]),(7,[2000,11000])]
def qzg:AV:=gA 3 15 [(2,[3111]),(3,[2000,11100]),(5,[2000,11100])]
def qzh:AV:=gA 3 15 [(2,[3111]),(3,[2100,11000]),(5,[2100,11000])]
def xfv:AV:=gA 3 15 [(2,[3115]),(3,[2000,11100]),(5,[2100,11000])]
def xfw:AV:=gA 3 15 [(2,[3115]),(3,[2100,11000]),(5,[2000,11100])]
def xfx:AV:=gA 3 16 [(2,[1010,11010,31117])]
def xfy:AV:=gA 3 16 [(2,[1013,22000])]
def xfz:AV:=gA 3 16 [(2,[1111,22112])]
def xga:AV:=gA 3 16 [(2,[1112,11110,31111])]
def qhz:AV:=gA 3 16 [(2,[2000,41013])]
def xgb:AV:=gA 3 16 [(2,[2016,41015])]
def qro:AV:=gA 3 16 [(2,[2112,41111])]
def xgc:AV:=gA 3 16 [(2,[12113,21110])]
def kcn:AV:=gA 3 17 [(2,[3113]),(17,[2100,11100])]
def xgd:AV:=gA 3 17 [(2,[3117]),(17,[2000,11000])]
def xge:AV:=gA 3 18 [(2,[2100,11117]),(3,[1000,12100])]
def xgf:AV:=gA 3 18 [(2,[2113,11110]),(3,[1100,12000])]
def xgg:AV:=gA 3 18 [(2,[2113,11110]),(3,[2000,21100])]
def qia:AV:=gA 3 18 [(2,[2113,11110]),(3,[2100,21000])]
def xgh:AV:=gA 3 18 [(2,[2117,11110]),(3,[1000,12100])]
def xgi:AV:=gA 3 19 [(2,[3015]),(19,[2100,11100])]
def xgj:AV:=gA 3 20 [(2,[1013,12100]),(5,[2000,11000])]
def kru:AV:=gA 3 20 [(2,[1013,12110]),(5,[2000,11000])]
def qzi:AV:=gA 3 20 [(2,[1017,12110]),(5,[2100,11100])]
def qzj:AV:=gA 3 20 [(2,[2000,21117]),(5,[2100,11100])]
def xgk:AV:=gA 3 20 [(2,[2012,21111]),(5,[2000,11000])]
def krv:AV:=gA 3 20 [(2,[2014,21117]),(5,[2000,11000])]
def qzk:AV:=gA 3 20 [(2,[2016,21111]),(5,[2100,11100])]
def qbh:AV:=gA 3 20 [(2,[2100,21013]),(5,[2000,11000])]
def xgl:AV:=gA 3 21 [(2,[3013]),(3,[2000,11000]),(7,[2100,11000])]
def xgm:AV:=gA 3 21 [(2,[3013]),(3,[2100,11100]),(7,[2000,11100])]
def xgn:AV:=gA 3 21 [(2,[3017]),(3,[2000,11000]),(7,[2000,11100])]
def krw:AV:=gA 3 21 [(2,[3017]),(3,[2100,11100]),(7,[2100,11000])]
def xgo:AV:=gA 3 22 [(2,[2000,11111]),(11,[2100,11000])]
def xgp:AV:=gA 3 22 [(2,[2011,11110]),(11,[2100,11000])]
def xgq:AV:=gA 3 22 [(2,[2015,11110]),(11,[2000,11100])]
def qib:AV:=gA 3 23 [(2,[3111]),(23,[2100,11100])]
def xgr:AV:=gA 3 23 [(2,[3115]),(23,[2000,11000])]
def xgs:AV:=gA 3 24 [(2,[1011,11110,21110]),(3,[2100,11000])]
def qzl:AV:=gA 3 24 [(2,[1015,11110,21110]),(3,[2000,11100])]
def krx:AV:=gA 3 24 [(2,[2000,31111]),(3,[2100,11000])]
def kco:AV:=gA 3 24 [(2,[2012,31117]),(3,[2100,11000])]
def xgt:AV:=gA 3 24 [(2,[2014,31111]),(3,[2000,11100])]
def xgu:AV:=gA 3 24 [(2,[2016,31117]),(3,[2000,11100])]
def qrp:AV:=gA 3 24 [(2,[2100,31015]),(3,[2100,11000])]
def kry:AV:=gA 3 24 [(2,[2110,31015]),(3,[2100,11000])]
def krz:AV:=gA 3 24 [(2,[2112,31013]),(3,[2100,11000])]
def xgv:AV:=gA 3 24 [(2,[2116,31013]),(3,[2000,11100])]
def xgw:AV:=gA 3 24 [(2,[13011]),(3,[2000,11100])]
def xgx:AV:=gA 3 24 [(2,[13015]),(3,[2100,11000])]
def xgy:AV:=gA 3 25 [(2,[3113]),(5,[1100,12100])]
def qrq:AV:=gA 3 25 [(2,[3113]),(5,[2000,21000])]
def qrr:AV:=gA 3 25 [(2,[3113]),(5,[2100,21100])]
def xgz:AV:=gA 3 25 [(2,[3117]),(5,[1000,12000])]
def xha:AV:=gA 3 26 [(2,[2000,11117]),(13,[2000,11100])]
def qrs:AV:=gA 3 26 [(2,[2013,11110]),(13,[2100,11000])]
def qzm:AV:=gA 3 26 [(2,[2017,11110]),(13,[2000,11100])]
def ksa:AV:=gA 3 27 [(2,[3011]),(3,[1000,11000,21100])]
def ksb:AV:=gA 3 27 [(2,[3011]),(3,[1100,11000,21000])]
def qic:AV:=gA 3 27 [(2,[3011]),(3,[2000,31000])]
def xhb:AV:=gA 3 27 [(2,[3011]),(3,[13100])]
def qzn:AV:=gA 3 27 [(2,[3015]),(3,[1000,11100,21000])]
def xhc:AV:=gA 3 27 [(2,[3015]),(3,[1100,11100,21100])]
def qbi:AV:=gA 3 27 [(2,[3015]),(3,[2100,31100])]
def ksc:AV:=gA 3 28 [(2,[1111,12100]),(7,[2100,11100])]
def qzo:AV:=gA 3 28 [(2,[1111,12110]),(7,[2100,11100])]
def xhd:AV:=gA 3 28 [(2,[1115,12110]),(7,[2000,11000])]
def qzp:AV:=gA 3 28 [(2,[2000,21015]),(7,[2000,11000])]
def qzq:AV:=gA 3 28 [(2,[2100,21111]),(7,[2100,11100])]
def xhe:AV:=gA 3 28 [(2,[2110,21111]),(7,[2100,11100])]
def xhf:AV:=gA 3 28 [(2,[2112,21117]),(7,[2100,11100])]
def xhg:AV:=gA 3 28 [(2,[2116,21117]),(7,[2000,11000])]
def xhh:AV:=gA 3 29 [(2,[3013]),(29,[2000,11000])]
def xhi:AV:=gA 3 29 [(2,[3017]),(29,[2100,11100])]
def xhj:AV:=gA 3 30 [(2,[2100,11111]),(3,[2000,11000]),(5,[2000,11000])]
def xhk:AV:=gA 3 30 [(2,[2100,11111]),(3,[2100,11100]),(5,[2100,11100])]
def xhl:AV:=gA 3 30 [(2,[2111,11110]),(3,[2000,11000]),(5,[2000,11000])]
def xhm:AV:=gA 3 30 [(2,[2111,11110]),(3,[2100,11100]),(5,[2100,11100])]
def xhn:AV:=gA 3 30 [(2,[2115,11110]),(3,[2000,11000]),(5,[2100,11100])]
def ksd:AV:=gA 3 30 [(2,[2115,11110]),(3,[2100,11100]),(5,[2000,11000])]
def qid:AV:=gA 3 31 [(2,[3111]),(31,[2100,11100])]
def xho:AV:=gA 3 31 [(2,[3115]),(31,[2000,11000])]
def xhp:AV:=gA 3 32 [(2,[1010,11010,41117])]
def xhq:AV:=gA 3 32 [(2,[1013,21114,31010])]
def xhr:AV:=gA 3 32 [(2,[1016,11110,41015])]
def xhs:AV:=gA 3 32 [(2,[1111,21112,31110])]
def kse:AV:=gA 3 32 [(2,[1112,11110,41111])]
def xht:AV:=gA 3 32 [(2,[1114,11010,41013])]
def xhu:AV:=gA 3 32 [(2,[2012,51015])]
def qbj:AV:=gA 3 32 [(2,[2014,51013])]
def qzr:AV:=gA 3 32 [(2,[2112,51111])]
def xhv:AV:=gA 3 32 [(2,[11113,22110])]
def xhw:AV:=gA 3 32 [(2,[12000,31013])]
def xhx:AV:=gA 3 32 [(2,[12112,31111])]
def xhy:AV:=gA 3 33 [(2,[3113]),(3,[2000,11100]),(11,[2000,11000])]
def ksf:AV:=gA 3 33 [(2,[3113]),(3,[2100,11000]),(11,[2100,11100])]
def xhz:AV:=gA 3 33 [(2,[3117]),(3,[2000,11100]),(11,[2100,11100])]
def xia:AV:=gA 3 33 [(2,[3117]),(3,[2100,11000]),(11,[2000,11000])]
def xib:AV:=gA 3 34 [(2,[2100,11117]),(17,[2000,11000])]
def qbk:AV:=gA 3 34 [(2,[2113,11110]),(17,[2100,11100])]
def xic:AV:=gA 3 34 [(2,[2117,11110]),(17,[2000,11000])]
def ksg:AV:=gA 3 35 [(2,[3011]),(5,[2000,11100]),(7,[2100,11000])]
def xid:AV:=gA 3 35 [(2,[3011]),(5,[2100,11000]),(7,[2000,11100])]
def qzs:AV:=gA 3 35 [(2,[3015]),(5,[2000,11100]),(7,[2000,11100])]
def qzt:AV:=gA 3 35 [(2,[3015]),(5,[2100,11000]),(7,[2100,11000])]
def xie:AV:=gA 3 36 [(2,[1113,12110]),(3,[1000,12000])]
def qzu:AV:=gA 3 36 [(2,[1113,12110]),(3,[2000,21000])]
def qzv:AV:=gA 3 36 [(2,[1113,12110]),(3,[2100,21100])]
def xif:AV:=gA 3 36 [(2,[1117,12100]),(3,[1100,12100])]
def xig:AV:=gA 3 36 [(2,[1117,12110]),(3,[1100,12100])]
def ksh:AV:=gA 3 36 [(2,[2000,21013]),(3,[1000,12000])]
def qzw:AV:=gA 3 36 [(2,[2000,21013]),(3,[2000,21000])]
def kcp:AV:=gA 3 36 [(2,[2000,21013]),(3,[2100,21100])]
def xih:AV:=gA 3 36 [(2,[2100,21117]),(3,[1100,12100])]
def ksi:AV:=gA 3 36 [(2,[2110,21117]),(3,[1100,12100])]
def qzx:AV:=gA 3 36 [(2,[2112,21111]),(3,[1000,12000])]
def qrt:AV:=gA 3 36 [(2,[2112,21111]),(3,[2000,21000])]
def qzy:AV:=gA 3 36 [(2,[2112,21111]),(3,[2100,21100])]
def xii:AV:=gA 3 36 [(2,[2116,21111]),(3,[1100,12100])]
def xij:AV:=gA 3 37 [(2,[3013]),(37,[2000,11000])]
def xik:AV:=gA 3 37 [(2,[3017]),(37,[2100,11100])]
def xil:AV:=gA 3 38 [(2,[2000,11111]),(19,[2100,11000])]
def kcq:AV:=gA 3 38 [(2,[2011,11110]),(19,[2100,11000])]
def qzz:AV:=gA 3 38 [(2,[2015,11110]),(19,[2000,11100])]
def qru:AV:=gA 3 39 [(2,[3111]),(3,[2000,11000]),(13,[2000,11000])]
def xim:AV:=gA 3 39 [(2,[3111]),(3,[2100,11100]),(13,[2100,11100])]
def xin:AV:=gA 3 39 [(2,[3115]),(3,[2000,11000]),(13,[2100,11100])]
def kcr:AV:=gA 3 40 [(2,[1013,11110,21110]),(5,[2100,11000])]
def jaa:AV:=gA 3 40 [(2,[1017,11110,21110]),(5,[2000,11100])]
def jab:AV:=gA 3 40 [(2,[2000,31117]),(5,[2000,11100])]
def xio:AV:=gA 3 40 [(2,[2012,31111]),(5,[2100,11000])]
def xip:AV:=gA 3 40 [(2,[2014,31117]),(5,[2100,11000])]
def xiq:AV:=gA 3 40 [(2,[2016,31111]),(5,[2000,11100])]
def xir:AV:=gA 3 40 [(2,[2100,31013]),(5,[2000,11100])]
def xis:AV:=gA 3 40 [(2,[2110,31013]),(5,[2000,11100])]
def qie:AV:=gA 3 40 [(2,[2112,31015]),(5,[2100,11000])]
def xit:AV:=gA 3 40 [(2,[2116,31015]),(5,[2000,11100])]
def xiu:AV:=gA 3 40 [(2,[13013]),(5,[2000,11100])]
def ksj:AV:=gA 3 40 [(2,[13017]),(5,[2100,11000])]
def kcs:AV:=gA 3 41 [(2,[3113]),(41,[2100,11100])]
def xiv:AV:=gA 3 41 [(2,[3117]),(41,[2000,11000])]
def xiw:AV:=gA 3 42 [(2,[2000,11117]),(3,[2000,11100]),(7,[2100,11000])]
def xix:AV:=gA 3 42 [(2,[2000,11117]),(3,[2100,11000]),(7,[2000,11100])]
def qbl:AV:=gA 3 42 [(2,[2013,11110]),(3,[2000,11100]),(7,[2000,11100])]
def jac:AV:=gA 3 42 [(2,[2013,11110]),(3,[2100,11000]),(7,[2100,11000])]
def xiy:AV:=gA 3 42 [(2,[2017,11110]),(3,[2000,11100]),(7,[2100,11000])]
def xiz:AV:=gA 3 42 [(2,[2017,11110]),(3,[2100,11000]),(7,[2000,11100])]
def xja:AV:=gA 3 43 [(2,[3015]),(43,[2100,11100])]
def kct:AV:=gA 3 44 [(2,[1011,12110]),(11,[2000,11000])]
def xjb:AV:=gA 3 44 [(2,[1015,12100]),(11,[2100,11100])]
def xjc:AV:=gA 3 44 [(2,[1015,12110]),(11,[2100,11100])]
def xjd:AV:=gA 3 44 [(2,[2000,21111]),(11,[2000,11000])]
def xje:AV:=gA 3 44 [(2,[2012,21117]),(11,[2000,11000])]
def jad:AV:=gA 3 44 [(2,[2014,21111]),(11,[2100,11100])]
def kcu:AV:=gA 3 44 [(2,[2016,21117]),(11,[2100,11100])]
def jae:AV:=gA 3 44 [(2,[2100,21015]),(11,[2100,11100])]
def xjf:AV:=gA 3 45 [(2,[3013]),(3,[1000,12100]),(5,[2100,11100])]
def xjg:AV:=gA 3 45 [(2,[3013]),(3,[1100,12000]),(5,[2000,11000])]
def xjh:AV:=gA 3 45 [(2,[3013]),(3,[2000,21100]),(5,[2000,11000])]
def ksk:AV:=gA 3 45 [(2,[3013]),(3,[2100,21000]),(5,[2000,11000])]
def ksl:AV:=gA 3 45 [(2,[3017]),(3,[1000,12100]),(5,[2000,11000])]
def ksm:AV:=gA 3 45 [(2,[3017]),(3,[1100,12000]),(5,[2100,11100])]
def xji:AV:=gA 3 45 [(2,[3017]),(3,[2000,21100]),(5,[2100,11100])]
def xjj:AV:=gA 3 45 [(2,[3017]),(3,[2100,21000]),(5,[2100,11100])]
def xjk:AV:=gA 3 46 [(2,[2100,11111]),(23,[2100,11100])]
def jaf:AV:=gA 3 46 [(2,[2111,11110]),(23,[2100,11100])]
def xjl:AV:=gA 3 46 [(2,[2115,11110]),(23,[2000,11000])]
def qif:AV:=gA 3 47 [(2,[3111]),(47,[2100,11100])]
def xjm:AV:=gA 3 47 [(2,[3115]),(47,[2000,11000])]
def jag:AV:=gA 3 48 [(2,[1012,11110,31117]),(3,[2000,11000])]
def xjn:AV:=gA 3 48 [(2,[1013,22112]),(3,[2100,11100])]
def ksn:AV:=gA 3 48 [(2,[1013,22116]),(3,[2000,11000])]
def xjo:AV:=gA 3 48 [(2,[1014,11110,31111]),(3,[2100,11100])]
def xjp:AV:=gA 3 48 [(2,[1015,22100]),(3,[2100,11100])]
def kso:AV:=gA 3 48 [(2,[1015,22110]),(3,[2100,11100])]
def xjq:AV:=gA 3 48 [(2,[1016,11110,31117]),(3,[2100,11100])]
def ksp:AV:=gA 3 48 [(2,[1111,22000]),(3,[2000,11000])]
def jah:AV:=gA 3 48 [(2,[1114,11010,31111]),(3,[2000,11000])]
def zyc:AV:=gA 3 48 [(2,[2000,41111]),(3,[2000,11000])]
def ksq:AV:=gA 3 48 [(2,[2012,41117]),(3,[2000,11000])]
def xjr:AV:=gA 3 48 [(2,[2014,41111]),(3,[2100,11100])]
def ksr:AV:=gA 3 48 [(2,[2016,41117]),(3,[2100,11100])]
def xjs:AV:=gA 3 48 [(2,[2100,41015]),(3,[2100,11100])]
def jai:AV:=gA 3 48 [(2,[2110,41015]),(3,[2100,11100])]
def xjt:AV:=gA 3 48 [(2,[2112,41013]),(3,[2100,11100])]
def jaj:AV:=gA 3 48 [(2,[2116,41013]),(3,[2000,11000])]
def xju:AV:=gA 3 48 [(2,[12000,21111]),(3,[2100,11100])]
def kss:AV:=gA 3 48 [(2,[12011,21110]),(3,[2100,11100])]
def xjv:AV:=gA 3 48 [(2,[12015,21110]),(3,[2000,11000])]
def xjw:AV:=gA 3 49 [(2,[3113]),(7,[1000,12000])]
def qbm:AV:=gA 3 49 [(2,[3113]),(7,[2000,21000])]
def qbn:AV:=gA 3 49 [(2,[3113]),(7,[2100,21100])]
def jak:AV:=gA 3 49 [(2,[3117]),(7,[1100,12100])]
def xjx:AV:=gA 3 50 [(2,[2100,11117]),(5,[1100,12000])]
def jal:AV:=gA 3 50 [(2,[2113,11110]),(5,[1000,12100])]
def jam:AV:=gA 3 50 [(2,[2113,11110]),(5,[2000,21100])]
def zyd:AV:=gA 3 50 [(2,[2113,11110]),(5,[2100,21000])]
def kst:AV:=gA 3 50 [(2,[2117,11110]),(5,[1100,12000])]
def xjy:AV:=gA 3 51 [(2,[3011]),(3,[2000,11100]),(17,[2100,11000])]
def xjz:AV:=gA 3 51 [(2,[3015]),(3,[2000,11100]),(17,[2000,11100])]
def xka:AV:=gA 3 51 [(2,[3015]),(3,[2100,11000]),(17,[2100,11000])]
def ksu:AV:=gA 3 52 [(2,[1013,12110]),(13,[2000,11000])]
def xkb:AV:=gA 3 52 [(2,[1017,12110]),(13,[2100,11100])]
def xkc:AV:=gA 3 52 [(2,[2014,21117]),(13,[2000,11000])]
def jan:AV:=gA 3 52 [(2,[2016,21111]),(13,[2100,11100])]
def xkd:AV:=gA 3 53 [(2,[3013]),(53,[2000,11000])]
def xke:AV:=gA 3 53 [(2,[3017]),(53,[2100,11100])]
def kcv:AV:=gA 3 54 [(2,[2000,11111]),(3,[1000,11000,21000])]
def xkf:AV:=gA 3 54 [(2,[2000,11111]),(3,[1100,11000,21100])]
def jao:AV:=gA 3 54 [(2,[2000,11111]),(3,[2100,31000])]
def xkg:AV:=gA 3 54 [(2,[2011,11110]),(3,[1000,11000,21000])]
def xkh:AV:=gA 3 54 [(2,[2011,11110]),(3,[1100,11000,21100])]
def jap:AV:=gA 3 54 [(2,[2011,11110]),(3,[2100,31000])]
def xki:AV:=gA 3 54 [(2,[2015,11110]),(3,[1000,11100,21100])]
def ksv:AV:=gA 3 54 [(2,[2015,11110]),(3,[1100,11100,21000])]
def qbo:AV:=gA 3 54 [(2,[2015,11110]),(3,[2000,31100])]
def xkj:AV:=gA 3 54 [(2,[2015,11110]),(3,[13000])]
def xkk:AV:=gA 3 55 [(2,[3111]),(5,[2000,11000]),(11,[2000,11000])]
def qrv:AV:=gA 3 55 [(2,[3111]),(5,[2100,11100]),(11,[2100,11100])]
def jaq:AV:=gA 3 55 [(2,[3115]),(5,[2000,11000]),(11,[2100,11100])]
def xkl:AV:=gA 3 55 [(2,[3115]),(5,[2100,11100]),(11,[2000,11000])]
def qrw:AV:=gA 3 56 [(2,[1111,11110,21110]),(7,[2100,11100])]
def qrx:AV:=gA 3 56 [(2,[1115,11110,21110]),(7,[2000,11000])]
def jar:AV:=gA 3 56 [(2,[2000,31015]),(7,[2100,11100])]
def xkm:AV:=gA 3 56 [(2,[2012,31013]),(7,[2100,11100])]
def xkn:AV:=gA 3 56 [(2,[2014,31015]),(7,[2000,11000])]
def ksw:AV:=gA 3 56 [(2,[2016,31013]),(7,[2000,11000])]
def zye:AV:=gA 3 56 [(2,[2100,31111]),(7,[2100,11100])]
def qry:AV:=gA 3 56 [(2,[2110,31111]),(7,[2100,11100])]
def kcw:AV:=gA 3 56 [(2,[2112,31117]),(7,[2100,11100])]
def jas:AV:=gA 3 56 [(2,[2116,31117]),(7,[2000,11000])]
def kcx:AV:=gA 3 56 [(2,[13111]),(7,[2100,11100])]
def xko:AV:=gA 3 56 [(2,[13115]),(7,[2000,11000])]
def xkp:AV:=gA 3 57 [(2,[3113]),(3,[2000,11000]),(19,[2000,11100])]
def ksx:AV:=gA 3 57 [(2,[3113]),(3,[2100,11100]),(19,[2100,11000])]
def xkq:AV:=gA 3 57 [(2,[3117]),(3,[2000,11000]),(19,[2100,11000])]
def xkr:AV:=gA 3 57 [(2,[3117]),(3,[2100,11100]),(19,[2000,11100])]
def xks:AV:=gA 3 58 [(2,[2000,11117]),(29,[2000,11100])]
def jat:AV:=gA 3 58 [(2,[2013,11110]),(29,[2100,11000])]
def xkt:AV:=gA 3 58 [(2,[2017,11110]),(29,[2000,11100])]
def xku:AV:=gA 3 59 [(2,[3015]),(59,[2100,11100])]
def xkv:AV:=gA 3 60 [(2,[1111,12100]),(3,[2000,11100]),(5,[2000,11100])]
def ksy:AV:=gA 3 60 [(2,[1111,12100]),(3,[2100,11000]),(5,[2100,11000])]
def xkw:AV:=gA 3 60 [(2,[1111,12110]),(3,[2000,11100]),(5,[2000,11100])]
def kcy:AV:=gA 3 60 [(2,[1111,12110]),(3,[2100,11000]),(5,[2100,11000])]
def xkx:AV:=gA 3 60 [(2,[1115,12110]),(3,[2000,11100]),(5,[2100,11000])]
def xky:AV:=gA 3 60 [(2,[1115,12110]),(3,[2100,11000]),(5,[2000,11100])]
def xkz:AV:=gA 3 60 [(2,[2000,21015]),(3,[2000,11100]),(5,[2100,11000])]
def ksz:AV:=gA 3 60 [(2,[2000,21015]),(3,[2100,11000]),(5,[2000,11100])]
def jau:AV:=gA 3 60 [(2,[2100,21111]),(3,[2000,11100]),(5,[2000,11100])]
def jav:AV:=gA 3 60 [(2,[2100,21111]),(3,[2100,11000]),(5,[2100,11000])]
def xla:AV:=gA 3 60 [(2,[2110,21111]),(3,[2000,11100]),(5,[2000,11100])]
def xlb:AV:=gA 3 60 [(2,[2110,21111]),(3,[2100,11000]),(5,[2100,11000])]
def xlc:AV:=gA 3 60 [(2,[2112,21117]),(3,[2000,11100]),(5,[2000,11100])]
def xld:AV:=gA 3 60 [(2,[2112,21117]),(3,[2100,11000]),(5,[2100,11000])]
def kta:AV:=gA 3 60 [(2,[2116,21117]),(3,[2000,11100]),(5,[2100,11000])]
def kcz:AV:=gA 3 60 [(2,[2116,21117]),(3,[2100,11000]),(5,[2000,11100])]
def GL:List AV:=[gs0,gs1,gs2,gs3,gs4,gs5,gs6,gs7,gs8,gs9,gs10,gs11,gs12,gs13,gs14,gs15,gs16,gs17,gs18,gs19,gs20,gs21,gs22,gs23,gs24,gs25,gs26,gs28,gs29,gs30,gs31,gs33,gs34,gs35,gs36,gs38,gs39,gs41,gs43,gs44,gs46,gs47,gs49,gs50,gs52,gs53,gs56,gs57,gs59,gs61,gs62,gs65,gs69,gs71,gs74,gs76,gs78,gs79,gs85,gs87,gs89,gs90,gs93,gs97,gs99,xef,xeg,xeh,xei,xej,xek,xel,xem,xen,xeo,xep,xeq,xer,xes,xet,xeu,xev,xew,qzd,xex,xey,xez,xfa,xfb,xfc,xfd,xfe,xff,xfg,xfh,qhy,xfi,xfj,xfk,xfl,xfm,xfn,xfo,xfp,xfq,qze,xfr,xfs,xft,qzf,xfu,qzg,qzh,xfv,xfw,xfx,xfy,xfz,xga,qhz,xgb,qro,xgc,xgd,xge,xgf,xgg,qia,xgh,xgi,xgj,qzi,qzj,xgk,qzk,qbh,xgl,xgm,xgn,xgo,xgp,xgq,qib,xgr,xgs,qzl,xgt,xgu,qrp,xgv,xgw,xgx,xgy,qrr,xgz,xha,qzm,qic,xhb,qzn,xhc,qbi,qzo,xhd,qzq,xhe,xhf,xhg,xhh,xhi,xhj,xhl,xhm,xhn,qid,xho,xhp,xhq,xhr,xhs,xht,qbj,xhv,xhw,xhx,xhy,xhz,xia,xib,qbk,xic,xid,qzs,qzt,xie,qzu,qzv,xif,xig,qzw,xih,qzx,qrt,qzy,xii,xij,xik,xil,qzz,qru,xin,jaa,xip,xiq,xir,xis,qie,xit,xiu,xiv,xiw,xix,qbl,xiy,xiz,xja,xjb,xjc,xjd,xje,jad,jae,xjf,xjg,xjh,xji,xjj,xjk,jaf,xjl,xjm,jag,xjn,xjo,xjp,xjq,jah,zyc,xjr,jai,jaj,xju,xjv,xjw,qbn,jak,xjx,jal,zyd,xjy,xjz,xka,xkb,xkc,jan,xkd,xke,xkf,xkg,xkh,xki,qbo,xkj,qrv,xkl,qrw,qrx,jar,xkn,zye,qry,jas,xko,xkp,xkq,xkr,xks,xkt,xku,xkv,xkw,xkx,xky,xkz,jau,jav,xla,xlb,xld]
end
noncomputable section
def zJ:AV:= .junk
abbrev LR3:=List (Nat×Nat×AV)
def rA(m h:Nat):Nat×Nat×AV:=(m,h,zJ)
def rB(m:Nat)(g:AV):Nat×Nat×AV:=(m,0,g)
def hv(m h:Nat):Nat:=Bool.rec (motive:=λ_=>Nat) h m (Nat.beq h (nat_lit 2))
def run1(f:Nat)(a:List AV):O:=frun (exT (TM e22 e57 e71) (nat_lit 1000)) f a []
def rowA(m h:Nat)(_:AV):Bool:=Bool.rec (motive:=λ_=>Bool) false
 (Bool.rec (motive:=λ_=>Bool) (okV (run1 (nat_lit 22) [mV m]) (.tup [mV (hv m h),.bool true])) true (Nat.ble h (nat_lit 1)))
 (okV (run1 (nat_lit 57) [mV m]) (.bool (Nat.blt (nat_lit 0) h)))
def rowB(m _:Nat)(g:AV):Bool:=okV (run1 (nat_lit 71) [mV m]) (.tup [g,J (nat_lit 0)])
end
def QA(m h:Nat)(_:AV):Prop:=Rt 57 [mV m] [] (.bool (Nat.blt 0 h)) []/\(Nat.ble h 1=false->Rt 22 [mV m] [] (.tup [mV (hv m h),.bool true]) [])
def QB(m _:Nat)(g:AV):Prop:=Rt 71 [mV m] [] (.tup [g,J 0]) []
theorem qbp{f:Nat}{a:List AV}{v:AV}(h:okV (run1 f a) v=true):Rt f a [] v []:=runM k22 k57 k71 (qes h)
theorem qA0(m h:Nat)(v:AV)(e:rowA m h v=true):QA m h v:=by
 unfold rowA at e;cases h1:okV (run1 (nat_lit 57) [mV m]) (.bool (Nat.blt (nat_lit 0) h))with
 |false=>rw[h1]at e;simp at e
 |true=>
  rw[h1]at e;refine⟨qbp h1,λe2=>?_⟩;rw[show Nat.ble h (nat_lit 1)=false from e2]at e;exact qbp e
theorem qB0(m h:Nat)(v:AV)(e:rowB m h v=true):QB m h v:=qbp e
theorem qA{l:List (Nat×Nat×AV)}(h:allK rowA l=true):AllL QA l:=qri qA0 h
theorem qB{l:List (Nat×Nat×AV)}(h:allK rowB l=true):AllL QB l:=qri qB0 h
theorem kerA(l:List (Nat×Nat×AV))(h:allK rowA l=true:=by kernel_rfl):AllL QA l:=qA h
theorem kerB(l:List (Nat×Nat×AV))(h:allK rowB l=true:=by kernel_rfl):AllL QB l:=qB h
noncomputable section
def zz(n:Nat):Int:=Bool.rec (motive:=λ_=>Int) (.negSucc (Nat.sub (nat_lit 7) n)) (.ofNat (Nat.sub n (nat_lit 8))) (Nat.ble (nat_lit 8) n)
def zI(n:Nat):AV:= .int .i64 (zz n)
def f3V(c:Nat):AV:=rwV [rwV [J (c/1048576),zI (c/65536%16),zI (c/4096%16)],rwV [zI (c/65536%16),J (c/256%16),zI (c/16%16)],rwV [zI (c/4096%16),zI (c/16%16),J (c%16)]]
def f2V(c:Nat):AV:=rwV [rwV [J (c/256),zI (c/16%16)],rwV [zI (c/16%16),J (c%16)]]
def f1V(c:Nat):AV:=rwV [rwV [J c]]
def memG(g:AV)(l:List AV):Bool:=List.rec (motive:=λ_=>Bool) false (λx _ ih=>Bool.rec (motive:=λ_=>Bool) ih true (eqA2 (nat_lit 8) x g)) l
def good(g:AV):Bool:=match g with
 |.agg [.int _ _,.int k d,.vec _ _ _]=>match qvi k .i64 with
  |true=>match clV g with
   |true=>ifB (leB 61 d) true (memG g GL)
   |false=>false
  |false=>false
 |_=>false
def okF(v:AV):Bool:=match run1 (nat_lit 14) [v]with
 |some (g,[])=>good g
 |_=>false
def okF1(c:Nat):Bool:=okF (f1V c)
def okF2(c:Nat):Bool:=okF (f2V c)
def okF3(c:Nat):Bool:=okF (f3V c)
end
theorem kpf(n:Nat):zz n=(n:Int)-8:=by
 unfold zz;cases h:Nat.ble (nat_lit 8) n with
 |true=>
  rw[Nat.ble_eq]at h
  show Int.ofNat (n-8)=n-8
  have:8<=n:=h;rw[Int.ofNat_eq_natCast];omega
 |false=>
  have:¬8<=n:=λh'=>by rw[<-Nat.ble_eq]at h';rw[show Nat.ble 8 n=false from h]at h';simp at h'
  show Int.negSucc (7-n)=n-8
  rw[Int.negSucc_eq];omega
theorem xsy{g:AV}:∀{l:List AV},memG g l=true->g∈l:=by
 intro l
 induction l with
 |nil=>intro h;simp[memG]at h
 |cons x l ih=>
  intro h;have h:(Bool.rec (motive:=λ_=>Bool) (memG g l) true (eqA2 (nat_lit 8) x g):Bool)=true:=h;cases hx:eqA2 (nat_lit 8) x g with
  |true=>rw[zpz 8 _ _ hx];exact List.mem_cons_self
  |false=>rw[hx]at h;exact List.mem_cons_of_mem _ (ih h)
def QF(v:AV):Prop:= ∃k a d l n c,Rt 14 [v] [] (.agg [.int k a,.int .i64 d,.vec l n c]) []/\AV.closed (.agg [.int k a,.int .i64 d,.vec l n c])=true/\(60<d\/ .agg [.int k a,.int .i64 d,.vec l n c]∈GL)
theorem jmm(l:List Nat)(h:allN okF2 l=true:=by kernel_rfl):allN okF2 l=true:=h
theorem zad(l:List Nat)(h:allN okF3 l=true:=by kernel_rfl):allN okF3 l=true:=h
theorem qF{v:AV}(h:okF v=true):QF v:=by
 unfold okF at h;split at h
 ·rename_i g hg;unfold good at h;split at h
  ·rename_i k1 a k d l n c;split at h
   ·rename_i hk;have e:=qcy hk;subst e;split at h
    ·rename_i hc;refine⟨k1,a,d,l,n,c,runM k22 k57 k71 hg,(zpp _).symm.trans hc,?_⟩;by_cases hb:leB 61 d=true
     ·exact .inl (by have:=zgm.1 hb;omega)
     ·rw[zkr hb]at h;exact .inr (xsy h)
    ·simp at h
   ·simp at h
  ·simp at h
 ·simp at h
