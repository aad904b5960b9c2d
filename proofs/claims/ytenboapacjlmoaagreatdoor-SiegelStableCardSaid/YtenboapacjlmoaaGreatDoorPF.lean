/- A part of the proof. -/
import Derived.Test.YtenboapacjlmoaaGreatDoorPE
import Derived.Test.YtenboapacjlmoaaGreatDoorKH
import Derived.Test.YtenboapacjlmoaaGreatDoorPA
import Derived.Test.YtenboapacjlmoaaGreatDoorPC
import Derived.Test.YtenboapacjlmoaaGreatDoorPD
namespace Go.Proofs.YtenboapacjlmoaaGreatDoor
open Nat renaming reduceEqDiff → qQ, pow_le_pow_right → qL, pow_succ → xH
open List renaming getD_cons_succ → qX, getD_cons_zero → qV
set_option linter.unusedSimpArgs false
set_option linter.unusedVariables false
open Go Go.AL Go.Proofs
set_option maxRecDepth 100000
def vE (c m:Nat):Nat:=if m%(c*c*c*c)=0 then 4 else if m%(c*c*c)=0 then 3 else if m%(c*c)=0 then 2 else if m%c=0 then 1 else 0
theorem valuation {c k:Nat} (hc:c=2∨c=3∨c=5) (hk:1≤k∧k≤12):∃x cc,Ret Tryz.prog G 21 [pz (2*k) s2,.int .i64 (c:Int)] [] (.tup [.int .i64 ((vE c (2*k):Nat):Int),pz x cc,.int .i64 0]) []:=by
 rcases (by omega:k=1∨k=2∨k=3∨k=4∨k=5∨k=6∨k=7∨k=8∨k=9∨k=10∨k=11∨k=12) with rfl | rfl | rfl | rfl | rfl | rfl | rfl | rfl | rfl | rfl | rfl | rfl<;>rcases hc with rfl | rfl | rfl
 ·exact ⟨1,(some 2),QS.q16⟩
 ·exact ⟨2,none,QS.q66⟩
 ·exact ⟨2,none,QS.q93⟩
 ·exact ⟨1,(some 2),QS.q20⟩
 ·exact ⟨4,none,QS.q68⟩
 ·exact ⟨4,none,QS.q95⟩
 ·exact ⟨3,(some 2),QS.q27⟩
 ·exact ⟨2,(some 2),QS.q71⟩
 ·exact ⟨6,none,QS.q97⟩
 ·exact ⟨1,(some 2),QS.q34⟩
 ·exact ⟨8,none,QS.q73⟩
 ·exact ⟨8,none,QS.q99⟩
 ·exact ⟨5,(some 2),QS.q40⟩
 ·exact ⟨10,none,QS.q75⟩
 ·exact ⟨2,(some 2),QS.q101⟩
 ·exact ⟨3,(some 2),QS.q43⟩
 ·exact ⟨4,(some 2),QS.q77⟩
 ·exact ⟨12,none,QS.q103⟩
 ·exact ⟨7,(some 2),QS.q46⟩
 ·exact ⟨14,none,QS.q79⟩
 ·exact ⟨14,none,QS.q105⟩
 ·exact ⟨1,(some 2),QS.q50⟩
 ·exact ⟨16,none,QS.q81⟩
 ·exact ⟨16,none,QS.q107⟩
 ·exact ⟨9,(some 2),QS.q53⟩
 ·exact ⟨2,(some 2),QS.q83⟩
 ·exact ⟨18,none,QS.q109⟩
 ·exact ⟨5,(some 2),QS.q56⟩
 ·exact ⟨20,none,QS.q85⟩
 ·exact ⟨4,(some 2),QS.q111⟩
 ·exact ⟨11,(some 2),QS.q59⟩
 ·exact ⟨22,none,QS.q87⟩
 ·exact ⟨22,none,QS.q113⟩
 ·exact ⟨3,(some 2),QS.q62⟩
 ·exact ⟨8,(some 2),QS.q89⟩
 ·exact ⟨24,none,QS.q115⟩
theorem exponent {c k:Nat} (hc:c=2∨c=3∨c=5) (hk:1≤k∧k≤12):Ret Tryz.prog G 9 [.int .i64 ((2*k:Nat):Int),.int .i64 (c:Int)] [] (.int .i64 ((vE c (2*k):Nat):Int)) []:=by
 rcases (by omega:k=1∨k=2∨k=3∨k=4∨k=5∨k=6∨k=7∨k=8∨k=9∨k=10∨k=11∨k=12) with rfl | rfl | rfl | rfl | rfl | rfl | rfl | rfl | rfl | rfl | rfl | rfl<;>rcases hc with rfl | rfl | rfl
 ·exact QS.q0
 ·exact QS.q63
 ·exact QS.q90
 ·exact QS.q17
 ·exact QS.q67
 ·exact QS.q94
 ·exact QS.q21
 ·exact QS.q69
 ·exact QS.q96
 ·exact QS.q28
 ·exact QS.q72
 ·exact QS.q98
 ·exact QS.q35
 ·exact QS.q74
 ·exact QS.q100
 ·exact QS.q41
 ·exact QS.q76
 ·exact QS.q102
 ·exact QS.q44
 ·exact QS.q78
 ·exact QS.q104
 ·exact QS.q47
 ·exact QS.q80
 ·exact QS.q106
 ·exact QS.q51
 ·exact QS.q82
 ·exact QS.q108
 ·exact QS.q54
 ·exact QS.q84
 ·exact QS.q110
 ·exact QS.q57
 ·exact QS.q86
 ·exact QS.q112
 ·exact QS.q60
 ·exact QS.q88
 ·exact QS.q114
def z0:AV:= .agg [.bool false,.vec [] 0 (some 0),.bool false,.vec [.int .u32 1] 1 (some 2)]
def r0:AV:= .agg [.bool false,.vec [] 0 (some 0),.bool false,.vec [.int .u32 1] 1 none]
theorem whole0:Ret Tryz.prog G 24 [.int .i64 0] [] z0 []:=QS.q117
theorem cmp0:Ret Tryz.prog G 12 [z0,r0] [] (.int .i64 0) []:=QS.q137
theorem pow0 {M:Nat} (h:M=3∨M=27∨M=243∨M=5∨M=125∨M=8∨M=32∨M=128∨M=512):Ret Tryz.prog G 23 [fr M none 1 s2,.int .i64 0] [] (.tup [fr 1 s2 1 s2,.bool true]) []:=by
 rcases h with rfl | rfl | rfl | rfl | rfl | rfl | rfl | rfl | rfl
 ·exact QS.q125
 ·exact QS.q148
 ·exact QS.q155
 ·exact QS.q158
 ·exact QS.q165
 ·exact QS.q168
 ·exact QS.q178
 ·exact QS.q187
 ·exact QS.q193
theorem pow1 {M:Nat} (h:M=3∨M=27∨M=5∨M=8∨M=32∨M=128):Ret Tryz.prog G 23 [fr M none 1 s2,.int .i64 1] [] (.tup [fr M s2 1 s2,.bool true]) []:=by
 rcases h with rfl | rfl | rfl | rfl | rfl | rfl
 ·exact QS.q140
 ·exact QS.q150
 ·exact QS.q160
 ·exact QS.q170
 ·exact QS.q180
 ·exact QS.q189
theorem zquo {A:Nat} (h:A=1∨A=3∨A=27∨A=5∨A=8∨A=32∨A=128):Ret Tryz.prog G 25 [z0,fr A s2 1 s2] [] z0 []:=by
 rcases h with rfl | rfl | rfl | rfl | rfl | rfl | rfl
 ·exact QS.q130
 ·exact QS.q141
 ·exact QS.q151
 ·exact QS.q161
 ·exact QS.q171
 ·exact QS.q181
 ·exact QS.q190
theorem ratio0 {B:Nat} (h:B=1∨B=9∨B=81∨B=25∨B=16∨B=64∨B=256):Ret Tryz.prog G 11 [.int .i64 0,.int .i64 (B:Int)] [] r0 []:=by
 rcases h with rfl | rfl | rfl | rfl | rfl | rfl | rfl
 ·exact QS.q136
 ·exact QS.q143
 ·exact QS.q153
 ·exact QS.q163
 ·exact QS.q173
 ·exact QS.q182
 ·exact QS.q191
def r3_0:List COp:=[oP 3 (.box (.t 0)),oP 6 (.mov (.k (.bool false)))]
def r3_1:List COp:=[oP 20 (.load true 4 (.t 3)),oP 21 (.call 5 [.t 20,(kI 3)]),mV 7 21]
def r3_2:List COp:=[oP 22 (.bsl 3 1 [(.int .i64 0),(.int .i64 0),(.int .i64 0)] [(0,(1,(kI 2))),(1,(1,(kI 3))),(2,(1,(kI 5)))]),mV 23 1,oP 24 (.bin .rem (.t 23) (.k (.int .u8 3))),oP 25 (.idx 1 (.t 22) (.t 24)),oP 26 (.load false 1 (.t 25)),mV 8 26]
def r3_3:List COp:=[mV 27 2,oP 28 (.conv .i64 (.t 27)),oP 29 (.bin .rem (.t 28) (kI 2)),oP 30 (.bin .add (kI 1) (.t 29)),mV 9 30]
def r3_4:List COp:=[mV 32 7,mV 33 8,mV 34 9,oP 35 (.call 6 [.t 32,.t 33,.t 34]),mV 31 35,oP 36 (.ext (.t 31) 0),oP 37 (.ext (.t 31) 1),mV 10 36,mV 11 37]
def r3_5:List COp:=[mV 39 7,mV 40 8,mV 41 9,oP 42 (.bin .add (.t 41) (kI 1)),oP 43 (.call 6 [.t 39,.t 40,.t 42]),mV 38 43,oP 44 (.ext (.t 38) 0),oP 45 (.ext (.t 38) 1),mV 12 44,mV 13 45]
def r3_6:List COp:=[mV 46 11,oP 47 (.bin .neq (.t 46) (kI 0)),mV 48 47,gU 49 48 false (.mov (.t 13)),gU 50 48 false (.bin .neq (.t 49) (kI 0)),oP 51 (.pick (.t 48) (.k (.bool true)) (.t 50)),mV 52 51,gU 53 52 false (.mov (.t 10)),gU 54 52 false (.len false (.t 53)),gU 55 52 false (.mov (.t 8)),gU 56 52 false (.mov (.t 9)),gU 57 52 false (.call 7 [.t 55,.t 56,(kI 1000)]),gU 58 52 false (.bin .neq (.t 54) (.t 57)),oP 59 (.pick (.t 52) (.k (.bool true)) (.t 58)),mV 60 59,gU 61 60 false (.mov (.t 12)),gU 62 60 false (.len false (.t 61)),gU 63 60 false (.mov (.t 8)),gU 64 60 false (.mov (.t 9)),gU 65 60 false (.bin .add (.t 64) (kI 1)),gU 66 60 false (.call 7 [.t 63,.t 65,(kI 1000)]),gU 67 60 false (.bin .neq (.t 62) (.t 66)),oP 68 (.pick (.t 60) (.k (.bool true)) (.t 67))]
def r3_7:List COp:=[oP 6 (.mov (.k (.bool false)))]
def r3_8:List COp:=[oP 14 (.mov (kI 0))]
def r3_9:List COp:=[mV 69 10,oP 70 (.len false (.t 69)),oP 71 (.mksl 1 8 [(.int .i64 0)] (.t 70) (.t 70)),mV 15 71]
def r3_10:List COp:=[mV 72 12,oP 73 (.len false (.t 72)),oP 74 (.mov (kI 0))]
def r3_11:List COp:=[oP 75 (.bin .lss (.t 74) (.t 73))]
def r3_12:List COp:=[mV 76 74,oP 77 (.idx 1 (.t 72) (.t 74)),oP 78 (.load false 1 (.t 77)),mV 16 76,mV 17 78]
def r3_13:List COp:=[mV 79 15,mV 80 16,mV 81 10,oP 82 (.len false (.t 81)),oP 83 (.bin .rem (.t 80) (.t 82)),oP 84 (.idx 1 (.t 79) (.t 83)),oP 85 (.load false 1 (.t 84)),mV 86 17,oP 87 (.bin .add (.t 85) (.t 86)),oP 88 (.idx 1 (.t 79) (.t 83)),sT (.store 1 (.t 88) (.t 87))]
def r3_14:List COp:=[oP 89 (.bin .add (.t 74) (kI 1)),mV 74 89]
def l3_0:CC:=(.seq (.reg r3_11 none) (.seq (.cond (.t 75) .skip (.exit 0)) (.seq (.block 1 (.seq (.reg r3_12 none) (.reg r3_13 none))) (.reg r3_14 none))))
def r3_15:List COp:=[mV 90 10,oP 91 (.len false (.t 90)),oP 92 (.mov (kI 0))]
def r3_16:List COp:=[oP 93 (.bin .lss (.t 92) (.t 91))]
def r3_17:List COp:=[mV 94 92,oP 95 (.idx 1 (.t 90) (.t 92)),oP 96 (.load false 1 (.t 95)),mV 18 94,mV 19 96]
def r3_18:List COp:=[mV 97 14,mV 98 19,oP 99 (.bin .add (.t 97) (.t 98)),mV 14 99]
def r3_19:List COp:=[mV 100 15,mV 101 18,oP 102 (.idx 1 (.t 100) (.t 101)),oP 103 (.load false 1 (.t 102)),mV 104 19,mV 105 8,mV 106 7,oP 107 (.len false (.t 106)),oP 108 (.call 7 [.t 105,.t 107,(kI 1000)]),oP 109 (.bin .mul (.t 104) (.t 108)),oP 110 (.bin .neq (.t 103) (.t 109))]
def r3_20:List COp:=[oP 6 (.mov (.k (.bool false)))]
def r3_21:List COp:=[oP 111 (.bin .add (.t 92) (kI 1)),mV 92 111]
def l3_1:CC:=(.seq (.reg r3_16 none) (.seq (.cond (.t 93) .skip (.exit 2)) (.seq (.block 3 (.seq (.reg r3_17 none) (.seq (.reg r3_18 none) (.seq (.reg r3_19 (some [(3,8)])) (.cond (.t 110) (.seq (.reg r3_20 none) .ret) .skip))))) (.reg r3_21 none))))
def r3_22:List COp:=[mV 112 14,mV 113 8,mV 114 9,mV 115 7,oP 116 (.len false (.t 115)),oP 117 (.bin .mul (.t 114) (.t 116)),oP 118 (.call 7 [.t 113,.t 117,(kI 2097152)]),oP 119 (.bin .eql (.t 112) (.t 118)),mV 120 119,gU 121 120 true (.call 8 []),oP 122 (.pick (.t 120) (.t 121) (.k (.bool false))),mV 6 122]
def c3:CC:=(.seq (.reg r3_0 none) (.seq (.reg r3_1 none) (.seq (.reg r3_2 none) (.seq (.reg r3_3 none) (.seq (.reg r3_4 none) (.seq (.reg r3_5 none) (.seq (.seq (.reg r3_6 none) (.cond (.t 68) (.seq (.reg r3_7 none) .ret) .skip)) (.seq (.reg r3_8 none) (.seq (.reg r3_9 none) (.seq (.seq (.reg r3_10 none) (.block 0 (.loop l3_0))) (.seq (.seq (.reg r3_15 none) (.block 2 (.loop l3_1))) (.seq (.reg r3_22 none) .ret))))))))))))
def r7_0:List COp:=[oP 6 (.mov (kI 0))]
def r7_1:List COp:=[oP 7 (.mov (kI 1))]
def r7_2:List COp:=[oP 8 (.mov (kI 0))]
def r7_3:List COp:=[mV 9 8,mV 10 1,oP 11 (.bin .lss (.t 9) (.t 10)),mV 12 11,gU 13 12 true (.mov (.t 7)),gU 14 12 true (.mov (.t 2)),gU 15 12 true (.bin .leq (.t 13) (.t 14)),oP 16 (.pick (.t 12) (.t 15) (.k (.bool false)))]
def r7_4:List COp:=[mV 19 7,mV 20 0,oP 21 (.bin .mul (.t 19) (.t 20)),mV 7 21]
def r7_5:List COp:=[mV 17 8,oP 18 (.bin .add (.t 17) (kI 1)),mV 8 18]
def l7_0:CC:=(.seq (.seq (.reg r7_3 none) (.cond (.t 16) .skip (.exit 0))) (.seq (.block 1 (.reg r7_4 none)) (.reg r7_5 none)))
def r7_6:List COp:=[mV 22 7,mV 6 22]
def c7:CC:=(.seq (.reg r7_0 none) (.seq (.reg r7_1 none) (.seq (.seq (.reg r7_2 none) (.block 0 (.loop l7_0))) (.seq (.reg r7_6 none) .ret))))
theorem comp7:CmpC Tryz.prog G Tryz.f7=some c7:=by kernel_rfl
theorem res7:Tryz.f7.results.toList=[(.tmp 6)]:=by kernel_rfl
theorem nt7:Tryz.f7.ntmps=23:=by kernel_rfl
theorem laPower {p e cap:Nat} (hp:1≤p) (h:p^e≤cap) (hc:cap≤2199023255552) (hp2:p≤2097152) (he:e<2^40):Ret Tryz.prog G 7 [.int .i64 (p:Int),.int .i64 (e:Int),.int .i64 (cap:Int)] [] (.int .i64 ((p^e:Nat):Int)) []:=by
 have hle:∀i,i≤e→p^i≤cap:=fun i hi=>Nat.le_trans (qL hp hi) h
 refine Ret_of mixed Tryz.func7 comp7 _ 23 res7 nt7 (by simp) (by simp) ?_
 simp only [c7,r7_0,r7_1,r7_2,SS,reduceCtorEq]
 refine W_loop (fun q E H=>∃i:Nat,i+q=e∧H=[]∧E 0= .int .i64 (p:Int)∧E 1= .int .i64 (e:Int)∧E 2= .int .i64 (cap:Int)∧E 7= .int .i64 ((p^i:Nat):Int)∧E 8= .int .i64 (i:Int)) (n:=e)
  ⟨0,by omega,rfl,by simp only [upd_app,argsE_app,qV,qQ,if_false],by simp only [upd_app,argsE_app,qV,qX,qQ,if_false],by simp only [upd_app,argsE_app,qV,qX,qQ,if_false],by simp only [upd_app,argsE_app,qX,qQ,reduceIte,if_false];rfl,by simp only [upd_app,argsE_app,qX,qQ,reduceIte,if_false];rfl⟩ ?_
 rintro q E H ⟨i,hiq,rfl,e0,e1,e2,e7,e8⟩
 refine wpC_sound mixed ?_
 rcases (by omega:i<e∨i=e) with hlt | rfl
 ·obtain ⟨q,rfl⟩:∃q',q=q'+1:=⟨q-1,by omega⟩
  have hs:=hle (i+1) (by omega)
  have hs0:=hle i (by omega)
  have em:((p^i:Nat):Int)*(p:Int)=((p^(i+1):Nat):Int):=by rw [xH];exact (Int.natCast_mul _ _).symm
  have w5:IntKind.i64.wrap ((i:Int)+1)=((i+1:Nat):Int):=by rw [show (i:Int)+1=((i+1:Nat):Int) by omega];exact wrapN (by omega)
  have w6:IntKind.i64.wrap ((p^(i+1):Nat):Int)=((p^(i+1):Nat):Int):=wrapN (by omega)
  have d1:decide ((i:Int)<(e:Int))=true:=decide_eq_true (by omega)
  have d2:decide (((p^i:Nat):Int)≤(cap:Int))=true:=decide_eq_true (by omega)
  simp only [l7_0,r7_3,SS,forall_const,reduceCtorEq,reduceIte,qQ,e1,e2,e7,e8,d1,d2]
  simp only [r7_4,r7_5,SS,reduceCtorEq,reduceIte,qQ,e0,e7,e8,em,w5,w6]
  refine ⟨q,_,_,by omega,⟨i+1,by omega,rfl,?_,?_,?_,?_,?_⟩,.refl⟩
  all_goals simp only [upd_app,qQ,reduceIte,if_false, *]
 ·have d1:decide ((i:Int)<(i:Int))=false:=decide_eq_false (by omega)
  simp only [l7_0,r7_3,SS,forall_const,reduceCtorEq,reduceIte,qQ,e1,e2,e7,e8,d1]
  simp only [r7_6,SS,reduceIte,qQ,e7]
  exact ⟨.inl trivial,_,rfl,.keep _ _⟩
end Go.Proofs.YtenboapacjlmoaaGreatDoor
namespace Go.Limb
open Nat renaming mul_assoc → qM, pow_lt_pow_right → qN, mod_lt → qT, div_div_eq_div_mul → xQ, pow_add → xE, pow_succ → xH, mul_comm → xI, mod_mul_right_mod → xN
open List renaming getD_cons_succ → qX, getD_cons_zero → qV
set_option linter.unusedSimpArgs false
set_option linter.unusedVariables false
def dblL:List Nat→Nat→List Nat
 | [],b=>[b]
 | x::r,b=>(2*x%4294967296+b)::dblL r (x/2147483648)
theorem dblL_len:∀(l:List Nat) (b:Nat),(dblL l b).length=l.length+1:=by
 intro l
 induction l with
 | nil=>intro b;rfl
 | cons x r ih=>intro b;simp [dblL,ih]
theorem dblL_val:∀(l:List Nat) (b:Nat),val (dblL l b)=2*val l+b:=by
 intro l
 induction l with
 | nil=>intro b;simp [dblL,val]
 | cons x r ih=>
  intro b
  simp only [dblL,val,ih]
  omega
theorem dblL_dig:∀(l:List Nat) (b:Nat),Dig l→b≤1→Dig (dblL l b):=by
 intro l
 induction l with
 | nil=>intro b _ hb;exact Dig.cons (by omega) Dig.nil
 | cons x r ih=>
  intro b h hb
  have hx:=h.head
  exact Dig.cons (by omega) (ih _ h.tail (by omega))
theorem val_digit:∀(l:List Nat) (w:Nat),Dig l→l.getD w 0=val l/4294967296^w%4294967296:=by
 intro l
 induction l with
 | nil=>intro w _;simp [val]
 | cons x r ih=>
  intro w h
  have hx:=h.head
  cases w with
  | zero=>simp only [val,qV,Nat.pow_zero,Nat.div_one];omega
  | succ w=>
   rw [qX,ih w h.tail,val,xH,xI (4294967296^w),←xQ]
   congr 2
   omega
theorem val_bit (l:List Nat) (i:Nat) (h:Dig l):l.getD (i/32) 0/2^(i%32)%2=val l/2^i%2:=by
 rw [val_digit l _ h]
 have e:4294967296^(i/32)=2^(32*(i/32)):=by rw [Nat.pow_mul]
 have hi:i=32*(i/32)+i%32:=by omega
 have e2:val l/2^i=val l/2^(32*(i/32))/2^(i%32):=by
  rw [xQ,←xE,←hi]
 rw [e,e2]
 generalize val l/2^(32*(i/32))=x
 have hs:i%32<32:=qT _ (by decide)
 generalize i%32=s at hs
 have e3:(4294967296:Nat)=2^s*(2*2^(31-s)):=by
  rw [←Nat.pow_succ',←xE]
  have:s+(31-s+1)=32:=by omega
  rw [this]
 rw [e3,Nat.mod_mul_right_div_self,xN]
theorem div_step {V n Q r b:Nat} (hb:b<2) (hV:V/2=Q*n+r) (hr:r<n) (hbit:V%2=b):
  (2*r+b<n→V=2*Q*n+(2*r+b))∧(n≤2*r+b→V=(2*Q+1)*n+(2*r+b-n)∧2*r+b-n<n):=by
 have hV2:V=2*(V/2)+V%2:=by omega
 have e1:2*Q*n=2*(Q*n):=qM _ _ _
 have e2:(2*Q+1)*n=2*(Q*n)+n:=by rw [Nat.add_mul,qM,Nat.one_mul]
 constructor
 ·intro _;omega
 ·intro h;omega
theorem or_pow {a s:Nat} (h:a%2^(s+1)=0):a ||| 2^s=a+2^s:=by
 have e:a=2^(s+1)*(a/2^(s+1)):=by
  have:=Nat.div_add_mod a (2^(s+1))
  omega
 have hlt:2^s<2^(s+1):=qN (by decide) (by omega)
 have:=Nat.two_pow_add_eq_or_of_lt hlt (a/2^(s+1))
 rw [←e] at this
 exact this.symm
end Go.Limb
namespace Go.Proofs.YtenboapacjlmoaaGreatDoor
open Nat renaming reduceEqDiff → qQ, reduceLeDiff → qZ, lt_or_ge → qG, mod_lt → qT, mod_eq_of_lt → xZ, or_lt_two_pow → yJ
open List renaming getD_cons_succ → qX, getD_eq_getElem?_getD → qW, getD_cons_zero → qV, getElem?_eq_getElem → qC, getElem?_append_left → xD, append_assoc → yK
open Int renaming toNat_natCast → qK, fdiv_eq_ediv_of_nonneg → xA
open Go.AL.AV.closed renaming closedL → qY
set_option linter.unusedSimpArgs false
set_option linter.unusedVariables false
open Go Go.AL Go.Proofs Go.Limb
set_option maxRecDepth 100000
theorem or32 {a b:Nat} (ha:a<4294967296) (hb:b<4294967296):IntKind.u32.wrap (((BitVec.ofInt IntKind.u32.bits (a:Int) ||| BitVec.ofInt IntKind.u32.bits (b:Int)).toNat:Nat):Int)=((a ||| b:Nat):Int):=by
 have h:(BitVec.ofInt IntKind.u32.bits (a:Int) ||| BitVec.ofInt IntKind.u32.bits (b:Int)).toNat=a ||| b:=by
  show (BitVec.ofInt 32 (a:Int) ||| BitVec.ofInt 32 (b:Int)).toNat=a ||| b
  rw [BitVec.toNat_or,BitVec.ofInt_natCast,BitVec.ofInt_natCast,BitVec.toNat_ofNat,BitVec.toNat_ofNat,xZ ha,xZ hb]
 rw [h]
 exact wu32' (yJ (n:=32) ha hb)
theorem shl1 (x:Nat):IntKind.u32.wrap ((x:Int)*2^min (Int.toNat 1) IntKind.u32.bits)=((2*x%4294967296:Nat):Int):=by
 have e:(2:Int)^min (Int.toNat 1) IntKind.u32.bits=2:=rfl
 rw [e,show (x:Int)*2=((2*x:Nat):Int) by omega,wu32]
theorem shr31 (x:Nat):Int.fdiv (x:Int) (2^min (Int.toNat 31) IntKind.u32.bits)=((x/2147483648:Nat):Int):=by
 have e:(2:Int)^min (Int.toNat 31) IntKind.u32.bits=((2147483648:Nat):Int):=rfl
 rw [e,xA _ (by omega)]
 rfl
theorem or_bit {x b:Nat} (hb:b≤1):2*x%4294967296 ||| b=2*x%4294967296+b:=by
 rcases qG b 1 with h | h
 ·obtain rfl:b=0:=by omega
  rw [Nat.or_zero];omega
 ·obtain rfl:b=1:=by omega
  exact or_pow (s:=0) (by omega)
theorem zdouble (m:List Nat) (c:Option Nat) (b:Nat) (dm:Dig m) (hb:b≤1) (hm:m.length<1048576):∃c',Ret Tryz.prog G 176 [.vec (u32s m) m.length c,.int .u32 (b:Nat)] [] (.vec (u32s (dblL m b)) (dblL m b).length c') []:=by
 refine ⟨none,?_⟩
 refine Ret_of mixed Tryz.func176 comp176 _ 28 res176 nt176 (by simp) (by simp) ?_
 generalize hfin:dblL m b=fin
 have hfl:fin.length=m.length+1:=by rw [←hfin,dblL_len]
 simp only [c176,r176_0,r176_1,r176_2,SS,reduceCtorEq,reduceIte]
 refine W_loop (fun k E H=>∃i b out a,k+i=m.length∧out.length=i∧b≤1∧out++dblL (m.drop i) b=fin∧E 1= .int .u32 (b:Nat)∧E 5=a∧E 8= .vec (u32s m) m.length c∧E 9= .int .i64 (m.length:Nat)∧E 10= .int .i64 (i:Nat)∧OutAt [] 1 i (u32s out) a H) (n:=m.length)
  ⟨0,b,[],_,by omega,rfl,hb,by simpa using hfin,?_,rfl,?_,?_,?_,.inl ⟨rfl,rfl,?_,0,rfl⟩⟩ ?_
 ·simp only [upd_app,argsE_app,qV,qX,qQ,if_false]
 ·simp only [upd_app,argsE_app,qX,qQ,reduceIte,if_false]
 ·simp only [upd_app,argsE_app,qX,qQ,reduceIte,if_false]
 ·simp only [upd_app,argsE_app,qX,qQ,reduceIte,if_false];rfl
 ·simp only [upd_app,argsE_app,qX,qQ,reduceIte,if_false]
 rintro k E H ⟨i,b,out,a,hki,hol,hb,hf,h1,h5,h8,h9,h10,hO⟩
 refine wpC_sound mixed ?_
 simp only [l176_0,r176_3,SS,reduceCtorEq,reduceIte,h9,h10]
 refine ⟨fun hlt=>?_,fun hge=>?_⟩
 ·obtain ⟨k,rfl⟩:∃k',k=k'+1:=⟨k-1,by omega⟩
  have hi:i<m.length:=by omega
  have bm:=dm.getD i
  have g:=u32s_getD m i hi AV.junk
  have hd:m.drop i=m.getD i 0::m.drop (i+1):=by
   rw [List.drop_eq_getElem_cons hi,qW,qC hi];rfl
  obtain ⟨e,rd,H4,H5,hap,hH4,hg,hw,hO'⟩:=out_app (bytes:=4) (xs:=[.int .u32 ((2*m.getD i 0%4294967296+b:Nat):Int)]) hO rfl rfl (by omega) (by omega)
  have w5:IntKind.i64.wrap ((i:Int)+1)=((i+1:Nat):Int):=by rw [show (i:Int)+1=((i+1:Nat):Int) by omega];exact w64 (by omega) (by omega)
  have b2:2*m.getD i 0%4294967296<4294967296:=qT _ (by omega)
  have wo:=or32 b2 (show b<4294967296 by omega)
  rw [or_bit hb] at wo
  have e1:u32s out++[.int .u32 ((2*m.getD i 0%4294967296+b:Nat):Int)]=u32s (out++[2*m.getD i 0%4294967296+b]):=by simp [u32s]
  rw [e1] at hO'
  rw [hd,dblL] at hf
  simp only [r176_4,r176_5,SS,forall_const,reduceIte,qQ,qZ,h1,h5,h8,h10,qK,g,u32s_len,shl1,wo,len_snoc,hap]
  refine ⟨⟨by omega,by omega⟩,by omega,by omega,?_⟩
  simp only [r176_6,r176_7,SS,reduceIte,qQ,h10,w5,shr31]
  rw [hH4]
  refine ⟨by omega,k,_,H5,by omega,⟨i+1,m.getD i 0/2147483648,out++[2*m.getD i 0%4294967296+b],.sl (H.length+1) 0 (i+1) 1 none,by omega,by simp [hol],by omega,by rw [yK];exact hf,?_,rfl,?_,?_,?_,?_⟩,hw _ _ _ (by simp)⟩
  ·simp only [upd_app,qQ,reduceIte,if_false]
  all_goals first | exact hO' | simp only [upd_app,qQ,reduceIte,if_false, *]
 ·have hi:i=m.length:=by omega
  subst hi
  rw [List.drop_length,dblL] at hf
  obtain ⟨e,rd,H4,H5,hap,hH4,hg,hw,hO'⟩:=out_app (bytes:=4) (xs:=[.int .u32 (b:Nat)]) hO rfl rfl (by omega) (by omega)
  simp only [r176_8,SS,reduceIte,qQ,qZ,h1,h5,len_snoc,hap]
  refine ⟨.inl trivial,_,rfl,?_⟩
  have e1:u32s out++[.int .u32 (b:Nat)]=u32s fin:=by rw [←hf];simp [u32s]
  rw [e1] at hg
  rw [hfl]
  refine fin_mag ?_ hfl.symm
  rw [hH4]
  exact hg
theorem names_one {id k i:Nat}:names [id] k (i+1)=k+i:=by simp [names]
theorem names_one0 {id k:Nat}:names [id] k 0=id:=by simp [names]
theorem callA_one {f:FuncId} {args args0:List AV} {id:Nat} {cs cs':List AV} {v:AV} {H L:Heap} {K:AV→Eff→List Nat→Nat→Prop} (h:Ret Tryz.prog G f args0 [some cs] v (some cs'::L)) (hid:getB H id=some cs)
  (hargs:args=args0.map (AV.ren (names [id] H.length))) (hu:AV.under.underL 1 args0=true) (hcs:qY cs=true) (hcs':qY cs'=true)
  (hk:K (v.ren (names [id] H.length)) ((id,some cs')::effs (names [id] H.length) 1 L) [id] L.length):callA Tryz.prog G f args H K:=by
 have hlt:=getB_lt' hid
 have hid2:H[id]?=some (some cs):=getB_some hid
 have:=CallR0.mk (P:= Tryz.prog) (Γ:=G) (f:=f) (args:=args) (k:=H.length) (H:=H++List.replicate L.length none) [id] args0 [some cs] v (some cs'::L) h rfl (by simp) (by simpa using hlt) hargs hu (by
  intro i c hi
  cases i with
  | zero=>
   simp at hi
   subst hi
   refine ⟨cs,rfl,underL_closed _ _ hcs,?_⟩
   rw [names_one0,xD hlt,hid2]
   simp only [renB]
   rw [map_ren_closed _ _ hcs]
  | succ i=>simp at hi)
 refine ⟨_,_,_,_,.base this,?_⟩
 have e:effs (names [id] H.length) 0 (some cs'::L)=(id,some cs')::effs (names [id] H.length) 1 L:=by
  simp only [effs,names_one0,renB]
  rw [map_ren_closed _ _ hcs']
 rw [e]
 simpa using hk
theorem callA_one0 {f:FuncId} {args args0:List AV} {id:Nat} {cs cs':List AV} {v:AV} {H:Heap} {K:AV→Eff→List Nat→Nat→Prop} (h:Ret Tryz.prog G f args0 [some cs] v [some cs']) (hid:getB H id=some cs)
  (hargs:args=args0.map (AV.ren (names [id] H.length))) (hk:K v [(id,some cs')] [id] 0) (hu:AV.under.underL 1 args0=true:=by rfl) (hcs:qY cs=true:=by rfl) (hcs':qY cs'=true:=by rfl) (hv:v.closed=true:=by rfl):callA Tryz.prog G f args H K:=by
 refine callA_one h hid hargs hu hcs hcs' ?_
 rw [ren_closed _ _ hv]
 exact hk
end Go.Proofs.YtenboapacjlmoaaGreatDoor
namespace Go.Proofs.YtenboapacjlmoaaGreatDoor
open Int renaming emod_lt_of_pos → yX, emod_nonneg → yE
set_option linter.unusedSimpArgs false
set_option linter.unusedVariables false
open Go Go.AL Go.Det
def nextZ (l:List Int) (k:Nat):Int:=l.getD k 0
def nextK (l:List Int) (k:Nat):Nat:=if k<l.length then k+1 else k
def byteZ (l:List Int) (k:Nat):Int:=nextZ l k%256
def tapeK (l:List Int) (k:Nat):Nat→Nat
 | 0=>k
 | m+1=>nextK l (tapeK l k m)
theorem nextK_le {l:List Int} {k:Nat} (h:k≤l.length):nextK l k≤l.length:=by unfold nextK;split<;>omega
theorem tapeK_le {l:List Int} {k:Nat} (h:k≤l.length):∀m,tapeK l k m≤l.length:=by
 intro m
 induction m with
 | zero=>exact h
 | succ m ih=>exact nextK_le ih
theorem tapeK_add (l:List Int) (k a:Nat):∀b,tapeK l (tapeK l k a) b=tapeK l k (a+b):=by
 intro b
 induction b with
 | zero=>rfl
 | succ b ih=>
  show nextK l (tapeK l (tapeK l k a) b)=nextK l (tapeK l k (a+b))
  rw [ih]
def diaM (l:List Int) (k n:Nat) (most:Int):List (List Int):=mkM n fun i j=>if i=j then 1+byteZ l (tapeK l k i)%most else 0
def triK:Nat→Nat
 | 0=>0
 | i+1=>triK i+i
def offZ (l:List Int) (k i j:Nat):Int:=Int.tmod (nextZ l (tapeK l k (triK i+j))) 3
def genM (l:List Int) (k n:Nat):List (List Int):=mkM n fun i j=>if i=j then 1+byteZ l (tapeK l k i)%6 else if j<i then offZ l (tapeK l k n) i j else offZ l (tapeK l k n) j i
def linked (n:Nat) (fork:Bool) (i k:Nat):Bool:=if fork=true∧i+1=n∧3<n then k+2 == i else k+1 == i
def chainM (n:Nat) (fork:Bool):List (List Int):=mkM n fun i j=>if i=j then 2 else if linked n fork i j=true∨linked n fork j i=true then -1 else 0
def bumpM (M:List (List Int)) (i:Nat) (z:Int):List (List Int):=setM M i i (ent M i i+z)
theorem byte_mod (l:List Int) (k:Nat) {m:Int} (hm:1≤m):0≤byteZ l k%m∧byteZ l k%m<m:=⟨yE _ (by omega),yX _ (by omega)⟩
theorem offZ_rng (l:List Int) (k i j:Nat): -2≤offZ l k i j∧offZ l k i j≤2:=by
 unfold offZ
 have:=Int.tmod_lt_of_pos (nextZ l (tapeK l k (triK i+j))) (show (0:Int)<3 by decide)
 have:=Int.lt_tmod_of_pos (nextZ l (tapeK l k (triK i+j))) (show (0:Int)<3 by decide)
 omega
structure SmallG (n:Nat) (M:List (List Int)):Prop where
 shp:Shp n M
 sym:∀i j,i<n→j<n→ent M i j=ent M j i
 bnd:∀i j,-16≤ent M i j∧ent M i j≤16
theorem small_mk {n:Nat} {f:Nat→Nat→Int} (h1:∀i j,i<n→j<n→f i j=f j i) (h2:∀i j,i<n→j<n→ -16≤f i j∧f i j≤16):SmallG n (mkM n f):=by
 refine ⟨mkM_shp n f,fun i j hi hj=>by rw [ent_mk hi hj,ent_mk hj hi];exact h1 i j hi hj,fun i j=>?_⟩
 by_cases h:i<n∧j<n
 ·rw [ent_mk h.1 h.2];exact h2 i j h.1 h.2
 ·rw [(mkM_shp n f).out (by omega)];omega
theorem dia_small {l:List Int} {k n:Nat} {most:Int} (h1:1≤most) (h2:most≤9):SmallG n (diaM l k n most):=by
 refine small_mk (fun i j _ _=>?_) fun i j _ _=>?_
 ·by_cases h:i=j
  ·rw [h]
  ·have h':¬j=i:=fun e=>h e.symm
   rw [if_neg h,if_neg h']
 ·have:=byte_mod l (tapeK l k i) h1
  split<;>omega
theorem gen_small {l:List Int} {k n:Nat}:SmallG n (genM l k n):=by
 refine small_mk (fun i j _ _=>?_) fun i j _ _=>?_
 ·by_cases h:i=j
  ·rw [h]
  ·have h':¬j=i:=fun e=>h e.symm
   rw [if_neg h,if_neg h']
   by_cases h2:j<i
   ·have h3:¬i<j:=by omega
    rw [if_pos h2,if_neg h3]
   ·have h3:i<j:=by omega
    rw [if_neg h2,if_pos h3]
 ·have:=byte_mod l (tapeK l k i) (show (1:Int)≤6 by decide)
  have:=offZ_rng l (tapeK l k n) i j
  have:=offZ_rng l (tapeK l k n) j i
  split
  ·omega
  ·split<;>omega
theorem chain_small {n:Nat} {fork:Bool}:SmallG n (chainM n fork):=by
 refine small_mk (fun i j _ _=>?_) fun i j _ _=>?_
 ·by_cases h:i=j
  ·rw [h]
  ·have h':¬j=i:=fun e=>h e.symm
   rw [if_neg h,if_neg h']
   by_cases h2:linked n fork i j=true∨linked n fork j i=true
   ·rw [if_pos h2,if_pos h2.symm]
   ·have h3:¬(linked n fork j i=true∨linked n fork i j=true):=fun e=>h2 e.symm
    rw [if_neg h2,if_neg h3]
 ·split
  ·omega
  ·split<;>omega
theorem chain_diag {n i:Nat} {fork:Bool} (hi:i<n):ent (chainM n fork) i i=2:=by
 unfold chainM
 rw [ent_mk hi hi,if_pos rfl]
theorem bump_small {n i:Nat} {M:List (List Int)} {z:Int} (h:SmallG n M) (hi:i<n) (hd:ent M i i=2) (hz:0≤z∧z≤3):SmallG n (bumpM M i z):=by
 unfold bumpM
 refine ⟨h.shp.set hi,fun s t hs ht=>?_,fun s t=>?_⟩
 ·rw [h.shp.ent_set hi hi,h.shp.ent_set hi hi]
  by_cases e:s=i∧t=i
  ·rw [if_pos e,if_pos ⟨e.2,e.1⟩]
  ·rw [if_neg e,if_neg (fun x=>e ⟨x.2,x.1⟩)];exact h.sym s t hs ht
 ·rw [h.shp.ent_set hi hi]
  have:=h.bnd s t
  split<;>omega
def rawM (l:List Int) (kind n:Nat):List (List Int):=
 if kind<4 then genM l 0 n else if kind=4 then bumpM (chainM n false) 0 (byteZ l 0%3) else if kind=5 then bumpM (chainM n true) (n-1) (byteZ l 0%2) else if kind=6 then diaM l 0 n 9 else diaM l 0 n 1
def rawK (l:List Int) (kind n:Nat):Nat:=
 if kind<4 then tapeK l 0 (n+triK n) else if kind=4 then nextK l 0 else if kind=5 then nextK l 0 else tapeK l 0 n
theorem raw_small {l:List Int} {kind n:Nat} (hn:1≤n):SmallG n (rawM l kind n):=by
 unfold rawM
 split
 ·exact gen_small
 split
 ·exact bump_small chain_small (by omega) (chain_diag (by omega)) (by have:=byte_mod l 0 (show (1:Int)≤3 by decide);omega)
 split
 ·exact bump_small chain_small (by omega) (chain_diag (by omega)) (by have:=byte_mod l 0 (show (1:Int)≤2 by decide);omega)
 split
 ·exact dia_small (by decide) (by decide)
 ·exact dia_small (by decide) (by decide)
theorem dia_get {l:List Int} {k n i j:Nat} {most:Int} (hi:i<n) (hj:j<n):ent (diaM l k n most) i j=if i=j then 1+byteZ l (tapeK l k i)%most else 0:=by
 unfold diaM
 rw [ent_mk hi hj]
end Go.Proofs.YtenboapacjlmoaaGreatDoor
namespace Go.Proofs.YtenboapacjlmoaaGreatDoor
open Nat renaming reduceEqDiff → qQ, reduceLeDiff → qZ, reduceAdd → qJ, le_refl → qU, sub_self → qP, add_zero → xU, add_assoc → yQ, mul_one → yB, not_lt_zero → yG
open List renaming getD_cons_succ → qX, getD_eq_getElem?_getD → qW, getD_cons_zero → qV, getElem?_cons_succ → qA, getElem?_cons_zero → qB, getElem?_eq_getElem → qC, set_append_right → qD, getElem?_append_right → qO, replicate_zero → qR, take_of_length_le → xX, append_nil → xW, length_map → xV, length_append → xB, getElem?_append_left → xD, length_set → xL, length_nil → xM, replicate_succ → xP, map_congr_left → xR, getElem_of_mem → xS, append_assoc → yK, getElem?_map → yW, ext_getElem → yY, length_cons → yU
open Int renaming toNat_natCast → qK, emod_lt_of_pos → yX, emod_nonneg → yE
open Go.AL.AV.closed renaming closedL → qY
open Option renaming getD_some → xJ
set_option linter.unusedSimpArgs false
set_option linter.unusedVariables false
open Go Go.AL Go.Proofs Go.Limb
set_option maxRecDepth 100000
def i8z (l:List Int):List AV:=l.map fun z=>AV.int .i8 z
theorem i8z_len (l:List Int):(i8z l).length=l.length:=by simp [i8z]
theorem i8z_getD (l:List Int) (j:Nat) (h:j<l.length) (d:AV):(i8z l).getD j d= .int .i8 (l.getD j 0):=by simp [i8z,h]
def tapeC (l:List Int) (c:Option Nat) (k:Nat):List AV:=[.vec (i8z l) l.length c,.int .i64 (k:Nat)]
def Tape8 (l:List Int):Prop:=l.length<9223372036854775808∧∀z∈l,-128≤z∧z<128
theorem nextZ_rng {l:List Int} (h:Tape8 l) (k:Nat): -128≤nextZ l k∧nextZ l k<128:=by
 unfold nextZ
 rw [qW]
 cases e:l[k]? with
 | none=>simp
 | some z=>exact h.2 z (List.mem_of_getElem? e)
theorem tNext {l:List Int} {c:Option Nat} {k:Nat} (h:Tape8 l) (hk:k≤l.length):Ret Tryz.prog G 89 [.ptr 0 0] [some (tapeC l c k)] (.int .i64 (nextZ l k)) [some (tapeC l c (nextK l k))]:=by
 have hl:=h.1
 have hz:=nextZ_rng h k
 refine Ret_of mixed Tryz.func89 comp89 _ 32 res89 nt89 (by simp) (by simp) ?_
 simp only [c89,r89_0,r89_1,SS,forall_const,reduceCtorEq,reduceIte,qJ,qQ,qZ,tapeC]
 refine ⟨rfl,fun hge=>?_,fun hlt=>?_⟩
 ·have e1:nextZ l k=0:=by
   unfold nextZ
   rw [qW,List.getElem?_eq_none (by omega)];rfl
  have e2:nextK l k=k:=by unfold nextK;rw [if_neg (by omega)]
  simp only [r89_2,SS,e1,e2]
  exact ⟨.inl trivial,_,rfl,.keep _ _⟩
 ·have hkl:k<l.length:=by omega
  have e2:nextK l k=k+1:=by unfold nextK;rw [if_pos hkl]
  have w5:IntKind.i64.wrap ((k:Int)+1)=((k+1:Nat):Int):=by rw [show (k:Int)+1=((k+1:Nat):Int) by omega];exact w64 (by omega) (by omega)
  have w6:IntKind.i64.wrap (((k+1:Nat):Int)-1)=(k:Int):=by rw [show ((k+1:Nat):Int)-1=(k:Int) by omega];exact w64 (by omega) (by omega)
  have w7:IntKind.i64.wrap (nextZ l k)=nextZ l k:=w64 (by omega) (by omega)
  have g:(i8z l).getD k .junk= .int .i8 (nextZ l k):=i8z_getD l k hkl _
  simp only [r89_3,r89_4,SS,forall_const,reduceCtorEq,reduceIte,qJ,qQ,qZ,w5,w6,e2,qK,g,i8z_len,w7]
  refine ⟨⟨by omega,by omega⟩,by omega,rfl,?_⟩
  exact ⟨.inl trivial,_,rfl,.keep _ _⟩
theorem tBelow {l:List Int} {c:Option Nat} {k:Nat} {m:Int} (h:Tape8 l) (hk:k≤l.length) (hm:1≤m∧m<1000000):Ret Tryz.prog G 43 [.ptr 0 0,.int .i64 m] [some (tapeC l c k)] (.int .i64 (byteZ l k%m)) [some (tapeC l c (nextK l k))]:=by
 have hl:=h.1
 have hz:=nextZ_rng h k
 have hb:0≤byteZ l k∧byteZ l k<256:=by unfold byteZ;omega
 have w1:IntKind.u8.wrap (nextZ l k)=byteZ l k:=by
  show nextZ l k%256=_
  rfl
 have w2:IntKind.i64.wrap (byteZ l k)=byteZ l k:=w64 (by omega) (by omega)
 have w3:Int.tmod (byteZ l k) m=byteZ l k%m:=Int.tmod_eq_emod_of_nonneg hb.1
 have w4:IntKind.i64.wrap (byteZ l k%m)=byteZ l k%m:=by
  have:=yE (byteZ l k) (show m≠0 by omega)
  have:=yX (byteZ l k) (show 0<m by omega)
  exact w64 (by omega) (by omega)
 refine Ret_of mixed Tryz.func43 comp43 _ 11 res43 nt43 (by simp) (by simp) ?_
 simp only [c43,r43_0,r43_1,SS,reduceCtorEq,reduceIte]
 refine callA_one0 (id:=0) (tNext h hk) rfl rfl ?_
 simp only [restA,SS,reduceIte,qQ,w1,w2,w3]
 refine ⟨by omega,?_⟩
 exact ⟨.inl trivial,_,rfl,.keep _ _⟩
def rowsO (o n i:Nat):List AV:=(List.range i).map fun k=> .sl (o+k+1) 0 n 1 (some n)
def outO (o N n i:Nat):List AV:=rowsO o n i++List.replicate (N-i) nilV
def bO (o N n:Nat) (rows:List (List Int)):Heap:=some (outO o N n rows.length)::rows.map fun r=>some (i64z r)
theorem rowsO_len (o n i:Nat):(rowsO o n i).length=i:=by simp [rowsO]
theorem outO_len {o N n i:Nat} (h:i≤N):(outO o N n i).length=N:=by simp [outO,rowsO_len];omega
theorem outO_get {o N n i k:Nat} (h:k<i):(outO o N n i).getD k .junk= .sl (o+k+1) 0 n 1 (some n):=by
 unfold outO rowsO
 rw [qW,xD (by simpa using h),yW,List.getElem?_range h]
 rfl
theorem outO_snoc {o N n i:Nat} (h:i<N):(outO o N n i).set i (.sl (o+i+1) 0 n 1 (some n))=outO o N n (i+1):=by
 unfold outO
 have e:List.replicate (N-i) nilV=nilV::List.replicate (N-(i+1)) nilV:=by rw [←xP];congr 1;omega
 have ez:rowsO o n (i+1)=rowsO o n i++[.sl (o+i+1) 0 n 1 (some n)]:=by simp [rowsO,List.range_succ]
 rw [e,ez,qD _ _ (by rw [rowsO_len];omega),rowsO_len,qP]
 simp
section
variable {P:Heap} {o N n:Nat} {rows:List (List Int)}
theorem bO_len (ho:P.length=o):(P++bO o N n rows).length=o+rows.length+1:=by simp [bO,ho];omega
theorem bO_outer (ho:P.length=o):getB (P++bO o N n rows) o=some (outO o N n rows.length):=by
 unfold getB
 rw [qO (by omega),ho,qP]
 rfl
theorem bO_row (ho:P.length=o) {i:Nat} (h:i<rows.length):getB (P++bO o N n rows) (o+i+1)=some (i64z (rows.getD i [])):=by
 unfold getB bO
 rw [qO (by omega),ho,show o+i+1-o=i+1 by omega,qA,yW,qW,qC h]
 rfl
theorem bO_set (ho:P.length=o) {i:Nat} (r:List Int):(P++bO o N n rows).set (o+i+1) (some (i64z r))=P++bO o N n (rows.set i r):=by
 rw [qD _ _ (by omega),ho,show o+i+1-o=i+1 by omega]
 unfold bO
 rw [List.set_cons_succ,xL,List.map_set]
theorem bO_new (ho:P.length=o) (r:List Int) (h:rows.length<N):(P++bO o N n rows++[some (i64z r)]).set o (some ((outO o N n rows.length).set rows.length (.sl (o+rows.length+1) 0 n 1 (some n))))=P++bO o N n (rows++[r]):=by
 rw [outO_snoc h,yK,qD _ _ (by omega),ho,qP]
 unfold bO
 simp
theorem bO_frz (ho:P.length=o) (hN:rows.length=N) (hn:∀i,i<N→(rows.getD i []).length=n):frzI 0 (P++bO o N n rows) 3 (.sl o 0 N 1 (some N))=some (.vec (rowsV n rows) N (some N)):=by
 have e0:outO o N n rows.length=rowsO o n N:=by
  unfold outO
  rw [hN,qP,qR,xW]
 have key:(rowsO o n N).mapM (frzI 0 (P++bO o N n rows) 2)=some (rowsV n rows):=by
  have:rowsV n rows=(List.range N).map fun k=>AV.vec (i64z (rows.getD k [])) n (some n):=by
   refine yY (by simp [rowsV,hN]) fun k h1 h2=>?_
   simp only [rowsV,List.getElem_map,List.getElem_range]
   have hk:k<rows.length:=by simpa [rowsV] using h1
   rw [qW,qC hk]
   rfl
  rw [this]
  unfold rowsO
  rw [List.mapM_map]
  have:∀l:List Nat,(∀k∈l,k<N)→l.mapM (fun k=>frzI 0 (P++bO o N n rows) 2 (.sl (o+k+1) 0 n 1 (some n)))=some (l.map fun k=>AV.vec (i64z (rows.getD k [])) n (some n)):=by
   intro l
   induction l with
   | nil=>intro _;rfl
   | cons k l ih=>
    intro h
    have hk:=h k (by simp)
    have e:frzI 0 (P++bO o N n rows) 2 (.sl (o+k+1) 0 n 1 (some n))=some (.vec (i64z (rows.getD k [])) n (some n)):=by
     rw [frzI]
     have hl:=hn k hk
     simp only [yG,if_false,bO_row ho (show k<rows.length by omega),need,Nat.zero_add,yB,i64z_len,hl,qU,if_true,List.drop_zero]
     rw [xX (by rw [i64z_len];omega),i64z_frz]
     rfl
    rw [List.mapM_cons,e,ih (fun x hx=>h x (by simp [hx]))]
    rfl
  exact this _ (fun k hk=>List.mem_range.1 hk)
 rw [frzI]
 simp only [yG,if_false,bO_outer ho,e0,need,Nat.zero_add,yB,rowsO_len,qU,if_true,List.drop_zero]
 rw [xX (by rw [rowsO_len];omega),key]
 rfl
end
def tP (l:List Int) (c:Option Nat) (k:Nat):Heap:=[some (tapeC l c k)]
theorem tP_len (l:List Int) (c:Option Nat) (k:Nat):(tP l c k).length=1:=rfl
theorem tP_get (l:List Int) (c:Option Nat) (k:Nat) (X:Heap):getB (tP l c k++X) 0=some (tapeC l c k):=rfl
theorem tP_set (l:List Int) (c:Option Nat) (k k':Nat) (X:Heap):(tP l c k++X).set 0 (some (tapeC l c k'))=tP l c k'++X:=rfl
theorem dia_shp (l:List Int) (k n:Nat) (most:Int):Shp n (diaM l k n most):=mkM_shp _ _
theorem dia_row {l:List Int} {k n i:Nat} {most:Int} (hi:i<n):(diaM l k n most).getD i []=(List.replicate n 0).set i (1+byteZ l (tapeK l k i)%most):=by
 have hr:=(dia_shp l k n most).row i hi
 refine yY (by rw [hr];simp) fun t h1 h2=>?_
 have ht:t<n:=by omega
 have e:ent (diaM l k n most) i t=if i=t then 1+byteZ l (tapeK l k i)%most else 0:=by
  unfold diaM
  rw [ent_mk hi ht]
 unfold ent at e
 rw [qW,qC h1] at e
 rw [List.getElem_set]
 simp only [xJ] at e
 rw [e]
 by_cases hit:i=t
 ·rw [if_pos hit,if_pos hit]
 ·rw [if_neg hit,if_neg hit];simp
theorem tDiagonal {l:List Int} {c:Option Nat} {k n:Nat} {most:Int} (h:Tape8 l) (hk:k≤l.length) (hn:1≤n∧n≤8) (hm:1≤most∧most≤9):
  Ret Tryz.prog G 44 [.ptr 0 0,.int .i64 (n:Nat),.int .i64 most] [some (tapeC l c k)] (.sl 1 0 n 1 (some n)) (tP l c (tapeK l k n)++bO 1 n n (diaM l k n most)):=by
 have hD:=dia_shp l k n most
 refine Ret_of mixed Tryz.func44 comp44 _ 33 res44 nt44 (by simp) (by simp only [xB,tP_len,yU,xM];omega) ?_
 simp only [c44,r44_0,r44_1,SS,reduceCtorEq,reduceIte,qQ,qK]
 refine ⟨by decide,⟨by omega,by omega,by omega,by omega⟩,?_⟩
 simp only [r44_2,SS,reduceIte,qQ]
 refine W_loop (fun q E H=>∃i,i+q=n∧H=tP l c (tapeK l k i)++bO 1 n n ((diaM l k n most).take i)∧E 0= .ptr 0 0∧E 1= .int .i64 (n:Nat)∧E 2= .int .i64 most∧E 7= .sl 1 0 n 1 (some n)∧E 12= .int .i64 (n:Nat)∧E 13= .int .i64 (i:Nat)) (n:=n)
  ⟨0,by omega,rfl,by simp only [upd_app,argsE_app,qV,qQ,if_false],by simp only [upd_app,argsE_app,qV,qX,qQ,if_false],by simp only [upd_app,argsE_app,qV,qX,qQ,if_false],by simp only [upd_app,argsE_app,qX,qQ,reduceIte,if_false],by simp only [upd_app,argsE_app,qX,qQ,reduceIte,if_false],by simp only [upd_app,argsE_app,qX,qQ,reduceIte,if_false];rfl⟩ ?_
 rintro q E H ⟨i,hiq,rfl,e0,e1,e2,e7,e12,e13⟩
 refine wpC_sound mixed ?_
 simp only [l44_0,r44_3,SS,reduceCtorEq,reduceIte,e12,e13]
 refine ⟨fun hlt=>?_,fun hge=>?_⟩
 ·obtain ⟨q,rfl⟩:∃q',q=q'+1:=⟨q-1,by omega⟩
  have hi:i<n:=by omega
  have hDl:=hD.len
  have htl:((diaM l k n most).take i).length=i:=by rw [List.length_take];omega
  have hki:=tapeK_le hk i
  have w5:IntKind.i64.wrap ((i:Int)+1)=((i+1:Nat):Int):=by rw [show (i:Int)+1=((i+1:Nat):Int) by omega];exact w64 (by omega) (by omega)
  have hP:=tP_len l c (tapeK l k i)
  have hbl:=bO_len (N:=n) (n:=n) (rows:=(diaM l k n most).take i) hP
  rw [htl] at hbl
  have hgo:getB (tP l c (tapeK l k i)++bO 1 n n ((diaM l k n most).take i)++[some (i64z (List.replicate n 0))]) 1=some (outO 1 n n i):=by
   have:getB (tP l c (tapeK l k i)++bO 1 n n ((diaM l k n most).take i)) 1=some (outO 1 n n i):=by rw [bO_outer hP,htl]
   exact this
  have gol:=outO_len (o:=1) (N:=n) (n:=n) (i:=i) (by omega)
  have hnew:=bO_new (N:=n) (n:=n) (rows:=(diaM l k n most).take i) hP (List.replicate n 0) (by omega)
  rw [htl] at hnew
  simp only [r44_4,r44_5,SS,reduceIte,qQ,e1,e7,e13,qK,hbl,i64z_rep,hgo,gol]
  refine ⟨by decide,⟨by omega,by omega,by omega,by omega⟩,⟨by omega,by omega⟩,by omega,?_⟩
  rw [hnew]
  have hrl:((diaM l k n most).take i++[List.replicate n 0]).length=i+1:=by simp;omega
  have ko:=bO_outer (N:=n) (n:=n) (rows:=(diaM l k n most).take i++[List.replicate n 0]) hP
  rw [hrl] at ko
  have kl:=outO_len (o:=1) (N:=n) (n:=n) (i:=i+1) (by omega)
  have kg:=outO_get (o:=1) (N:=n) (n:=n) (i:=i+1) (k:=i) (by omega)
  have hki1:=tapeK_le hk (i+1)
  have tB:=tBelow (l:=l) (c:=c) (k:=tapeK l k i) (m:=most) h hki (by omega)
  have hbz:=byte_mod l (tapeK l k i) hm.1
  have w6:IntKind.i64.wrap (byteZ l (tapeK l k i)%most)=byteZ l (tapeK l k i)%most:=w64 (by omega) (by omega)
  have w7:IntKind.i64.wrap (1+byteZ l (tapeK l k i)%most)=1+byteZ l (tapeK l k i)%most:=w64 (by omega) (by omega)
  simp only [r44_6,SS,forall_const,reduceCtorEq,reduceIte,qQ,e0,e2,e7,qK,ko,kl,kg]
  refine ⟨⟨by omega,by omega⟩,by omega,?_⟩
  refine callA_one0 (id:=0) tB (tP_get _ _ _ _) rfl ?_
  have hP':=tP_len l c (tapeK l k (i+1))
  have hnk:nextK l (tapeK l k i)=tapeK l k (i+1):=rfl
  have gr:=bO_row (N:=n) (n:=n) (rows:=(diaM l k n most).take i++[List.replicate n 0]) hP' (i:=i) (by omega)
  have grr:((diaM l k n most).take i++[List.replicate n 0]).getD i []=List.replicate n 0:=by
   rw [qW,qO (by omega),htl,qP];simp
  rw [grr] at gr
  have eset:((diaM l k n most).take i++[List.replicate n 0]).set i ((List.replicate n 0).set i (1+byteZ l (tapeK l k i)%most))=(diaM l k n most).take (i+1):=by
   rw [qD _ _ (by omega),htl,qP,←dia_row hi]
   rw [List.take_add_one,qW,qC (by omega)]
   rfl
  simp only [restA,applyE,keys,qR,xW,SS,reduceIte,qQ,tP_set,hnk,w7,gr,i64z_len,List.length_replicate,qK,i64z_set]
  refine ⟨⟨by omega,by omega⟩,by omega,rfl,?_⟩
  rw [bO_set hP',eset]
  simp only [r44_7,SS,reduceIte,qQ,e13,w5]
  refine ⟨q,_,_,by omega,⟨i+1,by omega,rfl,?_,?_,?_,?_,?_,?_⟩,.refl⟩
  all_goals simp only [upd_app,qQ,reduceIte,if_false, *]
 ·have hin:i=n:=by omega
  subst hin
  have htl:(diaM l k i most).take i=diaM l k i most:=xX (by rw [hD.len];omega)
  rw [htl]
  simp only [r44_8,SS,reduceIte,qQ,e7]
  exact ⟨.inl trivial,_,rfl,.keep _ _⟩
theorem effs_from {H:Heap} (σ:Nat→Nat) (s:Nat) (hσ:∀i,σ (s+i)=H.length+i):∀(L X:Heap),applyE (effs σ (s+X.length) L) (H++(X++List.replicate L.length none))=H++(X++L.map (renB σ)):=by
 intro L
 induction L with
 | nil=>intro X;simp [effs,applyE]
 | cons b L ih=>
  intro X
  have e:H++(X++List.replicate (b::L).length none)=H++(X++(none::List.replicate L.length none)):=rfl
  rw [e]
  simp only [effs,applyE,hσ]
  have e2:(H++(X++(none::List.replicate L.length none))).set (H.length+X.length) (renB σ b)=H++((X++[renB σ b])++List.replicate L.length none):=by
   rw [qD _ _ (by omega),Nat.add_sub_cancel_left,qD _ _ (by omega),qP]
   simp
  rw [e2]
  have:=ih (X++[renB σ b])
  rw [xB,List.length_singleton,←yQ] at this
  rw [this]
  simp
theorem i64z_closed (r:List Int):qY (i64z r)=true:=by
 induction r with
 | nil=>rfl
 | cons z r ih=>
  show ((AV.int .i64 z).closed && qY (i64z r))=true
  rw [ih];rfl
theorem bO_ren {σ:Nat→Nat} {K N n:Nat} {rows:List (List Int)} (hσ:∀j,σ (1+j)=K+j):(bO 1 N n rows).map (renB σ)=bO K N n rows:=by
 unfold bO
 rw [List.map_cons,List.map_map]
 congr 1
 ·show some ((outO 1 N n rows.length).map (AV.ren σ))=_
  congr 1
  unfold outO
  rw [List.map_append]
  congr 1
  ·unfold rowsO
   rw [List.map_map]
   refine xR fun k _=>?_
   show AV.sl (σ (1+k+1)) 0 n 1 (some n)= .sl (K+k+1) 0 n 1 (some n)
   rw [show 1+k+1=1+(k+1) by omega,hσ]
   rfl
  ·rw [List.map_replicate]
   rfl
 ·refine xR fun r _=>?_
  show some ((i64z r).map (AV.ren σ))=some (i64z r)
  rw [map_ren_closed _ _ (i64z_closed r)]
theorem tape_eff {H:Heap} {id n:Nat} {cs':List AV} {M:List (List Int)} (hid:id<H.length):applyE ((id,some cs')::effs (names [id] H.length) 1 (bO 1 n n M)) (H++List.replicate (bO 1 n n M).length none)=H.set id (some cs')++bO H.length n n M:=by
 have h1:∀j,names [id] H.length (1+j)=H.length+j:=by
  intro j;rw [Nat.add_comm 1];exact names_one
 have:=effs_from (H:=H.set id (some cs')) (names [id] H.length) 1 (fun j=>by rw [h1,xL]) (bO 1 n n M) []
 simp only [applyE]
 rw [List.set_append_left _ _ hid]
 simp only [xM,xU,List.nil_append] at this
 rw [this,bO_ren h1]
theorem gen_ent {l:List Int} {k n i j:Nat} (hi:i<n) (hj:j<i):ent (genM l k n) i j=offZ l (tapeK l k n) i j∧ent (genM l k n) j i=offZ l (tapeK l k n) i j:=by
 unfold genM
 rw [ent_mk hi (by omega),ent_mk (by omega) hi]
 have h1:¬i=j:=by omega
 have h2:¬j=i:=by omega
 have h3:¬i<j:=by omega
 rw [if_neg h1,if_pos hj,if_neg h2,if_neg h3]
 exact ⟨rfl,rfl⟩
theorem gen_diag {l:List Int} {k n i:Nat} (hi:i<n):ent (genM l k n) i i=ent (diaM l k n 6) i i:=by
 unfold genM diaM
 rw [ent_mk hi hi,ent_mk hi hi,if_pos rfl,if_pos rfl]
theorem tGen_in {l:List Int} {c:Option Nat} {k n i:Nat} (h:Tape8 l) (hk:k≤l.length) (hn:1≤n∧n≤8) (hi:i<n) {X0:List (List Int)} (hX0:Shp n X0) (hx0:∀s t,s<n→t<n→ent X0 s t=if s<i∧t<i then ent (genM l k n) s t else ent (diaM l k n 6) s t)
  {v12 v13:AV} {E:Env} {Q:Post} (e0:E 0= .ptr 0 0) (e5:E 5= .sl 1 0 n 1 (some n)) (e6:E 6= .int .i64 (i:Nat)) (e7:E 7= .int .i64 0) (e12:E 12=v12) (e13:E 13=v13)
  (hQ:∀E' X,Shp n X→(∀s t,s<n→t<n→ent X s t=if s<i+1∧t<i+1 then ent (genM l k n) s t else ent (diaM l k n 6) s t)→E' 0= .ptr 0 0→E' 5= .sl 1 0 n 1 (some n)→E' 12=v12→E' 13=v13→Q (.exit 2) E' (tP l c (tapeK l k (n+triK (i+1)))++bO 1 n n X)):
  W Tryz.prog G 1 45 (.loop l41_1) E (tP l c (tapeK l k (n+triK i))++bO 1 n n X0) Q:=by
 refine W_loop (fun q E H=>∃j X,j+q=i∧Shp n X∧(∀s t,s<n→t<n→ent X s t=if (s<i∧t<i)∨(s=i∧t<j)∨(t=i∧s<j) then ent (genM l k n) s t else ent (diaM l k n 6) s t)∧H=tP l c (tapeK l k (n+triK i+j))++bO 1 n n X∧
  E 0= .ptr 0 0∧E 5= .sl 1 0 n 1 (some n)∧E 6= .int .i64 (i:Nat)∧E 7= .int .i64 (j:Nat)∧E 12=v12∧E 13=v13) (n:=i)
  ⟨0,X0,by omega,hX0,fun s t hs ht=>by
   rw [hx0 s t hs ht]
   by_cases e:s<i∧t<i
   ·rw [if_pos e,if_pos (.inl e)]
   ·rw [if_neg e,if_neg (by omega)],rfl,e0,e5,e6,e7,e12,e13⟩ ?_
 clear e0 e5 e6 e7 e12 e13 E hX0 hx0 X0
 rintro q E H ⟨j,X,hjq,hX,hx,rfl,e0,e5,e6,e7,e12,e13⟩
 refine wpC_sound mixed ?_
 simp only [l41_1,r41_6,SS,reduceIte,qQ,e6,e7]
 refine ⟨fun hlt=>?_,fun hge=>?_⟩
 ·obtain ⟨q,rfl⟩:∃q',q=q'+1:=⟨q-1,by omega⟩
  have hj:j<i:=by omega
  have hXl:=hX.len
  have w5:IntKind.i64.wrap ((j:Int)+1)=((j+1:Nat):Int):=by rw [show (j:Int)+1=((j+1:Nat):Int) by omega];exact w64 (by omega) (by omega)
  have hK:=tapeK_le hk (n+triK i+j)
  have tN:=tNext (c:=c) h hK
  have hnk:nextK l (tapeK l k (n+triK i+j))=tapeK l k (n+triK i+(j+1)):=rfl
  rw [hnk] at tN
  obtain ⟨g1,g2⟩:=gen_ent (l:=l) (k:=k) hi hj
  have hoff:Int.tmod (nextZ l (tapeK l k (n+triK i+j))) 3=ent (genM l k n) i j:=by
   rw [g1]
   unfold offZ
   rw [tapeK_add,yQ]
  have hr:=offZ_rng l (tapeK l k n) i j
  have w6:IntKind.i64.wrap (Int.tmod (nextZ l (tapeK l k (n+triK i+j))) 3)=ent (genM l k n) i j:=by
   rw [hoff,g1];exact w64 (by omega) (by omega)
  have hP:=tP_len l c (tapeK l k (n+triK i+j))
  have hP':=tP_len l c (tapeK l k (n+triK i+(j+1)))
  have ko:=bO_outer (N:=n) (n:=n) (rows:=X) hP
  have ko':=bO_outer (N:=n) (n:=n) (rows:=setM X i j (ent (genM l k n) i j)) hP'
  rw [hXl] at ko
  rw [setM_len,hXl] at ko'
  have kl:=outO_len (o:=1) (N:=n) (n:=n) (i:=n) (qU _)
  have kg:=outO_get (o:=1) (N:=n) (n:=n) (i:=n) (k:=i) hi
  have kg2:=outO_get (o:=1) (N:=n) (n:=n) (i:=n) (k:=j) (by omega)
  have gr:=bO_row (N:=n) (n:=n) (rows:=X) hP' (i:=i) (by omega)
  have hs1:=bO_set (N:=n) (n:=n) (rows:=X) hP' (i:=i) ((X.getD i []).set j (ent (genM l k n) i j))
  have eM:X.set i ((X.getD i []).set j (ent (genM l k n) i j))=setM X i j (ent (genM l k n) i j):=rfl
  rw [eM] at hs1
  have hX1:Shp n (setM X i j (ent (genM l k n) i j)):=hX.set hi
  have gr1:=bO_row (N:=n) (n:=n) (rows:=setM X i j (ent (genM l k n) i j)) hP' (i:=i) (by rw [hX1.len];exact hi)
  have gr2:=bO_row (N:=n) (n:=n) (rows:=setM X i j (ent (genM l k n) i j)) hP' (i:=j) (by rw [hX1.len];omega)
  have lX:=hX.row i hi
  have l1:=hX1.row i hi
  have l2:=hX1.row j (by omega)
  have gz:(i64z ((setM X i j (ent (genM l k n) i j)).getD i [])).getD j .junk= .int .i64 (ent (genM l k n) i j):=by
   rw [i64z_getD _ j (by omega)]
   have:=hX.ent_set (z:=ent (genM l k n) i j) hi (show j<n by omega) i j
   unfold ent at this ⊢
   rw [this,if_pos ⟨rfl,rfl⟩]
  have hs2:=bO_set (N:=n) (n:=n) (rows:=setM X i j (ent (genM l k n) i j)) hP' (i:=j) (((setM X i j (ent (genM l k n) i j)).getD j []).set i (ent (genM l k n) i j))
  have eM2:(setM X i j (ent (genM l k n) i j)).set j (((setM X i j (ent (genM l k n) i j)).getD j []).set i (ent (genM l k n) i j))=setM (setM X i j (ent (genM l k n) i j)) j i (ent (genM l k n) i j):=rfl
  rw [eM2] at hs2
  simp only [r41_7,SS,forall_const,reduceCtorEq,reduceIte,qQ,e0,e5,e6,e7,qK,ko,kl,kg]
  refine ⟨⟨by omega,by omega⟩,by omega,?_⟩
  refine callA_one0 (id:=0) tN (tP_get _ _ _ _) rfl ?_
  simp only [restA,applyE,keys,qR,xW,SS,reduceIte,qQ,tP_set,hoff,gr,lX,i64z_len,qK,i64z_set]
  refine ⟨by decide,⟨by omega,by omega⟩,by omega,rfl,?_⟩
  rw [hs1]
  simp only [r41_8,SS,forall_const,reduceIte,qQ,e5,e6,e7,qK,ko',kl,kg,kg2,gr1,gr2,l1,l2,gz,i64z_len,i64z_set]
  refine ⟨⟨by omega,by omega⟩,by omega,⟨by omega,by omega⟩,by omega,⟨by omega,by omega⟩,by omega,⟨by omega,by omega⟩,by omega,rfl,?_⟩
  rw [hs2]
  simp only [r41_9,SS,reduceIte,qQ,e7,w5]
  refine ⟨q,_,_,by omega,⟨j+1,setM (setM X i j (ent (genM l k n) i j)) j i (ent (genM l k n) i j),by omega,hX1.set (by omega),fun s t hs ht=>?_,rfl,?_,?_,?_,?_,?_,?_⟩,.refl⟩
  ·rw [hX1.ent_set (by omega) hi,hX.ent_set hi (by omega),hx s t hs ht]
   by_cases a1:s=j∧t=i
   ·rw [if_pos a1,if_pos (.inr (.inr ⟨a1.2,by omega⟩)),a1.1,a1.2,g1,g2]
   ·rw [if_neg a1]
    by_cases a2:s=i∧t=j
    ·rw [if_pos a2,if_pos (.inr (.inl ⟨a2.1,by omega⟩)),a2.1,a2.2]
    ·rw [if_neg a2]
     by_cases a3:(s<i∧t<i)∨(s=i∧t<j)∨(t=i∧s<j)
     ·rw [if_pos a3,if_pos (by omega)]
     ·rw [if_neg a3,if_neg (by omega)]
  all_goals simp only [upd_app,qQ,reduceIte,if_false, *]
 ·have hji:j=i:=by omega
  subst hji
  have htri:n+triK (j+1)=n+triK j+j:=by show n+(triK j+j)=_;omega
  rw [←htri]
  refine hQ _ X hX (fun s t hs ht=>?_) (by simp only [upd_app,qQ,if_false,e0]) (by simp only [upd_app,qQ,if_false,e5]) (by simp only [upd_app,qQ,if_false,e12]) (by simp only [upd_app,qQ,if_false,e13])
  rw [hx s t hs ht]
  by_cases e:s=j∧t=j
  ·rw [e.1,e.2,if_neg (by omega),if_pos (by omega),gen_diag hi]
  ·by_cases e2:s<j+1∧t<j+1
   ·rw [if_pos e2,if_pos (by omega)]
   ·rw [if_neg e2,if_neg (by omega)]
theorem tGeneral {l:List Int} {c:Option Nat} {k n:Nat} (h:Tape8 l) (hk:k≤l.length) (hn:1≤n∧n≤8):
  Ret Tryz.prog G 41 [.ptr 0 0,.int .i64 (n:Nat)] [some (tapeC l c k)] (.sl 1 0 n 1 (some n)) (tP l c (tapeK l k (n+triK n))++bO 1 n n (genM l k n)):=by
 have hG:Shp n (genM l k n):=mkM_shp _ _
 have tD:=tDiagonal (c:=c) (most:=6) h hk hn (by omega)
 have hlen:(bO 1 n n (diaM l k n 6)).length=n+1:=by simp [bO,(dia_shp l k n 6).len]
 have heff:=tape_eff (H:=[some (tapeC l c k)]) (id:=0) (n:=n) (cs':=tapeC l c (tapeK l k n)) (M:=diaM l k n 6) (Nat.zero_lt_one)
 refine Ret_of mixed Tryz.func41 comp41 _ 45 res41 nt41 (by simp) (by simp only [xB,tP_len,yU,xM];omega) ?_
 simp only [c41,r41_0,r41_1,SS,reduceCtorEq,reduceIte,qQ]
 refine callA_one (id:=0) (cs:=tapeC l c k) (cs':=tapeC l c (tapeK l k n)) (L:=bO 1 n n (diaM l k n 6)) tD rfl rfl rfl rfl rfl ?_
 have hv:(AV.sl 1 0 n 1 (some n)).ren (names [0] [some (tapeC l c k)].length)= .sl 1 0 n 1 (some n):=rfl
 rw [hv]
 simp only [restA]
 rw [heff]
 have e1:([some (tapeC l c k)].set 0 (some (tapeC l c (tapeK l k n)))++bO [some (tapeC l c k)].length n n (diaM l k n 6):Heap)=tP l c (tapeK l k n)++bO 1 n n (diaM l k n 6):=rfl
 rw [e1]
 simp only [SS,reduceIte,qQ]
 simp only [r41_2,SS,reduceIte,qQ]
 refine W_loop (fun q E H=>∃i X,i+q=n∧Shp n X∧(∀s t,s<n→t<n→ent X s t=if s<i∧t<i then ent (genM l k n) s t else ent (diaM l k n 6) s t)∧H=tP l c (tapeK l k (n+triK i))++bO 1 n n X∧E 0= .ptr 0 0∧E 5= .sl 1 0 n 1 (some n)∧E 12= .int .i64 (n:Nat)∧E 13= .int .i64 (i:Nat)) (n:=n)
  ⟨0,diaM l k n 6,by omega,dia_shp _ _ _ _,fun s t _ _=>by rw [if_neg (by omega)],rfl,by simp only [upd_app,argsE_app,qV,qQ,if_false],by simp only [upd_app,argsE_app,qX,qQ,reduceIte,if_false],by simp only [upd_app,argsE_app,qX,qQ,reduceIte,if_false],by simp only [upd_app,argsE_app,qX,qQ,reduceIte,if_false];rfl⟩ ?_
 rintro q E H ⟨i,X,hiq,hX,hx,rfl,e0,e5,e12,e13⟩
 refine wpC_sound mixed ?_
 simp only [l41_0,r41_3,SS,reduceCtorEq,reduceIte,e12,e13]
 refine ⟨fun hlt=>?_,fun hge=>?_⟩
 ·obtain ⟨q,rfl⟩:∃q',q=q'+1:=⟨q-1,by omega⟩
  have hi:i<n:=by omega
  have w5:IntKind.i64.wrap ((i:Int)+1)=((i+1:Nat):Int):=by rw [show (i:Int)+1=((i+1:Nat):Int) by omega];exact w64 (by omega) (by omega)
  simp only [r41_4,r41_5,SS,reduceIte,qQ,e13]
  refine tGen_in (c:=c) h hk hn hi hX hx (by simp only [upd_app,qQ,if_false,e0]) (by simp only [upd_app,qQ,if_false,e5]) (by simp only [upd_app,qQ,reduceIte,if_false]) (by simp only [upd_app,qQ,reduceIte,if_false]) (by simp only [upd_app,qQ,if_false];exact e12) (by simp only [upd_app,qQ,if_false];exact e13) ?_
  intro E' X' hX' hx' f0 f5 f12 f13
  simp only [SS,reduceCtorEq,reduceIte,qQ,r41_10,f13,w5]
  refine ⟨q,_,_,by omega,⟨i+1,X',by omega,hX',hx',rfl,?_,?_,?_,?_⟩,.refl⟩
  all_goals simp only [upd_app,qQ,reduceIte,if_false, *]
 ·have hin:i=n:=by omega
  subst hin
  have e:X=genM l k i:=shp_ext hX hG fun s t hs ht=>by rw [hx s t hs ht,if_pos ⟨hs,ht⟩]
  subst e
  simp only [r41_11,SS,reduceIte,qQ,e5]
  exact ⟨.inl trivial,_,rfl,.keep _ _⟩
theorem zero_first (N n:Nat):∃H1 ps,applyE (effs (names [] 0) 0 (zH N n N)) (List.replicate (zH N n N).length none)=H1∧MatH H1 0 ps n (zmat N n):=
 ⟨_,_,effs_new (H:=[]) (names [] 0) (fun i=>names_nil 0 i) (zH N n N) [],zero_shift [] N n⟩
theorem mIdentity {n:Nat} (hn:1≤n∧n≤16) {I:List (List Int)} (h1:I.length=n) (h2:∀i,i<n→(I.getD i []).length=n) (h3:∀i j,i<n→j<n→ent I i j=if i=j then 1 else 0):
  Ret Tryz.prog G 35 [.int .i64 (n:Nat)] [] (.tup [matC I,.bool true]) []:=by
 refine Ret_ofw mixed Tryz.func35 comp35 _ 29 res35 nt35 (by simp) (by simp) ?_
 simp only [c35,r35_0,r35_1,SS,forall_const,reduceCtorEq,reduceIte,qQ]
 refine ⟨fun _=>⟨fun h=>absurd h (by omega),fun _=>?_⟩,fun h=>absurd h (by omega)⟩
 simp only [r35_3,SS,reduceCtorEq,reduceIte,qQ]
 refine callA_new (mZero hn.2 hn.2) rfl ?_
 obtain ⟨H1,ps,hH1,hz⟩:=zero_first n n
 simp only [restA,SS,reduceIte,qQ,AV.ren,names_nil,xU,hH1]
 simp only [r35_4,SS,reduceIte,qQ]
 refine W_loop (fun k E H=>∃i X,i+k=n∧MatH H 0 ps n X∧X.length=n∧(∀s t,ent X s t=if s<i∧s=t then 1 else 0)∧E 4= .sl 0 0 n 1 (some n)∧E 16= .int .i64 (n:Nat)∧E 17= .int .i64 (i:Nat)) (n:=n) ⟨0,zmat n n,by omega,hz,(zmat_shp _ _).1,fun s t=>by rw [if_neg (by omega),zmat_ent],by simp only [upd_app,argsE_app,qX,qQ,reduceIte,if_false],by simp only [upd_app,argsE_app,qX,qQ,reduceIte,if_false],by simp only [upd_app,argsE_app,qX,qQ,reduceIte,if_false];rfl⟩ ?_
 rintro k E H ⟨i,X,hik,hM,hXl,hX,e4,e16,e17⟩
 refine wpC_sound mixed ?_
 simp only [l35_0,r35_5,SS,reduceCtorEq,reduceIte,e16,e17]
 refine ⟨fun hlt=>?_,fun hge=>?_⟩
 ·obtain ⟨k,rfl⟩:∃k',k=k'+1:=⟨k-1,by omega⟩
  have hi:i<n:=by omega
  obtain ⟨csk,gk,lk,rk,fk⟩:=mat_get hM (i:=i) (by omega)
  have ok:=mat_outer (ps:=ps) (n:=n) (i:=i) (by rw [hM.len];omega)
  have hol:(ps.map (slRow n)).length=n:=by rw [xV,hM.len];exact hXl
  have hou:=hM.outer
  obtain ⟨v,hv,ts⟩:=zSmall 1 (by omega) (by omega)
  have hv0:=hv
  obtain ⟨lv,cv,_,_,_,rfl⟩:=hv0
  have hset:=mat_set hM (i:=i) (j:=i) (by omega) hi hv gk
  have w5:IntKind.i64.wrap ((i:Int)+1)=((i+1:Nat):Int):=by rw [show (i:Int)+1=((i+1:Nat):Int) by omega];exact w64 (by omega) (by omega)
  simp only [r35_6,r35_7,SS,forall_const,reduceIte,qQ,e4,e17,qK,hou,hol,ok]
  refine ⟨⟨by omega,by omega⟩,by omega,?_⟩
  refine callA_pure ts ?_
  simp only [SS,reduceIte,qJ,qQ,gk,lk,qK]
  refine ⟨⟨by omega,by omega⟩,by omega,rfl,?_⟩
  simp only [r35_8,SS,reduceIte,qQ,e17,w5]
  refine ⟨k,_,_,by omega,⟨i+1,setM X i i 1,by omega,hset,by rw [setM_len];exact hXl,?_,?_,?_,?_⟩,.refl⟩
  ·intro s t
   rw [ent_set' (by omega) (by rw [hM.cols i (by omega)];exact hi),hX]
   by_cases h1:s=i∧t=i
   ·rw [if_pos h1,if_pos ⟨by omega,by omega⟩]
   ·rw [if_neg h1]
    by_cases h2:s<i∧s=t
    ·rw [if_pos h2,if_pos ⟨by omega,h2.2⟩]
    ·rw [if_neg h2,if_neg (by omega)]
  all_goals simp only [upd_app,qQ,reduceIte,if_false, *]
 ·have hin:i=n:=by omega
  subst hin
  have e:X=I:=by
   refine mat_ext hXl h1 (fun s hs=>hM.cols s (by omega)) h2 fun s t hs ht=>?_
   rw [hX,h3 s t hs ht]
   by_cases h:s=t
   ·rw [if_pos ⟨hs,h⟩,if_pos h]
   ·rw [if_neg (fun e=>h e.2),if_neg h]
  subst e
  simp only [r35_9,SS,reduceIte,qQ,e4]
  obtain ⟨v,g1,g2⟩:=fin_matT (cap:=some i) (b:=true) hM
  rw [hXl] at g1
  exact ⟨.inl trivial,_,v,rfl,g1,g2⟩
theorem mTr_in {M:List (List Int)} {rows:List AV} {c cap:Option Nat} {n:Nat} (hn:n≤16) (hN:M.length≤16) (hl:rows.length=M.length) (hr:∀i,i<M.length→IsRowV (M.getD i []) (rows.getD i .junk)) (hc:∀i,i<M.length→(M.getD i []).length=n)
  {i:Nat} (hi:i<M.length) {v22 v23:AV} {Q:Post} {ps:List (Nat×Option Nat)} {X0:List (List Int)} (hX0:X0.length=n)
  {E:Env} {H:Heap} (hM:MatH H 0 ps M.length X0) (e0:E 0= .vec rows M.length c) (e7:E 7= .sl 0 0 n 1 cap) (e8:E 8= .int .i64 (i:Nat)) (e22:E 22=v22) (e23:E 23=v23) (e30:E 30= .int .i64 (n:Nat)) (e31:E 31= .int .i64 0)
  (hQ:∀E' H' X,MatH H' 0 ps M.length X→X.length=n→(∀s t,ent X s t=if t=i∧s<n then ent M t s else ent X0 s t)→E' 0= .vec rows M.length c→E' 7= .sl 0 0 n 1 cap→E' 22=v22→E' 23=v23→Q (.exit 2) E' H'):
  W Tryz.prog G 0 51 (.loop l87_1) E H Q:=by
 refine W_loop (fun k E H=>∃j X,j+k=n∧MatH H 0 ps M.length X∧X.length=n∧(∀s t,ent X s t=if t=i∧s<j then ent M t s else ent X0 s t)∧E 0= .vec rows M.length c∧E 7= .sl 0 0 n 1 cap∧E 8= .int .i64 (i:Nat)∧E 22=v22∧E 23=v23∧
  E 30= .int .i64 (n:Nat)∧E 31= .int .i64 (j:Nat)) (n:=n) ⟨0,X0,by omega,hM,hX0,fun s t=>by rw [if_neg (by omega)],e0,e7,e8,e22,e23,e30,e31⟩ ?_
 clear hM e0 e7 e8 e22 e23 e30 e31 E H
 rintro k E H ⟨j,X,hjk,hM,hXl,hX,e0,e7,e8,e22,e23,e30,e31⟩
 refine wpC_sound mixed ?_
 simp only [l87_1,r87_9,SS,reduceIte,e30,e31]
 refine ⟨fun hlt=>?_,fun hge=>?_⟩
 ·obtain ⟨k,rfl⟩:∃k',k=k'+1:=⟨k-1,by omega⟩
  have hj:j<n:=by omega
  obtain ⟨csk,gk,lk,rk,fk⟩:=mat_get hM (i:=j) (by omega)
  have ok:=mat_outer (ps:=ps) (n:=M.length) (i:=j) (by rw [hM.len];omega)
  have hol:(ps.map (slRow M.length)).length=n:=by rw [xV,hM.len];exact hXl
  have hou:=hM.outer
  obtain ⟨csi,ci,hei,hci⟩:=hr i hi
  have hcl:=rowC_len hci
  obtain ⟨u,v,hu,hz⟩:=rowC_get hci j (by rw [hc i hi];exact hj)
  obtain ⟨w,hw,ts⟩:=zNormalize hz
  obtain ⟨lz,cz,hz1,hz2⟩:=intCells hz
  subst hz1 hz2
  have hw0:=hw
  obtain ⟨lv,cv,_,_,_,rfl⟩:=hw0
  have hset:=mat_set hM (i:=j) (j:=i) (by omega) hi hw gk
  have w5:IntKind.i64.wrap ((j:Int)+1)=((j+1:Nat):Int):=by rw [show (j:Int)+1=((j+1:Nat):Int) by omega];exact w64 (by omega) (by omega)
  simp only [r87_10,r87_11,SS,forall_const,reduceCtorEq,reduceIte,qQ,e0,e7,e8,e31,qK,hou,hol,ok,hl,hei,hcl,hc i hi,hu]
  refine ⟨⟨by omega,by omega⟩,by omega,⟨by omega,by omega⟩,by omega,⟨by omega,by omega⟩,by omega,?_⟩
  refine callA_pure ts ?_
  simp only [SS,reduceIte,qJ,qQ,gk,lk,qK]
  refine ⟨⟨by omega,by omega⟩,by omega,rfl,?_⟩
  simp only [r87_12,SS,reduceIte,qQ,e31,w5]
  refine ⟨k,_,_,by omega,⟨j+1,setM X j i (ent M i j),by omega,hset,by rw [setM_len];exact hXl,?_,?_,?_,?_,?_,?_,?_,?_⟩,.refl⟩
  ·intro s t
   rw [ent_set' (by omega) (by rw [hM.cols j (by omega)];exact hi),hX]
   by_cases h1:s=j∧t=i
   ·rw [if_pos h1,if_pos ⟨h1.2,by omega⟩,h1.1,h1.2]
   ·rw [if_neg h1]
    by_cases h2:t=i∧s<j
    ·rw [if_pos h2,if_pos ⟨h2.1,by omega⟩]
    ·rw [if_neg h2,if_neg (by omega)]
  all_goals simp only [upd_app,qQ,reduceIte,if_false, *]
 ·have hjn:j=n:=by omega
  subst hjn
  exact hQ _ _ X hM hXl hX (by simp only [upd_app,qQ,if_false,e0]) (by simp only [upd_app,qQ,if_false,e7]) (by simp only [upd_app,qQ,if_false,e22]) (by simp only [upd_app,qQ,if_false,e23])
theorem mTranspose {M:List (List Int)} {a:AV} {n:Nat} (h:MatV M a) (hn:1≤n∧n≤16) (hN:1≤M.length∧M.length≤16) (hc:∀i,i<M.length→(M.getD i []).length=n)
  {T:List (List Int)} (h1:T.length=n) (h2:∀i,i<n→(T.getD i []).length=M.length) (h3:∀i j,i<n→j<M.length→ent T i j=ent M j i):
  Ret Tryz.prog G 87 [a] [] (.tup [matC T,.bool true]) []:=by
 have ts:=mShape h ⟨hN.1,hN.2,fun i hi=>by rw [hc i hi,hc 0 (by omega)];exact ⟨hn.1,hn.2,rfl⟩⟩
 rw [hc 0 (by omega)] at ts
 obtain ⟨rows,c,rfl,hl,hr⟩:=h
 refine Ret_ofw mixed Tryz.func87 comp87 _ 51 res87 nt87 (by simp) (by simp) ?_
 simp only [c87,r87_0,r87_1,SS,reduceCtorEq,reduceIte]
 refine callA_pure ts ?_
 simp only [SS,forall_const,reduceIte,qQ,r87_2,r87_4,qB,qA]
 refine callA_new (mZero hn.2 hN.2) rfl ?_
 obtain ⟨H1,ps,hH1,hz⟩:=zero_first n M.length
 simp only [restA,SS,reduceIte,qQ,AV.ren,names_nil,xU,hH1]
 simp only [r87_5,SS,reduceCtorEq,reduceIte,qQ]
 refine W_loop (fun k E H=>∃i X,i+k=M.length∧MatH H 0 ps M.length X∧X.length=n∧(∀s t,ent X s t=if t<i∧s<n then ent M t s else 0)∧E 0= .vec rows M.length c∧E 7= .sl 0 0 n 1 (some n)∧E 22= .int .i64 (M.length:Nat)∧E 23= .int .i64 (i:Nat)) (n:=M.length) ⟨0,zmat n M.length,by omega,hz,(zmat_shp _ _).1,fun s t=>by rw [if_neg (by omega),zmat_ent],by simp only [upd_app,argsE_app,qV,qQ,if_false],by simp only [upd_app,argsE_app,qX,qQ,reduceIte,if_false],by simp only [upd_app,argsE_app,qX,qQ,reduceIte,if_false],by simp only [upd_app,argsE_app,qX,qQ,reduceIte,if_false];rfl⟩ ?_
 rintro k E H ⟨i,X,hik,hM,hXl,hX,e0,e7,e22,e23⟩
 refine wpC_sound mixed ?_
 simp only [l87_0,r87_6,SS,reduceCtorEq,reduceIte,e22,e23]
 refine ⟨fun hlt=>?_,fun hge=>?_⟩
 ·obtain ⟨k,rfl⟩:∃k',k=k'+1:=⟨k-1,by omega⟩
  have hi:i<M.length:=by omega
  obtain ⟨csi,ci,hei,hci⟩:=hr i hi
  have hcl:=rowC_len hci
  have w5:IntKind.i64.wrap ((i:Int)+1)=((i+1:Nat):Int):=by rw [show (i:Int)+1=((i+1:Nat):Int) by omega];exact w64 (by omega) (by omega)
  simp only [r87_7,r87_8,SS,forall_const,reduceCtorEq,reduceIte,qQ,e0,e23,qK,hei,hl,hc i hi]
  refine ⟨⟨by omega,by omega⟩,by omega,?_⟩
  refine mTr_in (c:=c) (cap:=some n) hn.2 hN.2 hl hr hc hi hXl hM (by simp only [upd_app,qQ,if_false,e0]) (by simp only [upd_app,qQ,if_false,e7]) (by simp only [upd_app,qQ,reduceIte,if_false]) (by simp only [upd_app,qQ,if_false];exact e22) (by simp only [upd_app,qQ,if_false];exact e23) (by simp only [upd_app,qQ,reduceIte,if_false]) (by simp only [upd_app,qQ,reduceIte,if_false]) ?_
  intro E' H' X' hM' hXl' hX' f0 f7 f22 f23
  simp only [SS,reduceCtorEq,reduceIte,qQ,r87_13,f23,w5]
  refine ⟨k,_,_,by omega,⟨i+1,X',by omega,hM',hXl',?_,?_,?_,?_,?_⟩,.refl⟩
  ·intro s t
   rw [hX',hX]
   by_cases h1:t=i∧s<n
   ·rw [if_pos h1,if_pos ⟨by omega,h1.2⟩]
   ·rw [if_neg h1]
    by_cases h2:t<i∧s<n
    ·rw [if_pos h2,if_pos ⟨by omega,h2.2⟩]
    ·rw [if_neg h2,if_neg (by omega)]
  all_goals simp only [upd_app,qQ,reduceIte,if_false, *]
 ·have hin:i=M.length:=by omega
  subst hin
  have e:X=T:=by
   refine mat_ext hXl h1 (fun s hs=>hM.cols s (by omega)) h2 fun s t hs ht=>?_
   rw [hX,h3 s t hs ht,if_pos ⟨ht,hs⟩]
  subst e
  simp only [r87_14,SS,reduceIte,qQ,e7]
  obtain ⟨v,g1,g2⟩:=fin_matT (cap:=some n) (b:=true) hM
  rw [hXl] at g1
  exact ⟨.inl trivial,_,v,rfl,g1,g2⟩
def dotS (r s:List Int):Nat→Int
 | 0=>0
 | k+1=>dotS r s k+r.getD k 0*s.getD k 0
theorem mDot {r s:List Int} {a b:AV} (ha:IsRowV r a) (hb:IsRowV s b) (hl:s.length=r.length) (h16:r.length≤16) (hB:∀i,i<r.length→(r.getD i 0*s.getD i 0).natAbs<BIG) (hS:∀k,k≤r.length→(dotS r s k).natAbs<BIG):
  Ret Tryz.prog G 132 [a,b] [] (intV (dotS r s r.length)) []:=by
 obtain ⟨ra,ca,rfl,hra⟩:=ha
 obtain ⟨sb,cb,rfl,hsb⟩:=hb
 have la:=rowC_len hra
 have lb:=rowC_len hsb
 refine Ret_ofw mixed Tryz.func132 comp132 _ 26 res132 nt132 (by simp) (by simp) ?_
 simp only [c132,r132_0,r132_1,r132_2,SS,reduceCtorEq,reduceIte,qJ,qQ,qZ]
 refine W_loop (fun m E H=>∃k u v,k+m=r.length∧H=[some [AV.bool false,AV.vec [] 0 (some 0)],some [u,v]]∧IsInt (dotS r s k) (.agg [u,v])∧E 0= .vec ra r.length ca∧E 1= .vec sb s.length cb∧E 4= .ptr 0 0∧E 5= .ptr 1 0∧E 9= .int .i64 (r.length:Nat)∧E 10= .int .i64 (k:Nat)) (n:=r.length)
  ⟨0,_,_,by omega,rfl,isInt_zero,by simp only [upd_app,argsE_app,qV,qQ,if_false],by simp only [upd_app,argsE_app,qV,qX,qQ,if_false],by simp only [upd_app,argsE_app,qX,qQ,reduceIte,if_false],by simp only [upd_app,argsE_app,qX,qQ,reduceIte,if_false],by simp only [upd_app,argsE_app,qX,qQ,reduceIte,if_false],by simp only [upd_app,argsE_app,qX,qQ,reduceIte,if_false];rfl⟩ ?_
 rintro m E H ⟨k,u,v,hkm,rfl,hz,e0,e1,e4,e5,e9,e10⟩
 refine wpC_sound mixed ?_
 obtain ⟨lz,cz,hz1,hz2⟩:=intCells hz
 subst hz1 hz2
 simp only [l132_0,r132_3,SS,reduceCtorEq,reduceIte,e9,e10]
 refine ⟨fun hlt=>?_,fun hge=>?_⟩
 ·obtain ⟨m,rfl⟩:∃m',m=m'+1:=⟨m-1,by omega⟩
  have hk:k<r.length:=by omega
  obtain ⟨u1,v1,g1,hz1⟩:=rowC_get hra k hk
  obtain ⟨u2,v2,g2,hz2⟩:=rowC_get hsb k (by omega)
  obtain ⟨p,hp,t1⟩:=zMul hz1 hz2 (hB k hk)
  obtain ⟨q,hq,t2⟩:=zAdd hz hp (hS (k+1) hk)
  obtain ⟨l1,c1,x1,y1⟩:=intCells hz1
  obtain ⟨l2,c2,x2,y2⟩:=intCells hz2
  subst x1 y1 x2 y2
  obtain ⟨lp,cp,_,_,_,rfl⟩:=id hp
  obtain ⟨lq,cq,_,_,_,rfl⟩:=id hq
  have w5:IntKind.i64.wrap ((k:Int)+1)=((k+1:Nat):Int):=by rw [show (k:Int)+1=((k+1:Nat):Int) by omega];exact w64 (by omega) (by omega)
  simp only [r132_4,r132_5,SS,reduceCtorEq,reduceIte,qJ,qQ,qZ,e0,e1,e5,e10,qK,g1,g2,la,lb,hl]
  refine ⟨⟨by omega,by omega⟩,by omega,⟨by omega,by omega⟩,by omega,?_⟩
  refine callA_pure t1 ?_
  simp only [SS,reduceIte,qQ]
  refine callA_pure t2 ?_
  simp only [SS,reduceIte,qJ,qQ,qZ,e5]
  refine ⟨rfl,?_⟩
  simp only [r132_6,SS,reduceIte,qQ,e10,w5]
  refine ⟨m,_,_,by omega,⟨k+1,_,_,by omega,rfl,hq,?_,?_,?_,?_,?_,?_⟩,.refl⟩
  all_goals first | (simp only [upd_app,qQ,reduceIte,if_false, *];done) | (simp only [upd_app,argsE_app,qV,qX,qQ,reduceIte,if_false, *];rw [hl])
 ·have hkr:k=r.length:=by omega
  subst hkr
  simp only [r132_7,SS,reduceIte,qJ,qQ,qZ,e4,e5]
  exact ⟨.inl trivial,_,_,resA_int (id:=0) (by simp only [upd_app,qQ,if_false,e4]) rfl,.drop _ _ rfl (by intro i cs h;omega),hz.wk⟩
open Go.Det
theorem bnd_fits {A0:Nat} {M:List (List Int)} (hb:Bnd A0 M) (hA:A0<BIG):FitsM M:=by
 intro r hr z hz
 obtain ⟨i,hi,rfl⟩:=xS hr
 obtain ⟨j,hj,rfl⟩:=xS hz
 have:=hb i j
 unfold ent at this
 rw [qW (l:=M),qC hi,xJ,qW,qC hj,xJ] at this
 omega
theorem sq_mk {n A0:Nat} {M:List (List Int)} (hS:Shp n M) (hn:1≤n∧n≤8) (hb:Bnd A0 M) (hA:A0<BIG):Sq n M (matC M):=⟨matC_ok (bnd_fits hb hA),hS.len,hS.row,hn.1,hn.2⟩
end Go.Proofs.YtenboapacjlmoaaGreatDoor
namespace Go.Proofs.YtenboapacjlmoaaGreatDoor
open Nat renaming reduceEqDiff → qQ, reduceAdd → qJ, le_refl → qU, lt_or_ge → qG, pow_le_pow_right → qL, mul_assoc → qM, add_zero → xU, mul_le_mul_right → xO, add_assoc → yQ, add_sub_cancel → yZ
open List renaming getD_cons_succ → qX, getD_cons_zero → qV, getElem?_cons_succ → qA, getElem?_cons_zero → qB, length_map → xV
open Int renaming toNat_natCast → qK, mul_le_mul_of_nonneg_right → qE, mul_le_mul_of_nonneg_left → qH, le_refl → xK, pow_succ → yV, one_mul → yC, add_mul → yD
open Go.AL.AV.closed renaming closedL → qY
open Bool renaming and_self → qS
set_option linter.unusedSimpArgs false
set_option linter.unusedVariables false
open Go Go.AL Go.Det
def MuOK (n:Nat) (a:Nat→Row) (k:Nat):Prop:=(∀i j,CurA n a i j→prodL a n*100+(n-i)*10+j+1≤k)∧∀i,CurS n a i→prodL a n*100+(n-i)*10≤k
theorem mu_start {n:Nat} {a:Nat→Row} (h8:n≤8):MuOK n a (prodL a n*100+99):=
 ⟨fun i j c=>by have:=c.hi;have:=c.hj;omega,fun i c=>by omega⟩
theorem mu_add {n:Nat} {D K:Int} {a:Nat→Row} {i j:Nat} {c:Int} {k:Nat} (h:Pos n D a) (h8:n≤8) (hK:1≤K) (hKD:8*D≤K) (hc:CurA n a i j) (hg:Good n D K a) (hz:2*(stg a j i j+c*lead a (j+1))≤lead a (j+1)∧ -(2*(stg a j i j+c*lead a (j+1)))≤lead a (j+1))
  (hm:MuOK n a k):∃k',k'<k∧MuOK n (addG a i j c) k':=by
 obtain ⟨_,_,_,g1,g2⟩:=good_add h h8 hK hKD hc hg hz
 have hi:=hc.hi
 have hj:=hc.hj
 have hp:prodL (addG a i j c) n=prodL a n:=prod_congr n (fun t ht=>add_lead hj hi (h.ne (qU _)) ht)
 have:=hm.1 i j hc
 refine ⟨prodL a n*100+(n-i)*10+j,by omega,fun i' j' c'=>?_,fun i' c'=>?_⟩
 ·obtain ⟨l1,l2⟩:=g1 i' j' c'
  have:=c'.hi
  have:=c'.hj
  rw [hp]
  by_cases e:i'=i
  ·have:=l2 e
   subst e
   omega
  ·omega
 ·have:=g2 i' c'
  rw [hp]
  omega
theorem mu_sw {n:Nat} {D K:Int} {a:Nat→Row} {i:Nat} {k:Nat} (h:Pos n D a) (h8:n≤8) (hK:1≤K) (hc:CurS n a i) (hg:Good n D K a) (hm:MuOK n a k):∃k',k'<k∧MuOK n (swG a (i-1)) k':=by
 obtain ⟨gp,_,g1,g2⟩:=good_sw h hK hc hg
 have hlt:=prod_lt (b:=swG a (i-1)) hc.h0 g2 (gp.pos i (by have:=hc.hi;omega)) n (by have:=hc.hi;omega) g1 h.pos
 have:=hm.2 i hc
 exact ⟨prodL (swG a (i-1)) n*100+99,by omega,mu_start h8⟩
def nearZ (l d:Int):Int:=(2*l+d)/(2*d)
theorem near_ok {l d:Int} (hd:0<d):2*(l+ -(nearZ l d)*d)≤d∧ -(2*(l+ -(nearZ l d)*d))≤d:=by
 unfold nearZ
 have h1:=Int.ediv_mul_le (2*l+d) (show 2*d≠0 by omega)
 have h2:=Int.lt_ediv_add_one_mul_self (2*l+d) (show 0<2*d by omega)
 generalize (2*l+d)/(2*d)=q at*
 have e1:q*(2*d)=2*(q*d):=by grind
 have e2:(q+1)*(2*d)=2*(q*d)+2*d:=by grind
 have e3: -q*d= -(q*d):=by grind
 omega
structure LState (n:Nat) (D K:Int) (M0 M T:List (List Int)):Prop where
 shM:Shp n M
 shT:Shp n T
 pos:Pos n D (rowF M)
 good:Good n D K (rowF M)
 rel:∀s t,s<n→t<n→ent M s t=gramT (rowF M0) n (fun x y=>ent T x y) s t
theorem id_gram {n:Nat} (a:Nat→Row) {s t:Nat} (hs:s<n) (ht:t<n):gramT a n (fun x y=>ent (idM n) x y) s t=a s t:=by
 unfold gramT
 have e:sumR (fun x=>sumR (fun y=>a x y*ent (idM n) y t) n*ent (idM n) x s) n=sumR (fun x=>if x=s then a s t else 0) n:=by
  refine sumR_congr fun x hx=>?_
  have e2:sumR (fun y=>a x y*ent (idM n) y t) n=a x t:=by
   have e3:sumR (fun y=>a x y*ent (idM n) y t) n=sumR (fun y=>if y=t then a x t else 0) n:=by
    refine sumR_congr fun y hy=>?_
    rw [id_ent hy ht]
    split
    ·rename_i e;rw [e];omega
    ·omega
   rw [e3,sumR_one ht (fun z _ hne=>if_neg hne),if_pos rfl]
  rw [e2,id_ent hx hs]
  split
  ·rename_i e;rw [e];omega
  ·omega
 rw [e,sumR_one hs (fun z _ hne=>if_neg hne),if_pos rfl]
theorem gram_congr {n:Nat} (a:Nat→Row) {T T':Nat→Nat→Int} {s t:Nat} (hs:∀x,x<n→T x s=T' x s) (ht:∀x,x<n→T x t=T' x t):gramT a n T s t=gramT a n T' s t:=by
 unfold gramT
 refine sumR_congr fun x hx=>?_
 rw [hs x hx]
 congr 1
 exact sumR_congr fun y hy=>by rw [ht y hy]
section
variable {n:Nat} {D K:Int} {M0 M T:List (List Int)}
theorem LState.start (h1:Shp n M0) (hp:Pos n D (rowF M0)) (hK:1≤K) (ha:∀s,s<n→ent M0 s s≤K):LState n D K M0 M0 (idM n):=
 ⟨h1,mkM_shp n _,hp,good_all hp hK ha,fun s t hs ht=>(id_gram (rowF M0) hs ht).symm⟩
theorem LState.add {i j:Nat} (h:LState n D K M0 M T) (h8:n≤8) (hK:1≤K) (hKD:8*D≤K) (hc:CurA n (rowF M) i j):
  LState n D K M0 (cgM n M (addU n i j (-(nearZ (stg (rowF M) j i j) (lead (rowF M) (j+1)))))) (mulM n T (addU n i j (-(nearZ (stg (rowF M) j i j) (lead (rowF M) (j+1))))))∧
   ∀k,MuOK n (rowF M) k→∃k',k'<k∧MuOK n (rowF (cgM n M (addU n i j (-(nearZ (stg (rowF M) j i j) (lead (rowF M) (j+1))))))) k':=by
 have hi:=hc.hi
 have hj:=hc.hj
 have hz:=near_ok (l:=stg (rowF M) j i j) (h.pos.pos (j+1) (by omega))
 generalize -(nearZ (stg (rowF M) j i j) (lead (rowF M) (j+1)))=c at*
 have e:=cg_add (c:=c) h.shM (show i≠j by omega) hi (show j<n by omega)
 obtain ⟨_,g1,g2,_,_⟩:=good_add h.pos h8 hK hKD hc h.good hz
 refine ⟨⟨mkM_shp n _,mkM_shp n _,by rw [e];exact g1,by rw [e];exact g2,fun s t hs ht=>?_⟩,fun k hk=>by rw [e];exact mu_add h.pos h8 hK hKD hc h.good hz hk⟩
 have e2:ent (cgM n M (addU n i j c)) s t=addG (rowF M) i j c s t:=congrFun (congrFun e s) t
 rw [e2,gram_congr (rowF M0) (T':=fun x s=>ent T x s+if s=i then c*ent T x j else 0) (fun x hx=>mul_add (show i≠j by omega) hi (by omega) hx hs) (fun x hx=>mul_add (show i≠j by omega) hi (by omega) hx ht)]
 rw [gramT_add (a:=rowF M0) (n:=n) (fun x s=>ent T x s) i j c]
 unfold addG
 have r:=h.rel
 rw [←r s t hs ht,←r j t (by omega) ht,←r s j hs (by omega),←r j j (by omega) (by omega)]
 rfl
theorem LState.sw {p:Nat} (h:LState n D K M0 M T) (h8:n≤8) (hK:1≤K) (hc:CurS n (rowF M) (p+1)):LState n D K M0 (cgM n M (swapM (idM n) (p+1) p)) (mulM n T (swapM (idM n) (p+1) p))∧
   ∀k,MuOK n (rowF M) k→∃k',k'<k∧MuOK n (rowF (cgM n M (swapM (idM n) (p+1) p))) k':=by
 have hi:=hc.hi
 have e:=cg_sw h.shM hi
 obtain ⟨g1,g2,_,_⟩:=good_sw h.pos hK hc h.good
 simp only [yZ] at g1 g2
 refine ⟨⟨mkM_shp n _,mkM_shp n _,by rw [e];exact g1,by rw [e];exact g2,fun s t hs ht=>?_⟩,fun k hk=>by
  rw [e]
  have:=mu_sw h.pos h8 hK hc h.good hk
  simpa using this⟩
 have e2:ent (cgM n M (swapM (idM n) (p+1) p)) s t=ent M (Det.sw p s) (Det.sw p t):=congrFun (congrFun e s) t
 rw [e2,gram_congr (rowF M0) (T':=fun x s=>ent T x (Det.sw p s)) (fun x hx=>mul_sw hi hx hs) (fun x hx=>mul_sw hi hx ht),h.rel _ _ (sw_lt hi hs) (sw_lt hi ht)]
 rfl
theorem LState.bound (h:LState n D K M0 M T) (h8:n≤8) (hK:1≤K) (hp:Pos n D (rowF M0)) (ha:∀s,s<n→ent M0 s s≤K) (hcase:(∃i j,CurA n (rowF M) i j)∨(∃i,CurS n (rowF M) i)∨∀i,i<n→OKr (rowF M) i):
  (∀s t,s<n→t<n→ent M s t≤bigK D K∧ -(bigK D K)≤ent M s t)∧∀s t,s<n→t<n→ent T s t≤vecB D K (bigK D K) 7∧ -(vecB D K (bigK D K) 7)≤ent T s t:=by
 have hn:=fun s hs=>good_norm (s:=s) h.pos h8 hK h.good hcase hs
 refine ⟨fun s t hs ht=>h.pos.bound hn hs ht,fun s t hs ht=>?_⟩
 refine vec_all hp h8 hK ha (fun x=>ent T x t) ?_ hs
 rw [←gramT_norm (a:=rowF M0) (n:=n) (fun x y=>ent T x y) t,←h.rel t t ht ht]
 exact hn t ht
end
theorem diag_stg {a:Nat→Row} {n:Nat} (h0:∀i j,i≠j→a i j=0) (h1:∀i,i<n→0<a i i):∀k,k≤n→(∀t,t≤k→0<lead a t)∧∀i j,k≤i→k≤j→stg a k i j=lead a k*a i j:=by
 intro k
 induction k with
 | zero=>
  intro _
  refine ⟨fun t ht=>?_,fun i j _ _=>by rw [stg_zero,lead_zero,yC]⟩
  obtain rfl:t=0:=by omega
  rw [lead_zero];decide
 | succ k ih=>
  intro hk
  obtain ⟨p,q⟩:=ih (by omega)
  have e:lead a (k+1)=lead a k*a k k:=by rw [lead_stg,q k k (qU _) (qU _)]
  have pk:=p k (qU _)
  have pk1:0<lead a (k+1):=by rw [e];exact Int.mul_pos pk (h1 k (by omega))
  refine ⟨fun t ht=>?_,fun i j hi hj=>?_⟩
  ·rcases (by omega:t≤k∨t=k+1) with h | h
   ·exact p t h
   ·rw [h];exact pk1
  ·have r:=stg_rec (a:=a) (k:=k) (fun t ht=>by have:=p t ht;omega) i j
   rw [q i j (by omega) (by omega),q i k (by omega) (qU _),q k j (qU _) (by omega),h0 i k (by omega),Int.mul_zero,Int.zero_mul,Int.sub_zero] at r
   have e2:lead a (k+1)*(lead a k*a i j)=lead a k*(lead a (k+1)*a i j):=Int.mul_left_comm _ _ _
   rw [e2] at r
   exact Int.eq_of_mul_eq_mul_left (by omega) r
theorem diag_lead {a:Nat→Row} {n:Nat} {c:Int} (h0:∀i j,i≠j→a i j=0) (h1:∀i,i<n→0<a i i) (h2:∀i,i<n→a i i≤c) (hc:0≤c):∀k,k≤n→lead a k≤c^k:=by
 intro k
 induction k with
 | zero=>intro _;rw [lead_zero,Int.pow_zero];exact xK _
 | succ k ih=>
  intro hk
  obtain ⟨p,q⟩:=diag_stg h0 h1 k (by omega)
  rw [lead_stg,q k k (qU _) (qU _),yV]
  exact Int.mul_le_mul (ih (by omega)) (h2 k (by omega)) (by have:=h1 k (by omega);omega) (Int.pow_nonneg hc)
theorem pos_some {a:Nat→Row} {n:Nat} (hs:∀i j,i<n→j<n→a i j=a j i) (hp:∀k,k≤n→0<lead a k):∃D,Pos n D a:=by
 have:∀m,m≤n→∃D,∀k,k≤m→lead a k≤D:=by
  intro m
  induction m with
  | zero=>intro _;exact ⟨lead a 0,fun k hk=>by
    have e:k=0:=by omega
    rw [e];exact xK _⟩
  | succ m ih=>
   intro hm
   obtain ⟨D,h⟩:=ih (by omega)
   refine ⟨max D (lead a (m+1)),fun k hk=>?_⟩
   rcases (by omega:k≤m∨k=m+1) with h1 | h1
   ·have:=h k h1;omega
   ·rw [h1];omega
 obtain ⟨D,h⟩:=this n (qU _)
 exact ⟨D,hs,hp,h⟩
theorem pos_lead {a:Nat→Row} {n:Nat} {c:Int} (hs:∀i j,i<n→j<n→a i j=a j i) (hp:∀k,k≤n→0<lead a k) (hd:∀s,s<n→a s s≤c) (hc:1≤c):Pos n (c^n) a:=by
 obtain ⟨D,h⟩:=pos_some hs hp
 have key:∀k,k≤n→lead a k≤c^k:=by
  intro k
  induction k with
  | zero=>intro _;rw [lead_zero,Int.pow_zero];exact xK _
  | succ k ih=>
   intro hk
   have d:=h.down (s:=k) (by omega) k (qU _)
   rw [←lead_stg] at d
   have p:=hp k (by omega)
   have m1:lead a k*a k k≤lead a k*c:=qH (hd k (by omega)) (by omega)
   have m2:lead a k*c≤c^k*c:=qE (ih (by omega)) (by omega)
   rw [yV]
   omega
 refine ⟨hs,hp,fun k hk=>Int.le_trans (key k hk) ?_⟩
 obtain ⟨m,rfl⟩:∃m,n=k+m:=⟨n-k,by omega⟩
 clear key h hs hp hd hk D
 induction m with
 | zero=>exact xK _
 | succ m ih=>
  rw [←yQ,yV]
  have:0≤c^(k+m):=Int.pow_nonneg (by omega)
  have:=qH hc this
  omega
def goodD (n:Nat) (M:List (List Int)):Prop:=(∀k,k<n+1→0<lead (rowF M) k)∧lead (rowF M) n≤10000
instance (n:Nat) (M:List (List Int)):Decidable (goodD n M):=inferInstanceAs (Decidable (_∧_))
def gramM (l:List Int) (kind n:Nat):List (List Int):=if goodD n (rawM l kind n) then rawM l kind n else diaM l (rawK l kind n) n 2
theorem dia_good {l:List Int} {k n:Nat} (h8:n≤8):goodD n (diaM l k n 2):=by
 have h0:∀i j,i≠j→rowF (diaM l k n 2) i j=0:=by
  intro i j hij
  show ent (diaM l k n 2) i j=0
  by_cases h:i<n∧j<n
  ·rw [dia_get h.1 h.2,if_neg hij]
  ·exact (dia_small (l:=l) (k:=k) (n:=n) (most:=2) (by decide) (by decide)).shp.out (by omega)
 have hd:∀i,i<n→0<rowF (diaM l k n 2) i i∧rowF (diaM l k n 2) i i≤2:=by
  intro i hi
  show 0<ent (diaM l k n 2) i i∧ent (diaM l k n 2) i i≤2
  rw [dia_get hi hi,if_pos rfl]
  have:=byte_mod l (tapeK l k i) (show (1:Int)≤2 by decide)
  omega
 refine ⟨fun t ht=>(diag_stg h0 (fun i hi=>(hd i hi).1) n (qU _)).1 t (by omega),?_⟩
 have:=diag_lead h0 (fun i hi=>(hd i hi).1) (fun i hi=>(hd i hi).2) (by decide) n (qU _)
 have h2:(2:Int)^n≤2^8:=by
  have:=qL (n:=2) (by decide) h8
  exact_mod_cast this
 have e8:(2:Int)^8=256:=by decide
 omega
theorem gram_ok {l:List Int} {kind n:Nat} (hn:1≤n) (h8:n≤8):SmallG n (gramM l kind n)∧goodD n (gramM l kind n):=by
 unfold gramM
 split
 ·rename_i h;exact ⟨raw_small hn,h⟩
 ·exact ⟨dia_small (by decide) (by decide),dia_good h8⟩
theorem good_pos {n:Nat} {M:List (List Int)} (h:SmallG n M) (hg:goodD n M):Pos n (16^n) (rowF M):=
 pos_lead h.sym (fun k hk=>hg.1 k (by omega)) (fun s _=>(h.bnd s s).2) (by decide)
instance (a:Nat→Row) (i j:Nat):Decidable (SZ a i j):=inferInstanceAs (Decidable (_∧_))
instance (a:Nat→Row) (i:Nat):Decidable (LV a i):=inferInstanceAs (Decidable (_≤_))
theorem curA_one {n:Nat} {a:Nat→Row} {i j i' j':Nat} (h:CurA n a i j) (h':CurA n a i' j'):i=i'∧j=j':=by
 have e:i=i':=by
  rcases qG i i' with h1 | h1
  ·exact absurd ((h'.pre i h1).1 j h.hj) h.no
  ·rcases qG i' i with h2 | h2
   ·exact absurd ((h.pre i' h2).1 j' h'.hj) h'.no
   ·omega
 subst e
 refine ⟨rfl,?_⟩
 rcases qG j j' with h1 | h1
 ·exact absurd (h.up j' h1 h'.hj) h'.no
 ·rcases qG j' j with h2 | h2
  ·exact absurd (h'.up j h2 h.hj) h.no
  ·omega
theorem curS_one {n:Nat} {a:Nat→Row} {i i':Nat} (h:CurS n a i) (h':CurS n a i'):i=i':=by
 rcases qG i i' with h1 | h1
 ·exact absurd ((h'.pre i h1).2 h.h0) h.no
 ·rcases qG i' i with h2 | h2
  ·exact absurd ((h.pre i' h2).2 h'.h0) h'.no
  ·omega
theorem curA_S {n:Nat} {a:Nat→Row} {i j i':Nat} (h:CurA n a i j) (h':CurS n a i'):False:=by
 rcases qG i i' with h1 | h1
 ·exact h.no ((h'.pre i h1).1 j h.hj)
 ·rcases qG i' i with h2 | h2
  ·exact h'.no ((h.pre i' h2).2 h'.h0)
  ·have e:i=i':=by omega
   subst e
   exact h.no (h'.up j h.hj)
theorem cur_any {n:Nat} (a:Nat→Row):(∃i j,CurA n a i j)∨(∃i,CurS n a i)∨∀i,i<n→OKr a i:=by
 have key:∀m,m≤n→(∃i j,CurA n a i j)∨(∃i,CurS n a i)∨∀i,i<m→OKr a i:=by
  intro m
  induction m with
  | zero=>intro _;exact .inr (.inr fun i h=>absurd h (by omega))
  | succ m ih=>
   intro hm
   rcases ih (by omega) with h | h | h
   ·exact .inl h
   ·exact .inr (.inl h)
   ·have inner:∀c j,j+c=m→(∀l,j≤l→l<m→SZ a m l)→(∃j,CurA n a m j)∨∀l,l<m→SZ a m l:=by
     intro c
     suffices H:∀j,j≤m→(∀l,j≤l→l<m→SZ a m l)→(∃j,CurA n a m j)∨∀l,l<m→SZ a m l by
      intro j hj hl;exact H j (by omega) hl
     intro j
     induction j with
     | zero=>intro _ hl;exact .inr fun l hlm=>hl l (Nat.zero_le _) hlm
     | succ j ihj=>
      intro hj hl
      by_cases hz:SZ a m j
      ·refine ihj (by omega) fun l h1 h2=>?_
       rcases (by omega:l=j∨j+1≤l) with e | e
       ·rw [e];exact hz
       ·exact hl l e h2
      ·exact .inl ⟨j,by omega,by omega,h,fun l h1 h2=>hl l (by omega) h2,hz⟩
    rcases inner 0 m rfl (fun l h1 h2=>absurd h2 (by omega)) with ⟨j,hj⟩ | hz
    ·exact .inl ⟨m,j,hj⟩
    ·by_cases h0:0<m
     ·by_cases hl:LV a m
      ·refine .inr (.inr fun i hi=>?_)
       rcases (by omega:i<m∨i=m) with e | e
       ·exact h i e
       ·subst e;exact ⟨hz,fun _=>hl⟩
      ·exact .inr (.inl ⟨m,by omega,h0,h,hz,hl⟩)
     ·refine .inr (.inr fun i hi=>?_)
      have e:i=m:=by omega
      subst e
      exact ⟨hz,fun h=>absurd h h0⟩
 exact key n (qU _)
def nearU (n:Nat) (M:List (List Int)) (i j:Nat):List (List Int):=addU n i j (-(nearZ (stg (rowF M) j i j) (lead (rowF M) (j+1))))
def swapU (n i:Nat):List (List Int):=swapM (idM n) i (i-1)
inductive Ends (n:Nat) (M' T':List (List Int)):Nat→List (List Int)→List (List Int)→Prop
 | done {k:Nat}:(∀i,i<n→OKr (rowF M') i)→Ends n M' T' k M' T'
 | add {k i j:Nat} {M T:List (List Int)}:CurA n (rowF M) i j→Ends n M' T' k (cgM n M (nearU n M i j)) (mulM n T (nearU n M i j))→Ends n M' T' (k+1) M T
 | sw {k i:Nat} {M T:List (List Int)}:CurS n (rowF M) i→Ends n M' T' k (cgM n M (swapU n i)) (mulM n T (swapU n i))→Ends n M' T' (k+1) M T
theorem ends_some {n:Nat} {D K:Int} {M0:List (List Int)} (h8:n≤8) (hK:1≤K) (hKD:8*D≤K):∀(m:Nat) (M T:List (List Int)),LState n D K M0 M T→MuOK n (rowF M) m→∃k M' T',Ends n M' T' k M T∧LState n D K M0 M' T':=by
 intro m
 induction m using Nat.strongRecOn with
 | _ m ih=>
  intro M T hL hm
  rcases cur_any (n:=n) (rowF M) with ⟨i,j,hc⟩ | ⟨i,hc⟩ | h
  ·obtain ⟨hL',hmu⟩:=hL.add h8 hK hKD hc
   obtain ⟨m',hlt,hm'⟩:=hmu m hm
   obtain ⟨k,M',T',he,hl⟩:=ih m' hlt _ _ hL' hm'
   exact ⟨k+1,M',T',.add hc he,hl⟩
  ·obtain ⟨p,rfl⟩:∃p,i=p+1:=⟨i-1,by have:=hc.h0;omega⟩
   obtain ⟨hL',hmu⟩:=hL.sw h8 hK hc
   obtain ⟨m',hlt,hm'⟩:=hmu m hm
   obtain ⟨k,M',T',he,hl⟩:=ih m' hlt _ _ hL' hm'
   exact ⟨k+1,M',T',.sw hc he,hl⟩
  ·exact ⟨0,M,T,.done h,hL⟩
theorem ends_step {n k:Nat} {D K:Int} {M0 M' T' M T:List (List Int)} (h8:n≤8) (hK:1≤K) (hKD:8*D≤K) (hL:LState n D K M0 M T) (h:Ends n M' T' k M T):
  ((∀i,i<n→OKr (rowF M) i)∧M=M'∧T=T')∨(∃k' i j,k=k'+1∧CurA n (rowF M) i j∧LState n D K M0 (cgM n M (nearU n M i j)) (mulM n T (nearU n M i j))∧Ends n M' T' k' (cgM n M (nearU n M i j)) (mulM n T (nearU n M i j)))∨
   ∃k' i,k=k'+1∧CurS n (rowF M) i∧LState n D K M0 (cgM n M (swapU n i)) (mulM n T (swapU n i))∧Ends n M' T' k' (cgM n M (swapU n i)) (mulM n T (swapU n i)):=by
 cases h with
 | done h=>exact .inl ⟨h,rfl,rfl⟩
 | add hc he=>
  rename_i k' i j
  exact .inr (.inl ⟨k',i,j,rfl,hc,(hL.add h8 hK hKD hc).1,he⟩)
 | sw hc he=>
  rename_i k' i
  obtain ⟨p,rfl⟩:∃p,i=p+1:=⟨i-1,by have:=hc.h0;omega⟩
  exact .inr (.inr ⟨k',p+1,rfl,hc,(hL.sw h8 hK hc).1,he⟩)
theorem ends_det {n:Nat} {D K:Int} {M0 M' T':List (List Int)} (h8:n≤8) (hK:1≤K) (hKD:8*D≤K):∀{k:Nat} {M T:List (List Int)},Ends n M' T' k M T→LState n D K M0 M T→lead (rowF M') n=lead (rowF M) n:=by
 intro k M T h
 induction h with
 | done h=>intro _;rfl
 | add hc he ih=>
  rename_i k i j M T
  intro hL
  have hi:=hc.hi
  have hj:=hc.hj
  rw [ih (hL.add h8 hK hKD hc).1]
  have e:=cg_add (c:= -(nearZ (stg (rowF M) j i j) (lead (rowF M) (j+1)))) hL.shM (show i≠j by omega) hi (show j<n by omega)
  unfold nearU
  rw [e]
  exact add_lead hj hi (hL.pos.ne (qU _)) (qU _)
 | sw hc he ih=>
  rename_i k i M T
  intro hL
  obtain ⟨p,rfl⟩:∃p,i=p+1:=⟨i-1,by have:=hc.h0;omega⟩
  have hi:=hc.hi
  rw [ih (hL.sw h8 hK hc).1]
  have e:=cg_sw hL.shM hi
  obtain ⟨_,_,g,_⟩:=good_sw hL.pos hK hc hL.good
  simp only [yZ] at g
  show lead (rowF (cgM n M (swapM (idM n) (p+1) p))) n=_
  rw [e]
  exact g n (qU _) (by omega)
theorem run_gram {n:Nat} {M0:List (List Int)} (h1:1≤n) (h8:n≤8) (h:SmallG n M0) (hg:goodD n M0):∃k M' T',Ends n M' T' k M0 (idM n)∧LState n (16^n) (8*16^n) M0 M0 (idM n)∧LState n (16^n) (8*16^n) M0 M' T'∧Red n (rowF M'):=by
 have hp:=good_pos h hg
 have h16:(1:Int)≤16^n:=by
  have:=Nat.one_le_pow n 16 (by decide)
  exact_mod_cast this
 have hst:LState n (16^n) (8*16^n) M0 M0 (idM n):=by
  refine LState.start h.shp hp (by omega) fun s _=>?_
  have:=(h.bnd s s).2
  rcases Nat.eq_zero_or_pos n with e | e
  ·omega
  ·have:(16:Int)^1≤16^n:=by
    have:=qL (n:=16) (by decide) e
    exact_mod_cast this
   have e1:(16:Int)^1=16:=by decide
   omega
 obtain ⟨k,M',T',he,hl⟩:=ends_some h8 (by omega) (xK _) _ _ _ hst (mu_start h8)
 have hdet:=ends_det h8 (by omega) (xK _) he hst
 have hok:∀i,i<n→OKr (rowF M') i:=by
  clear hdet hl hst hp
  generalize idM n=T at he
  clear h hg
  induction he with
  | done h=>exact h
  | add _ _ ih=>exact ih
  | sw _ _ ih=>exact ih
 refine ⟨k,M',T',he,hst,hl,h1,h8,hl.pos.sym,fun k hk=>hl.pos.pos (k+1) (by omega),by rw [hdet];exact hg.2,fun i j hi hj=>(hok i hi).1 j hj,fun i h0 hi=>(hok i hi).2 h0⟩
section
variable {n N B A0:Nat} {M:List (List Int)} {ds:List Int}
theorem sized_dec (hF:FitN N B A0) (hb:Bnd A0 M) (hnN:n≤N) (h:leadL B M n=some ds) (hp:∀t,t≤n→0<lead (rowF M) t) {i j:Nat} (hj:j<n):sizedO B M ds i j=some (decide (SZ (rowF M) i j)):=by
 obtain ⟨b,hbs⟩:=sizedO_ok (ds:=ds) hF hb (i:=i) (j:=j) (by omega)
 have hi:=sized_iff h hp hj hbs
 rw [hbs]
 congr 1
 by_cases hz:SZ (rowF M) i j
 ·rw [decide_eq_true hz];exact hi.2 hz
 ·rw [decide_eq_false hz]
  cases b with
  | false=>rfl
  | true=>exact absurd (hi.1 rfl) hz
theorem lov_dec (hF:FitN N B A0) (hb:Bnd A0 M) (hnN:n≤N) (h:leadL B M n=some ds) (hf:∀z∈ds,z.natAbs≤bndS A0 N) (hp:∀t,t≤n→0<lead (rowF M) t) {i:Nat} (h0:0<i) (hi:i<n):lovO B M ds i=some (decide (LV (rowF M) i)):=by
 obtain ⟨b,hbs⟩:=lovO_ok (ds:=ds) hF hb hf (i:=i) (by omega)
 have hv:=lov_iff h hp h0 hi hbs
 rw [hbs]
 congr 1
 by_cases hz:LV (rowF M) i
 ·rw [decide_eq_true hz];exact hv.2 hz
 ·rw [decide_eq_false hz]
  cases b with
  | false=>rfl
  | true=>exact absurd (hv.1 rfl) hz
theorem lam_val (hF:FitN N B A0) (hb:Bnd A0 M) (hnN:n≤N) (hp:∀t,t≤n→0<lead (rowF M) t) {i j:Nat} (hj:j<n):lamO B M i j=some (stg (rowF M) j i j)∧(stg (rowF M) j i j).natAbs≤bndS A0 N:=by
 obtain ⟨l,h1,h2⟩:=lamO_ok hF hb (i:=i) (j:=j) (by omega)
 have e:=lam_spec (i:=i) (j:=j) (fun t ht=>by have:=hp t (by omega);omega) (lamO_some h1).1
 rw [e] at h1 h2
 exact ⟨h1,h2⟩
end
theorem sumR_le {f:Nat→Int} {n c:Nat} (h:∀t,t<n→(f t).natAbs≤c):(sumR f n).natAbs≤n*c:=by
 have:=sumR_abs (f:=f) (n:=n) (c:=(c:Int)) fun t ht=>by have:=h t ht;omega
 have e:((n*c:Nat):Int)=(n:Int)*c:=by simp
 omega
theorem near_le {l d:Int} (hd:0<d):(nearZ l d).natAbs≤l.natAbs+1:=by
 have h:=near_ok (l:=l) (d:=d) hd
 rw [Int.neg_mul] at h
 have h1:2*(nearZ l d*d)≤2*l+d:=by omega
 have h2:2*l-d≤2*(nearZ l d*d):=by omega
 generalize nearZ l d=q at*
 rcases Int.le_total 0 q with hq | hq
 ·rcases (by omega:q≤l.natAbs+1∨(l.natAbs:Int)+2≤q) with e | e
  ·omega
  ·exfalso
   have m:=qE e (show (0:Int)≤d by omega)
   have m2:(l.natAbs:Int)*1≤l.natAbs*d:=qH (by omega) (by omega)
   rw [yD] at m
   omega
 ·rcases (by omega: -q≤l.natAbs+1∨(l.natAbs:Int)+2≤ -q) with e | e
  ·omega
  ·exfalso
   have m:=qE e (show (0:Int)≤d by omega)
   have m2:(l.natAbs:Int)*1≤l.natAbs*d:=qH (by omega) (by omega)
   rw [yD,Int.neg_mul] at m
   omega
open Go.Proofs Go.Limb
set_option maxRecDepth 100000
theorem dot_sum (r s:List Int):∀k,dotS r s k=sumR (fun t=>r.getD t 0*s.getD t 0) k:=by
 intro k
 induction k with
 | zero=>rfl
 | succ k ih=>show dotS r s k+_=sumR _ k+_;rw [ih]
structure MulB (n x y:Nat) (A B:List (List Int)):Prop where
 a:Bnd x A
 b:Bnd y B
 fit:8*(x*y)+x+y<BIG
theorem MulB.term {n x y:Nat} {A B:List (List Int)} (h:MulB n x y A B) (i j k:Nat):(ent A i k*ent B k j).natAbs≤x*y:=natAbs_mul_le (h.a i k) (h.b k j)
theorem MulB.bnd {n x y:Nat} {A B:List (List Int)} (h:MulB n x y A B) (hn:n≤8):Bnd (8*(x*y)) (mulM n A B):=by
 intro i j
 by_cases hij:i<n∧j<n
 ·unfold mulM
  rw [ent_mk hij.1 hij.2]
  have:=sumR_le (f:=fun k=>ent A i k*ent B k j) (n:=n) (c:=x*y) fun t _=>h.term i j t
  have:=xO (x*y) hn
  omega
 ·rw [(mul_shp n A B).out (by omega)];simp
theorem mMul_in {n x y:Nat} {A B:List (List Int)} {ar tr:List AV} {ac tc cap:Option Nat} (hn:1≤n∧n≤8) (hM:MulB n x y A B) (hsA:Shp n A) (hal:ar.length=n) (har:∀i,i<n→IsRowV (A.getD i []) (ar.getD i .junk)) (htl:tr.length=n) (htr:∀i,i<n→IsRowV ((trM n B).getD i []) (tr.getD i .junk))
  {i:Nat} (hi:i<n) {v43 v44:AV} {Q:Post} {ps:List (Nat×Option Nat)} {X0:List (List Int)} (hX0:X0.length=n)
  {E:Env} {H:Heap} (hH:MatH H 0 ps n X0) (e0:E 0= .vec ar n ac) (e9:E 9= .vec tr n tc) (e11:E 11= .sl 0 0 n 1 cap) (e12:E 12= .int .i64 (i:Nat)) (e43:E 43=v43) (e44:E 44=v44) (e48:E 48= .int .i64 (n:Nat)) (e49:E 49= .int .i64 0)
  (hQ:∀E' H' X,MatH H' 0 ps n X→X.length=n→(∀s t,ent X s t=if s=i∧t<n then ent (mulM n A B) s t else ent X0 s t)→E' 0= .vec ar n ac→E' 9= .vec tr n tc→E' 11= .sl 0 0 n 1 cap→E' 43=v43→E' 44=v44→Q (.exit 2) E' H'):
  W Tryz.prog G 0 70 (.loop l88_1) E H Q:=by
 refine W_loop (fun k E H=>∃j X,j+k=n∧MatH H 0 ps n X∧X.length=n∧(∀s t,ent X s t=if s=i∧t<j then ent (mulM n A B) s t else ent X0 s t)∧E 0= .vec ar n ac∧E 9= .vec tr n tc∧E 11= .sl 0 0 n 1 cap∧E 12= .int .i64 (i:Nat)∧E 43=v43∧E 44=v44∧
  E 48= .int .i64 (n:Nat)∧E 49= .int .i64 (j:Nat)) (n:=n) ⟨0,X0,by omega,hH,hX0,fun s t=>by rw [if_neg (by omega)],e0,e9,e11,e12,e43,e44,e48,e49⟩ ?_
 clear hH e0 e9 e11 e12 e43 e44 e48 e49 E H
 rintro k E H ⟨j,X,hjk,hH,hXl,hX,e0,e9,e11,e12,e43,e44,e48,e49⟩
 refine wpC_sound mixed ?_
 simp only [l88_1,r88_10,SS,reduceIte,e48,e49]
 refine ⟨fun hlt=>?_,fun hge=>?_⟩
 ·obtain ⟨k,rfl⟩:∃k',k=k'+1:=⟨k-1,by omega⟩
  have hj:j<n:=by omega
  obtain ⟨csk,gk,lk,rk,fk⟩:=mat_get hH (i:=i) (by omega)
  have ok:=mat_outer (ps:=ps) (n:=n) (i:=i) (by rw [hH.len];omega)
  have hol:(ps.map (slRow n)).length=n:=by rw [xV,hH.len];exact hXl
  have hou:=hH.outer
  have rA:=har i hi
  have rT:=htr j hj
  have lA:=hsA.row i hi
  have lT:((trM n B).getD j []).length=n:=(mkM_shp n _).row j hj
  have hfit:=hM.fit
  have e1:∀t,t<n→((trM n B).getD j []).getD t 0=ent B t j:=by
   intro t ht
   show ent (trM n B) j t=_
   unfold trM
   rw [ent_mk hj ht]
  have hdot:∀m,m≤n→dotS (A.getD i []) ((trM n B).getD j []) m=sumR (fun t=>ent A i t*ent B t j) m:=by
   intro m hm
   rw [dot_sum]
   refine sumR_congr fun t ht=>?_
   rw [e1 t (by omega)]
   rfl
  have hval:dotS (A.getD i []) ((trM n B).getD j []) (A.getD i []).length=ent (mulM n A B) i j:=by
   rw [lA,hdot n (qU _)]
   unfold mulM
   rw [ent_mk hi hj]
  have td:=mDot rA rT (by rw [lA,lT]) (by omega) (fun t ht=>by
    rw [e1 t (by omega)]
    have:=hM.term i j t
    have e:(A.getD i []).getD t 0=ent A i t:=rfl
    rw [e];omega) (fun m hm=>by
    rw [hdot m (by omega)]
    have h1:=sumR_le (f:=fun t=>ent A i t*ent B t j) (n:=m) (c:=x*y) fun t _=>hM.term i j t
    have h2:m*(x*y)≤8*(x*y):=xO _ (by omega)
    omega)
  rw [hval] at td
  have hbv:=hM.bnd hn.2 i j
  have hiv:IsInt (ent (mulM n A B) i j) (intV (ent (mulM n A B) i j)):=intV_isInt (by omega)
  have hv0:=hiv
  obtain ⟨lv,cv,hcv1,hcv2,hcv3,hev⟩:=hiv
  rw [hev] at td hv0
  have hset:=mat_set hH (i:=i) (j:=j) (by omega) hj hv0 gk
  have w5:IntKind.i64.wrap ((j:Int)+1)=((j+1:Nat):Int):=by rw [show (j:Int)+1=((j+1:Nat):Int) by omega];exact w64 (by omega) (by omega)
  obtain ⟨acs,aci,hae,hac⟩:=rA
  obtain ⟨tcs,tci,hte,htc⟩:=rT
  rw [hae,hte] at td
  simp only [r88_11,r88_12,SS,forall_const,reduceCtorEq,reduceIte,qQ,e0,e9,e11,e12,e49,qK,hou,hol,ok,hal,htl,hae,hte]
  refine ⟨⟨by omega,by omega⟩,by omega,⟨by omega,by omega⟩,by omega,⟨by omega,by omega⟩,by omega,?_⟩
  refine callA_pure td ?_
  simp only [SS,reduceIte,qJ,qQ,gk,lk,qK]
  refine ⟨⟨by omega,by omega⟩,by omega,rfl,?_⟩
  simp only [r88_13,SS,reduceIte,qQ,e49,w5]
  refine ⟨k,_,_,by omega,⟨j+1,setM X i j (ent (mulM n A B) i j),by omega,hset,by rw [setM_len];exact hXl,?_,?_,?_,?_,?_,?_,?_,?_,?_⟩,.refl⟩
  ·intro s t
   rw [ent_set' (by omega) (by rw [hH.cols i (by omega)];exact hj),hX]
   by_cases h1:s=i∧t=j
   ·rw [if_pos h1,if_pos ⟨h1.1,by omega⟩,h1.1,h1.2]
   ·rw [if_neg h1]
    by_cases h2:s=i∧t<j
    ·rw [if_pos h2,if_pos ⟨h2.1,by omega⟩]
    ·rw [if_neg h2,if_neg (by omega)]
  all_goals simp only [upd_app,qQ,reduceIte,if_false, *]
 ·have hjn:j=n:=by omega
  subst hjn
  exact hQ _ _ X hH hXl hX (by simp only [upd_app,qQ,if_false,e0]) (by simp only [upd_app,qQ,if_false,e9]) (by simp only [upd_app,qQ,if_false,e11]) (by simp only [upd_app,qQ,if_false,e43]) (by simp only [upd_app,qQ,if_false,e44])
theorem mMul {n x y:Nat} {A B:List (List Int)} {a b:AV} (ha:Sq n A a) (hb:Sq n B b) (hM:MulB n x y A B):Ret Tryz.prog G 88 [a,b] [] (.tup [matC (mulM n A B),.bool true]) []:=by
 have hn:1≤n∧n≤8:=⟨ha.lo,ha.hi⟩
 have hfit:=hM.fit
 have hsA:Shp n A:=⟨ha.len,ha.cols⟩
 have hsB:Shp n B:=⟨hb.len,hb.cols⟩
 have t1:=mShape ha.mat ha.shape
 rw [ha.cols 0 (by omega),ha.len] at t1
 have hTs:Shp n (trM n B):=mkM_shp n _
 have t2:=mTranspose (n:=n) hb.mat (by omega) (by rw [hb.len];omega) (fun i hi=>hb.cols i (by rw [hb.len] at hi;exact hi)) (T:=trM n B) hTs.len (fun i hi=>by rw [hb.len];exact hTs.row i hi) (fun i j hi hj=>by unfold trM;rw [ent_mk hi (by rw [hb.len] at hj;exact hj)])
 have hTb:Bnd y (trM n B):=by
  intro i j
  by_cases hij:i<n∧j<n
  ·unfold trM
   rw [ent_mk hij.1 hij.2];exact hM.b j i
  ·rw [hTs.out (by omega)];simp
 have hT:MatV (trM n B) (matC (trM n B)):=matC_ok (bnd_fits hTb (by omega))
 have c1:qY [a]=true:=by simp only [qY,ha.closed,qS]
 have c2:qY [b]=true:=by simp only [qY,hb.closed,qS]
 obtain ⟨tr,tc,hte,htl,htr⟩:=hT
 rw [hte] at t2
 have hbl:=hb.len
 obtain ⟨ar,ac,hae,hal,har⟩:=ha.mat
 obtain ⟨br,bc,hbe,hbl2,hbr⟩:=hb.mat
 subst hae hbe
 rw [ha.len] at hal har t1 c1 ⊢
 rw [hb.len] at t2 c2 ⊢
 rw [hTs.len] at htl htr t2
 refine Ret_ofw mixed Tryz.func88 comp88 _ 70 res88 nt88 (by simp) (by simp) ?_
 simp only [c88,r88_0,r88_1,SS,reduceCtorEq,reduceIte]
 refine callA_pure t1 ?_ c1
 simp only [SS,reduceIte,qQ,qB,qA]
 simp only [r88_2,SS,reduceIte,qQ]
 refine callA_pure t2 ?_ c2
 simp only [SS,reduceIte,qQ,qB,qA]
 simp only [r88_3,SS,forall_const,reduceIte,qQ]
 refine ⟨fun hne=>absurd rfl hne,fun _=>?_⟩
 simp only [r88_5,SS,reduceCtorEq,reduceIte,qQ]
 refine callA_new (mZero (by omega) (by omega)) rfl ?_
 obtain ⟨H1,ps,hH1,hz⟩:=zero_first n n
 simp only [restA,SS,reduceIte,qQ,AV.ren,names_nil,xU,hH1]
 simp only [r88_6,SS,reduceCtorEq,reduceIte,qQ]
 refine W_loop (fun k E H=>∃i X,i+k=n∧MatH H 0 ps n X∧X.length=n∧(∀s t,ent X s t=if s<i∧t<n then ent (mulM n A B) s t else 0)∧E 0= .vec ar n ac∧E 9= .vec tr n tc∧E 11= .sl 0 0 n 1 (some n)∧E 43= .int .i64 (n:Nat)∧E 44= .int .i64 (i:Nat)) (n:=n)
  ⟨0,zmat n n,by omega,hz,(zmat_shp _ _).1,fun s t=>by rw [if_neg (by omega),zmat_ent],by simp only [upd_app,argsE_app,qV,qQ,if_false],by simp only [upd_app,argsE_app,qX,qQ,reduceIte,if_false],by simp only [upd_app,argsE_app,qX,qQ,reduceIte,if_false],by simp only [upd_app,argsE_app,qX,qQ,reduceIte,if_false],by simp only [upd_app,argsE_app,qX,qQ,reduceIte,if_false];rfl⟩ ?_
 rintro k E H ⟨i,X,hik,hH,hXl,hX,e0,e9,e11,e43,e44⟩
 refine wpC_sound mixed ?_
 simp only [l88_0,r88_7,SS,reduceCtorEq,reduceIte,e43,e44]
 refine ⟨fun hlt=>?_,fun hge=>?_⟩
 ·obtain ⟨k,rfl⟩:∃k',k=k'+1:=⟨k-1,by omega⟩
  have hi:i<n:=by omega
  have w5:IntKind.i64.wrap ((i:Int)+1)=((i+1:Nat):Int):=by rw [show (i:Int)+1=((i+1:Nat):Int) by omega];exact w64 (by omega) (by omega)
  simp only [r88_8,r88_9,SS,reduceIte,qQ,e9,e44]
  refine mMul_in (ar:=ar) (tr:=tr) (ac:=ac) (tc:=tc) (cap:=some n) hn hM hsA hal har htl htr hi hXl hH (by simp only [upd_app,qQ,if_false,e0]) (by simp only [upd_app,qQ,if_false,e9]) (by simp only [upd_app,qQ,if_false,e11]) (by simp only [upd_app,qQ,reduceIte,if_false]) (by simp only [upd_app,qQ,if_false];exact e43) (by simp only [upd_app,qQ,if_false];exact e44) (by simp only [upd_app,qQ,reduceIte,if_false]) (by simp only [upd_app,qQ,reduceIte,if_false]) ?_
  intro E' H' X' hH' hXl' hX' f0 f9 f11 f43 f44
  simp only [SS,reduceCtorEq,reduceIte,qQ,r88_14,f44,w5]
  refine ⟨k,_,_,by omega,⟨i+1,X',by omega,hH',hXl',?_,?_,?_,?_,?_,?_⟩,.refl⟩
  ·intro s t
   rw [hX',hX]
   by_cases h1:s=i∧t<n
   ·rw [if_pos h1,if_pos ⟨by omega,h1.2⟩]
   ·rw [if_neg h1]
    by_cases h2:s<i∧t<n
    ·rw [if_pos h2,if_pos ⟨by omega,h2.2⟩]
    ·rw [if_neg h2,if_neg (by omega)]
  all_goals simp only [upd_app,qQ,reduceIte,if_false, *]
 ·have hin:i=n:=by omega
  subst hin
  have e:X=mulM i A B:=by
   refine mat_ext hXl (mul_shp i A B).len (fun s hs=>hH.cols s (by omega)) (mul_shp i A B).row fun s t hs ht=>?_
   rw [hX,if_pos ⟨hs,ht⟩]
  subst e
  simp only [r88_15,SS,reduceIte,qQ,e11]
  obtain ⟨v,g1,g2⟩:=fin_matT (cap:=some i) (b:=true) hH
  rw [hXl] at g1
  exact ⟨.inl trivial,_,v,rfl,g1,g2⟩
theorem mProduct {n x y:Nat} {A B:List (List Int)} {a b:AV} (ha:Sq n A a) (hb:Sq n B b) (hM:MulB n x y A B):Ret Tryz.prog G 39 [a,b] [] (matC (mulM n A B)) []:=by
 have t1:=mMul ha hb hM
 have c1:qY [a,b]=true:=by simp only [qY,ha.closed,hb.closed,qS]
 refine Ret_of mixed Tryz.func39 comp39 _ 14 res39 nt39 (by simp) (by simp) ?_
 simp only [c39,r39_0,r39_1,SS,reduceCtorEq,reduceIte,qQ]
 refine callA_pure t1 ?_ c1
 simp only [SS,reduceIte,qQ,r39_2,qB,qA]
 exact ⟨.inl trivial,_,rfl,.drop _ _ rfl (by intro i cs h;omega)⟩
theorem gCongruent {n x y:Nat} {A U:List (List Int)} {a u:AV} (ha:Sq n A a) (hu:Sq n U u) (hbA:Bnd x A) (hbU:Bnd y U) (hf:64*(y*x*y)+8*(y*x)+x+y<BIG):Ret Tryz.prog G 38 [a,u] [] (matC (cgM n A U)) []:=by
 have hn:1≤n∧n≤8:=⟨ha.lo,ha.hi⟩
 have hTs:Shp n (trM n U):=mkM_shp n _
 have hTb:Bnd y (trM n U):=by
  intro i j
  by_cases hij:i<n∧j<n
  ·unfold trM
   rw [ent_mk hij.1 hij.2];exact hbU j i
  ·rw [hTs.out (by omega)];simp
 have t1:=mTranspose (n:=n) hu.mat (by omega) (by rw [hu.len];omega) (fun i hi=>hu.cols i (by rw [hu.len] at hi;exact hi)) (T:=trM n U) hTs.len (fun i hi=>by rw [hu.len];exact hTs.row i hi) (fun i j hi hj=>by unfold trM;rw [ent_mk hi (by rw [hu.len] at hj;exact hj)])
 have hsT:=sq_mk hTs hn hTb (by omega)
 have hM1:MulB n y x (trM n U) A:=⟨hTb,hbA,by omega⟩
 have t2:=mProduct hsT ha hM1
 have hb1:=hM1.bnd hn.2
 have hs1:=sq_mk (mul_shp n (trM n U) A) hn hb1 (by omega)
 have e1:8*(8*(y*x)*y)=64*(y*x*y):=by rw [qM 8,←qM]
 have hM2:MulB n (8*(y*x)) y (mulM n (trM n U) A) U:=⟨hb1,hbU,by omega⟩
 have t3:=mProduct hs1 hu hM2
 have c1:qY [u]=true:=by simp only [qY,hu.closed,qS]
 have c2:qY [matC (trM n U),a]=true:=by simp only [qY,ha.closed,hsT.closed,qS]
 have c3:qY [matC (mulM n (trM n U) A),u]=true:=by simp only [qY,hu.closed,hs1.closed,qS]
 refine Ret_of mixed Tryz.func38 comp38 _ 17 res38 nt38 (by simp) (by simp) ?_
 simp only [c38,r38_0,r38_1,SS,reduceCtorEq,reduceIte,qQ]
 refine callA_pure t1 ?_ c1
 simp only [SS,reduceCtorEq,reduceIte,qQ,r38_2,qB,qA]
 refine callA_pure t2 ?_ c2
 simp only [SS,reduceIte,qQ]
 refine callA_pure t3 ?_ c3
 simp only [SS,reduceIte,qQ]
 exact ⟨.inl trivial,_,rfl,.drop _ _ rfl (by intro i cs h;omega)⟩
end Go.Proofs.YtenboapacjlmoaaGreatDoor
namespace Go.Limb
open Nat renaming mul_assoc → qM, pow_lt_pow_right → qN, mod_lt → qT, div_div_eq_div_mul → xQ, mod_eq_of_lt → xZ, pow_add → xE, pow_succ → xH, mul_comm → xI, mod_mul_right_mod → xN, or_lt_two_pow → yJ, div_eq_of_lt → yA, mul_one → yB
open List renaming replicate_succ → xP
set_option linter.unusedSimpArgs false
set_option linter.unusedVariables false
def setBit (l:List Nat) (i:Nat):List Nat:=l.set (i/32) (l.getD (i/32) 0 ||| 2^(i%32))
theorem setBit_len (l:List Nat) (i:Nat):(setBit l i).length=l.length:=by simp [setBit]
theorem pow32 (w:Nat):(4294967296:Nat)^w=2^(32*w):=by rw [Nat.pow_mul]
theorem low_zero {l:List Nat} {i:Nat} (h:Dig l) (h0:val l%2^(i+1)=0):l.getD (i/32) 0%2^(i%32+1)=0:=by
 rw [val_digit l _ h,pow32]
 have hs:i%32<32:=qT _ (by decide)
 have hi:i+1=32*(i/32)+(i%32+1):=by omega
 obtain ⟨t,ht⟩:2^(i+1)∣val l:=Nat.dvd_of_mod_eq_zero h0
 rw [ht]
 have hp:2^(i+1)=2^(32*(i/32))*2^(i%32+1):=by rw [←xE,←hi]
 rw [hp,qM,Nat.mul_div_cancel_left _ (Nat.pow_pos (by decide))]
 generalize i%32=s at*
 have e3:(4294967296:Nat)=2^(s+1)*2^(31-s):=by
  rw [←xE,show s+1+(31-s)=32 by omega]
 rw [e3,xN,Nat.mul_mod_right]
theorem setBit_spec {l:List Nat} {i:Nat} (h:Dig l) (hi:i/32<l.length) (h0:val l%2^(i+1)=0):val (setBit l i)=val l+2^i∧Dig (setBit l i):=by
 have hz:=low_zero h h0
 have hs:i%32<32:=qT _ (by decide)
 have hb:=h.getD (i/32)
 have hpl:2^(i%32)<4294967296:=by
  have:2^(i%32)<2^32:=qN (by decide) hs
  exact this
 have hor:l.getD (i/32) 0 ||| 2^(i%32)<4294967296:=yJ (n:=32) hb hpl
 refine ⟨?_,h.set hor⟩
 have hv:=val_set (l:=l) (i:=i/32) (v:=l.getD (i/32) 0 ||| 2^(i%32)) hi
 rw [or_pow hz,Nat.mul_add] at hv
 have e:4294967296^(i/32)*2^(i%32)=2^i:=by
  rw [pow32,←xE]
  congr 1
  omega
 rw [e] at hv
 unfold setBit
 rw [or_pow hz]
 omega
structure DivS (m n:List Nat) (k:Nat) (qs r:List Nat):Prop where
 len:qs.length=m.length
 dig:Dig qs
 canon:Canon r
 lt:val r<val n
 ex:∃Q,val qs=Q*2^k∧val m/2^k=Q*val n+val r
theorem DivS.start {m n:List Nat} (hm:Dig m) (hn:val n≠0):DivS m n (32*m.length) (List.replicate m.length 0) []:=by
 have hr:∀k,val (List.replicate k 0)=0:=by
  intro k
  induction k with
  | zero=>rfl
  | succ k ih=>rw [xP,val,ih]
 refine ⟨by simp,?_,Canon.nil,by show 0<val n;omega,0,by rw [hr];omega,?_⟩
 ·intro d hd
  rw [List.eq_of_mem_replicate hd];decide
 ·have:=val_lt hm
  rw [pow32] at this
  rw [yA this]
  show 0=0*val n+0
  omega
theorem bit_next {m:List Nat} {k:Nat}:val m/2^(k+1)=val m/2^k/2:=by
 rw [xQ,xH]
theorem pow_step (Q k:Nat):Q*2^(k+1)=2*Q*2^k:=by
 rw [xH,←qM,xI _ 2,qM]
theorem DivS.low {m n qs r r2:List Nat} {k:Nat} (h:DivS m n (k+1) qs r) (c2:Canon r2) (hv:val r2=2*val r+val m/2^k%2) (hlt:val r2<val n):DivS m n k qs r2:=by
 obtain ⟨Q,e1,e2⟩:=h.ex
 rw [bit_next] at e2
 have:=(div_step (V:=val m/2^k) (b:=val m/2^k%2) (qT _ (by decide)) e2 h.lt rfl).1 (by omega)
 exact ⟨h.len,h.dig,c2,hlt,2*Q,by rw [e1,pow_step],by rw [hv];exact this⟩
theorem DivS.high {m n qs r r2:List Nat} {k:Nat} (h:DivS m n (k+1) qs r) (hk:k<32*m.length) (c2:Canon r2) (hge:val n≤2*val r+val m/2^k%2) (hv:val r2+val n=2*val r+val m/2^k%2):DivS m n k (setBit qs k) r2:=by
 obtain ⟨Q,e1,e2⟩:=h.ex
 rw [bit_next] at e2
 have h2:=(div_step (V:=val m/2^k) (b:=val m/2^k%2) (qT _ (by decide)) e2 h.lt rfl).2 hge
 have hs:=setBit_spec (i:=k) h.dig (by rw [h.len];omega) (by rw [e1];exact Nat.mul_mod_left _ _)
 refine ⟨by rw [setBit_len,h.len],hs.2,c2,by omega,2*Q+1,?_,?_⟩
 ·rw [hs.1,e1,pow_step,Nat.add_mul,Nat.one_mul]
 ·have e:val r2=2*val r+val m/2^k%2-val n:=by omega
  rw [e];exact h2.1
theorem DivS.done {m n qs r:List Nat} (h:DivS m n 0 qs r):val qs=val m/val n∧val r=val m%val n:=by
 obtain ⟨Q,e1,e2⟩:=h.ex
 simp only [Nat.pow_zero,yB,Nat.div_one] at e1 e2
 have hlt:=h.lt
 rw [e1,e2]
 constructor
 ·rw [xI,Nat.mul_add_div (by omega),yA hlt];omega
 ·rw [xI,Nat.mul_add_mod,xZ hlt]
end Go.Limb
namespace Go.Proofs.YtenboapacjlmoaaGreatDoor
open Nat renaming reduceEqDiff → qQ, reduceLeDiff → qZ, reduceAdd → qJ, le_refl → qU, lt_or_ge → qG, pow_le_pow_right → qL, pow_lt_pow_right → qN, mod_lt → qT, mod_eq_of_lt → xZ, lt_of_le_of_lt → xC, div_le_self → yH
open List renaming getD_cons_succ → qX, getD_cons_zero → qV, getElem?_cons_succ → qA, getElem?_cons_zero → qB, replicate_zero → qR, append_nil → xW
open Int renaming toNat_natCast → qK, natAbs_ediv_le_natAbs → qI, fdiv_eq_ediv_of_nonneg → xA, one_mul → yC
set_option linter.unusedSimpArgs false
set_option linter.unusedVariables false
open Go Go.AL Go.Proofs Go.Limb
set_option maxRecDepth 100000
theorem canon_len {m n:List Nat} (hm:Canon m) (hn:Canon n) (h:val m≤val n):m.length≤n.length:=by
 rcases qG n.length m.length with h1 | h1
 ·have h2:=val_lt hn.1
  have h3:=val_pos hm.2 (by intro e;rw [e] at h1;simp at h1)
  have h4:4294967296^n.length≤4294967296^(m.length-1):=qL (by decide) (by omega)
  omega
 ·exact h1
theorem and1 {x:Nat} (hx:x<4294967296):IntKind.u32.wrap (((BitVec.ofInt IntKind.u32.bits (x:Int) &&& BitVec.ofInt IntKind.u32.bits 1).toNat:Nat):Int)=((x%2:Nat):Int):=by
 have h:(BitVec.ofInt IntKind.u32.bits (x:Int) &&& BitVec.ofInt IntKind.u32.bits 1).toNat=x%2:=by
  show (BitVec.ofInt 32 (x:Int) &&& BitVec.ofInt 32 ((1:Nat):Int)).toNat=x%2
  rw [BitVec.toNat_and,BitVec.ofInt_natCast,BitVec.ofInt_natCast,BitVec.toNat_ofNat,BitVec.toNat_ofNat,xZ hx]
  exact Nat.and_one_is_mod x
 rw [h]
 exact wu32' (by omega)
theorem shrN {x s:Nat} (hs:s<32):Int.fdiv (x:Int) (2^min s IntKind.u32.bits)=((x/2^s:Nat):Int):=by
 have e:min s IntKind.u32.bits=s:=by show min s 32=s;omega
 rw [e]
 have e2:(2:Int)^s=((2^s:Nat):Int):=by simp
 rw [e2,xA _ (Int.natCast_nonneg _)]
 rfl
theorem shlN {s:Nat} (hs:s<32):IntKind.u32.wrap ((1:Int)*2^min s IntKind.u32.bits)=((2^s:Nat):Int):=by
 have e:min s IntKind.u32.bits=s:=by show min s 32=s;omega
 rw [e,yC]
 have e2:(2:Int)^s=((2^s:Nat):Int):=by simp
 rw [e2]
 refine wu32' ?_
 have:2^s<2^32:=qN (by decide) hs
 exact this
theorem zdiv_loop {m n:List Nat} {c d:Option Nat} (cm:Canon m) (cn:Canon n) (lm:m.length≤1100) (ln:n.length≤1100) (hn0:val n≠0) {E:Env} {Q:Post} (e0:E 0= .vec (u32s m) m.length c) (e1:E 1= .vec (u32s n) n.length d)
  (e4:E 4= .sl 0 0 m.length 1 (some m.length)) (e5:E 5= .vec [] 0 (some 0)) (e8:E 8= .int .i64 (((32*m.length:Nat):Int)-1))
  (hQ:∀E' qs r cr,DivS m n 0 qs r→E' 4= .sl 0 0 m.length 1 (some m.length)→E' 5= .vec (u32s r) r.length cr→Q (.exit 0) E' [some (u32s qs)]):
  W Tryz.prog G 0 75 (.loop l159_0) E [some (u32s (List.replicate m.length 0))] Q:=by
 refine W_loop (fun k E H=>∃qs r cr,DivS m n k qs r∧k≤32*m.length∧E 0= .vec (u32s m) m.length c∧E 1= .vec (u32s n) n.length d∧E 4= .sl 0 0 m.length 1 (some m.length)∧E 5= .vec (u32s r) r.length cr∧E 8= .int .i64 ((k:Int)-1)∧H=[some (u32s qs)])
  (n:=32*m.length) ⟨_,[],some 0,DivS.start cm.1 hn0,qU _,e0,e1,e4,e5,e8,rfl⟩ ?_
 clear e0 e1 e4 e5 e8
 rintro k E H ⟨qs,r,cr,hD,hk,e0,e1,e4,e5,e8,rfl⟩
 refine wpC_sound mixed ?_
 simp only [l159_0,r159_6,SS,reduceIte,qQ,e8]
 refine ⟨fun hge=>?_,fun hlt=>?_⟩
 ·obtain ⟨k,rfl⟩:∃k',k=k'+1:=⟨k-1,by omega⟩
  have e5k:((k+1:Nat):Int)-1=(k:Nat):=by omega
  rw [e5k] at e8
  have hw:k/32<m.length:=by omega
  have hs:k%32<32:=qT _ (by decide)
  have g1:=u32s_getD m (k/32) hw AV.junk
  have bm:=cm.1.getD (k/32)
  have lr:=canon_len hD.canon cn (Nat.le_of_lt hD.lt)
  have hb1:m.getD (k/32) 0/2^(k%32)<4294967296:=xC (yH _ _) bm
  have hbit:=val_bit m k cm.1
  have hbl:m.getD (k/32) 0/2^(k%32)%2≤1:=by omega
  obtain ⟨c1,t1⟩:=zdouble r cr (m.getD (k/32) 0/2^(k%32)%2) hD.canon.1 hbl (by omega)
  have dd:=dblL_dig r _ hD.canon.1 hbl
  have dl:=dblL_len r (m.getD (k/32) 0/2^(k%32)%2)
  have dv:=dblL_val r (m.getD (k/32) 0/2^(k%32)%2)
  generalize hdb:dblL r (m.getD (k/32) 0/2^(k%32)%2)=db at*
  obtain ⟨c2,t2⟩:=zTrim db c1 (by omega)
  have kc:=trimL_canon dd
  have kv:=val_trimL db
  have kl:=trimL_le db
  generalize trimL db=r1 at*
  rw [dv,hbit] at kv
  have t3:=zcmp r1 n c2 d (by omega) (by omega)
  rw [cmpL_spec kc cn] at t3
  have w3:IntKind.i64.wrap ((k:Int)-1)=(k:Int)-1:=w64 (by omega) (by omega)
  have q1:Int.tdiv (k:Int) 32=((k/32:Nat):Int):=rfl
  have q2:Int.tmod (k:Int) 32=((k%32:Nat):Int):=rfl
  have q3:IntKind.i64.wrap ((k/32:Nat):Int)=((k/32:Nat):Int):=w64 (by omega) (by omega)
  have q4:IntKind.i64.wrap ((k%32:Nat):Int)=((k%32:Nat):Int):=w64 (by omega) (by omega)
  simp only [r159_7,SS,forall_const,reduceCtorEq,reduceIte,qQ,e0,e5,e8,q1,q2,q3,qK,g1,u32s_len,shrN hs,and1 hb1]
  refine ⟨by omega,⟨by omega,by omega⟩,by omega,by omega,by omega,?_⟩
  refine callA_pure t1 ?_
  simp only [SS,reduceIte,qQ]
  refine callA_pure t2 ?_
  simp only [SS,reduceIte,qQ]
  simp only [r159_8,SS,reduceIte,qQ,e1]
  refine callA_pure t3 ?_
  simp only [SS,reduceIte,qQ]
  refine ⟨fun hc=>?_,fun hc=>?_⟩
  ·have hle:val n≤val r1:=by
    unfold sgn at hc
    split at hc
    ·omega
    ·split at hc<;>omega
   have hl2:=canon_len cn kc hle
   obtain ⟨c3,t4⟩:=zdifference r1 n c2 d (by omega) hl2 kc.1 cn.1
   obtain ⟨v1,v2,v3⟩:=difL_spec r1 n kc.1 cn.1 hl2 hle r1.length 0 0 [] (by decide) rfl Dig.nil (by omega) (by simp [Limb.val])
   generalize difL r1 n r1.length 0 0 []=r2 at*
   obtain ⟨c4,t5⟩:=zTrim r2 c3 (by omega)
   have mc:=trimL_canon v2
   have mv:=val_trimL r2
   generalize trimL r2=r3 at*
   have hD2:=hD.high (r2:=r3) (by omega) mc (by rw [←kv];exact hle) (by rw [mv,v1,kv])
   have bq:=hD.dig.getD (k/32)
   have g2:=u32s_getD qs (k/32) (by rw [hD.len];exact hw) AV.junk
   have hpl:2^(k%32)<4294967296:=by
    have:2^(k%32)<2^32:=qN (by decide) hs
    exact this
   have wo:=or32 bq hpl
   simp only [r159_9,SS,reduceIte,qQ,e1]
   refine callA_pure t4 ?_
   simp only [SS,reduceIte,qQ]
   refine callA_pure t5 ?_
   simp only [SS,reduceIte,qQ]
   simp only [r159_10,SS,forall_const,reduceIte,qQ,e4,e8,q1,q2,q3,qK,g2,u32s_len,hD.len,shlN hs,wo,u32s_set]
   refine ⟨by omega,⟨by omega,by omega⟩,by omega,by omega,by omega,⟨by omega,by omega⟩,by omega,rfl,?_⟩
   simp only [r159_11,SS,reduceIte,qQ,e8,w3]
   refine ⟨k,_,_,by omega,⟨setBit qs k,r3,c4,hD2,by omega,?_,?_,?_,?_,?_,rfl⟩,.refl⟩<;>simp only [upd_app,qQ,reduceIte,if_false, *]
  ·have hle:val r1<val n:=by
    unfold sgn at hc
    split at hc
    ·assumption
    ·exfalso
     split at hc<;>omega
   have hD2:=hD.low (r2:=r1) kc kv hle
   simp only [r159_11,SS,reduceIte,qQ,e8,w3]
   refine ⟨k,_,_,by omega,⟨qs,r1,c2,hD2,by omega,?_,?_,?_,?_,?_,rfl⟩,.refl⟩<;>simp only [upd_app,qQ,reduceIte,if_false, *]
 ·have hk0:k=0:=by omega
  subst hk0
  exact hQ _ qs r cr hD (by simp only [upd_app,qQ,if_false,e4]) (by simp only [upd_app,qQ,if_false,e5])
theorem zdivide (m n:List Nat) (c d:Option Nat) (cm:Canon m) (cn:Canon n) (lm:m.length≤1100) (ln:n.length≤1100) (hn0:val n≠0):DivC m n c d:=by
 by_cases hsm:m.length≤2∧n.length≤2
 ·have p2:∀l:List Nat,Dig l→l.length≤2→val l<18446744073709551616:=by
   intro l hl h
   have h1:=val_lt hl
   have h2:4294967296^l.length≤4294967296^2:=qL (by decide) h
   omega
  exact zdivide_small m n c d cm cn (p2 m cm.1 hsm.1) (p2 n cn.1 hsm.2) hn0
 have dq:val m/val n≤val m:=yH _ _
 have dr:val m%val n≤val m:=Nat.mod_le _ _
 have lq:=canon_len (limbsOf_canon (val m/val n)) cm (by rw [val_limbsOf];exact dq)
 have lr:=canon_len (limbsOf_canon (val m%val n)) cm (by rw [val_limbsOf];exact dr)
 refine ⟨limbsOf (val m/val n),limbsOf (val m%val n),none,none,limbsOf_canon _,limbsOf_canon _,by omega,by omega,val_limbsOf _,val_limbsOf _,?_⟩
 have w1:IntKind.i64.wrap (32*(m.length:Int))=((32*m.length:Nat):Int):=by rw [show 32*(m.length:Int)=((32*m.length:Nat):Int) by omega];exact w64 (by omega) (by omega)
 have w2:IntKind.i64.wrap (((32*m.length:Nat):Int)-1)=((32*m.length:Nat):Int)-1:=w64 (by omega) (by omega)
 have hrep:List.replicate m.length (AV.int IntKind.u32 0)=u32s (List.replicate m.length 0):=by simp [u32s]
 refine Ret_ofw mixed Tryz.func159 comp159 _ 75 res159 nt159 (by simp) (by simp) ?_
 have fin:∀E' qs r cr,DivS m n 0 qs r→E' 4= .sl 0 0 m.length 1 (some m.length)→E' 5= .vec (u32s r) r.length cr→
   wpC Tryz.prog G 0 75 (.seq (.reg r159_12 none) .ret) E' [some (u32s qs)] (fun x E' H'=>(x= .ret∨x= .normal)∧∃v' v'',resA Tryz.prog [(.tmp 4),(.tmp 5)] E' H'=some v'∧AL.Fin 0 v' H' v'' []∧v''.wk=(.tup [.vec (u32s (limbsOf (val m/val n))) (limbsOf (val m/val n)).length none,.vec (u32s (limbsOf (val m%val n))) (limbsOf (val m%val n)).length none])):=by
  intro E' qs r cr hD e4 e5
  obtain ⟨v1,v2⟩:=hD.done
  obtain ⟨c3,t1⟩:=zTrim qs (some m.length) (by rw [hD.len];omega)
  have eq:trimL qs=limbsOf (val m/val n):=canon_inj (trimL_canon hD.dig) (limbsOf_canon _) (by rw [val_trimL,v1,val_limbsOf])
  have er:r=limbsOf (val m%val n):=canon_inj hD.canon (limbsOf_canon _) (by rw [v2,val_limbsOf])
  rw [eq] at t1
  subst er
  simp only [r159_12,SS,reduceCtorEq,reduceIte,e4]
  refine callA_frz (id:=0) (cs:=u32s qs) (d:=2) (args0:=[.sl 0 0 m.length 1 (some m.length)]) (args':=[.vec (u32s qs) qs.length (some m.length)]) t1 rfl ?_ rfl ?_ rfl (u32s_closed _) rfl
  ·have:=frz_mag (l:=qs) (n:=m.length) (c:=some m.length) hD.len.symm
   rw [List.mapM_cons,this]
   simp [hD.len]
  simp only [restA,applyE,qR,xW,SS,reduceIte,qQ,e5]
  refine ⟨.inl trivial,_,_,rfl,.drop _ _ rfl (by intro i cs h;omega),?_⟩
  simp only [AV.wk,AV.wk.wkL,wk_u32s,upd_app,qQ,reduceIte,if_false]
 rcases qG 2 m.length with h2 | h2
 ·have d1:decide ((m.length:Int)≤2)=false:=decide_eq_false (by omega)
  simp only [c159,r159_0,r159_1,SS,forall_const,reduceCtorEq,reduceIte,qQ,d1]
  simp only [r159_4,r159_5,SS,reduceCtorEq,reduceIte,qQ,qK,w1,w2,hrep]
  refine ⟨by omega,⟨by omega,by omega,by omega,by omega⟩,?_⟩
  refine zdiv_loop (c:=c) (d:=d) cm cn lm ln hn0 (by simp only [upd_app,argsE_app,qV,qQ,if_false]) (by simp only [upd_app,argsE_app,qV,qX,qQ,if_false]) (by simp only [upd_app,argsE_app,qX,qQ,reduceIte,if_false]) (by simp only [upd_app,argsE_app,qX,qQ,reduceIte,if_false]) (by simp only [upd_app,argsE_app,qX,qQ,reduceIte,if_false]) ?_
  intro E' qs r cr hD f4 f5
  have:=fin E' qs r cr hD f4 f5
  simp only [SS,reduceCtorEq,reduceIte] at this ⊢
  exact this
 ·have d1:decide ((m.length:Int)≤2)=true:=decide_eq_true (by omega)
  have d2:decide ((n.length:Int)≤2)=false:=decide_eq_false (by omega)
  simp only [c159,r159_0,r159_1,SS,forall_const,reduceCtorEq,reduceIte,qQ,d1,d2]
  simp only [r159_4,r159_5,SS,reduceCtorEq,reduceIte,qQ,qK,w1,w2,hrep]
  refine ⟨by omega,⟨by omega,by omega,by omega,by omega⟩,?_⟩
  refine zdiv_loop (c:=c) (d:=d) cm cn lm ln hn0 (by simp only [upd_app,argsE_app,qV,qQ,if_false]) (by simp only [upd_app,argsE_app,qV,qX,qQ,if_false]) (by simp only [upd_app,argsE_app,qX,qQ,reduceIte,if_false]) (by simp only [upd_app,argsE_app,qX,qQ,reduceIte,if_false]) (by simp only [upd_app,argsE_app,qX,qQ,reduceIte,if_false]) ?_
  intro E' qs r cr hD f4 f5
  have:=fin E' qs r cr hD f4 f5
  simp only [SS,reduceCtorEq,reduceIte] at this ⊢
  exact this
theorem divB_all:DivB BIG:=⟨qU _,fun x y _ _ h0 m n c d cm cn lm ln _ hn=>zdivide m n c d cm cn lm ln (by omega)⟩
theorem zQuoA {x y:Int} {a b:AV} (ha:IsInt x a) (hb:IsInt y b) (hy:y≠0):∃v,IsInt (x/y) v∧Ret Tryz.prog G 65 [a,b] [] v []:=
 zQuo ha hb hy (divB_all.2 x y ha.fits hb.fits hy) (xC (qI x y) ha.fits)
theorem zRem {x y:Int} {a b:AV} (ha:IsInt x a) (hb:IsInt y b) (hy:y≠0):∃v,IsInt (x%y) v∧Ret Tryz.prog G 118 [a,b] [] v []:=by
 obtain ⟨v,w,hv,hw,t⟩:=zDivMod ha hb hy (divB_all.2 x y ha.fits hb.fits hy) (xC (qI x y) ha.fits)
 obtain ⟨l,ca,_,_,_,rfl⟩:=ha
 obtain ⟨n,cb,_,_,_,rfl⟩:=hb
 have hw0:=hw
 obtain ⟨lv,cv,_,_,_,rfl⟩:=hv
 obtain ⟨lw,cw,_,_,_,rfl⟩:=hw
 refine ⟨_,hw0,?_⟩
 refine Ret_of mixed Tryz.func118 comp118 _ 16 res118 nt118 (by simp) (by simp) ?_
 simp only [c118,r118_0,r118_1,SS,reduceCtorEq,reduceIte,qJ,qQ,qZ]
 refine callA_pure t ?_
 simp only [SS,reduceIte,qJ,qQ,qZ,qB,qA]
 simp only [r118_2,SS,reduceIte,qJ,qQ,qZ]
 exact ⟨.inl trivial,_,rfl,.drop _ _ rfl (by intro i cs h;omega)⟩
theorem zGcd {x y:Int} {a b:AV} (ha:IsInt x a) (hb:IsInt y b):Ret Tryz.prog G 64 [a,b] [] (intV (Int.gcd x y:Int)) []:=by
 obtain ⟨va,hva,t1⟩:=zAbs ha
 obtain ⟨vb,hvb,t2⟩:=zAbs hb
 obtain ⟨l,ca,_,_,_,rfl⟩:=ha
 obtain ⟨n,cb,_,_,_,rfl⟩:=hb
 obtain ⟨la,da,_,_,_,hea⟩:=id hva
 obtain ⟨lb,db,_,_,_,heb⟩:=id hvb
 subst hea heb
 refine Ret_ofw mixed Tryz.func64 comp64 _ 19 res64 nt64 (by simp) (by simp) ?_
 simp only [c64,r64_0,r64_1,SS,reduceCtorEq,reduceIte,qJ,qQ,qZ]
 refine callA_pure t1 ?_
 simp only [SS,reduceIte,qJ,qQ,qZ]
 refine callA_pure t2 ?_
 simp only [SS,reduceIte,qJ,qQ,qZ]
 refine ⟨rfl,?_⟩
 refine W_loop (fun k E H=>∃(p q:Nat) (u1 v1 u2 v2:AV),q=k∧Nat.gcd p q=Int.gcd x y∧IsInt (p:Int) (.agg [u1,v1])∧IsInt (q:Int) (.agg [u2,v2])∧E 4= .ptr 2 0∧E 5= .ptr 3 0∧E 6= .ptr 4 0∧
  H=[some [.bool (decide (x<0)),.vec (u32s l) l.length ca],some [.bool (decide (y<0)),.vec (u32s n) n.length cb],some [.bool false,.vec [] 0 (some 0)],some [u1,v1],some [u2,v2]]) (n:=y.natAbs)
  ⟨x.natAbs,y.natAbs,_,_,_,_,rfl,rfl,hva,hvb,by simp only [upd_app,argsE_app,qX,qQ,reduceIte,if_false],by simp only [upd_app,argsE_app,qX,qQ,reduceIte,if_false],by simp only [upd_app,argsE_app,qX,qQ,reduceIte,if_false],rfl⟩ ?_
 rintro k E H ⟨p,q,u1,v1,u2,v2,rfl,hg,h1,h2,e4,e5,e6,rfl⟩
 refine wpC_sound mixed ?_
 have t3:=zSign h2
 obtain ⟨l1,c1,x1,y1⟩:=intCells h1
 obtain ⟨l2,c2,x2,y2⟩:=intCells h2
 subst x1 y1 x2 y2
 simp only [l64_0,r64_2,SS,reduceCtorEq,reduceIte,qJ,qQ,qZ,e6]
 refine callA_pure t3 ?_
 simp only [SS,reduceIte,qQ]
 refine ⟨fun hne=>?_,fun heq=>?_⟩
 ·have hq:(q:Int)≠0:=by
   intro e
   rw [e] at hne
   exact hne rfl
  obtain ⟨w,hw,t4⟩:=zRem h1 h2 hq
  obtain ⟨lw,cw,_,_,_,rfl⟩:=id hw
  have em:((p:Int)%(q:Int))=((p%q:Nat):Int):=by omega
  rw [em] at hw
  have hlt:p%q<q:=qT _ (by omega)
  simp only [r64_3,SS,reduceIte,qJ,qQ,qZ,e5,e6]
  refine callA_pure t4 ?_
  simp only [SS,reduceIte,qJ,qQ,qZ,e5,e6]
  refine ⟨rfl,?_⟩
  refine ⟨p%q,_,_,hlt,⟨q,p%q,_,_,_,_,rfl,?_,h2,hw,?_,?_,?_,?_⟩,.refl⟩
  ·rw [←hg,Nat.gcd_comm p q,Nat.gcd_rec q p,Nat.gcd_comm]
  ·simp only [upd_app,qQ,if_false,e4]
  ·simp only [upd_app,qQ,if_false,e5]
  ·simp only [upd_app,qQ,if_false,e6]
  ·rw [em]
 ·have hq:q=0:=by
   have h0:((q:Nat):Int).sign=0:=Decidable.not_not.1 heq
   have:=Int.sign_eq_zero_iff_zero.1 h0
   omega
  subst hq
  rw [Nat.gcd_zero_right] at hg
  rw [hg] at h1
  simp only [r64_4,SS,reduceIte,qJ,qQ,qZ,e4,e5]
  exact ⟨.inl trivial,_,_,resA_int (id:=2) (by simp only [upd_app,qQ,if_false,e4]) rfl,.drop _ _ rfl (by intro i cs h;omega),h1.wk⟩
end Go.Proofs.YtenboapacjlmoaaGreatDoor
namespace Go.Proofs.YtenboapacjlmoaaGreatDoor
open Int renaming mul_le_mul_of_nonneg_right → qE, natAbs_ediv_le_natAbs → qI, mul_ediv_mul_of_pos_left → xY, mul_assoc → xG, ediv_mul_cancel → xT, one_mul → yC, add_mul → yD
set_option linter.unusedSimpArgs false
set_option linter.unusedVariables false
open Go Go.AL Go.Det
def numR (n d:Int):Int:=n/(Int.gcd n d:Int)
def denR (n d:Int):Int:=d/(Int.gcd n d:Int)
theorem gcd_pos {n d:Int} (hd:0<d):0<(Int.gcd n d:Int):=by
 have:=Int.gcd_pos_of_ne_zero_right n (show d≠0 by omega)
 omega
theorem num_mul (n d:Int):numR n d*(Int.gcd n d:Int)=n:=xT (Int.gcd_dvd_left ..)
theorem den_mul (n d:Int):denR n d*(Int.gcd n d:Int)=d:=xT (Int.gcd_dvd_right ..)
theorem den_pos {n d:Int} (hd:0<d):0<denR n d:=by
 have h1:=gcd_pos (n:=n) hd
 have h2:=den_mul n d
 rcases Int.lt_or_le 0 (denR n d) with h | h
 ·exact h
 ·have:=qE h (show (0:Int)≤(Int.gcd n d:Int) by omega)
  omega
theorem num_le (n d:Int):(numR n d).natAbs≤n.natAbs:=qI _ _
theorem den_le (n d:Int):(denR n d).natAbs≤d.natAbs:=qI _ _
theorem gcd_one {n d:Int} (hd:0<d):Int.gcd (numR n d) (denR n d)=1:=by
 have h1:=gcd_pos (n:=n) hd
 exact Int.gcd_ediv_gcd_ediv_gcd (by omega)
theorem num_num {n d:Int} (hd:0<d):numR (numR n d) (denR n d)=numR n d:=by
 show numR n d/(Int.gcd (numR n d) (denR n d):Int)=_
 rw [gcd_one hd];exact Int.ediv_one _
theorem den_den {n d:Int} (hd:0<d):denR (numR n d) (denR n d)=denR n d:=by
 show denR n d/(Int.gcd (numR n d) (denR n d):Int)=_
 rw [gcd_one hd];exact Int.ediv_one _
theorem quo_low {n d:Int} (hd:0<d):numR n d/denR n d=n/d:=by
 have h1:=gcd_pos (n:=n) hd
 have e1:=num_mul n d
 have e2:=den_mul n d
 have e3:(numR n d*(Int.gcd n d:Int))/(denR n d*(Int.gcd n d:Int))=numR n d/denR n d:=xY _ _ h1
 rw [e1,e2] at e3
 exact e3.symm
theorem near_low {l d:Int} (hd:0<d):(numR l d*2+1*denR l d)/(denR l d*2)=nearZ l d:=by
 unfold nearZ
 have h1:=gcd_pos (n:=l) hd
 have e1:=num_mul l d
 have e2:=den_mul l d
 have e3:((numR l d*2+1*denR l d)*(Int.gcd l d:Int))/((denR l d*2)*(Int.gcd l d:Int))=(numR l d*2+1*denR l d)/(denR l d*2):=xY _ _ h1
 rw [←e3]
 congr 1
 ·rw [yD,yC,e2,xG,Int.mul_comm 2,←xG,e1];omega
 ·rw [xG,Int.mul_comm 2,←xG,e2];omega
theorem half_num:numR 1 2=1:=by decide
theorem half_den:denR 1 2=2:=by decide
end Go.Proofs.YtenboapacjlmoaaGreatDoor
namespace Go.Proofs.YtenboapacjlmoaaGreatDoor
open Nat renaming reduceEqDiff → qQ, reduceLeDiff → qZ, reduceAdd → qJ, le_refl → qU, add_zero → xU
open List renaming getD_cons_succ → qX, getD_eq_getElem?_getD → qW, getElem?_cons_succ → qA, getElem?_cons_zero → qB, length_map → xV, length_set → xL
open Int renaming toNat_natCast → qK
open Option renaming getD_some → xJ
set_option linter.unusedSimpArgs false
set_option linter.unusedVariables false
open Go Go.AL Go.Proofs Go.Limb
set_option maxRecDepth 100000
def IsRat (n d:Int) (v:AV):Prop:= ∃a1 a2 b1 b2,v= .agg [a1,a2,b1,b2]∧IsInt n (.agg [a1,a2])∧IsInt d (.agg [b1,b2])
theorem qNew {n d:Int} {a b:AV} (ha:IsInt n a) (hb:IsInt d b) (hd:0<d):∃v,IsRat (numR n d) (denR n d) v∧Ret Tryz.prog G 26 [a,b] [] (.tup [v,.bool true]) []:=by
 have t1:=zSign hb
 have s1:d.sign=1:=Int.sign_eq_one_of_pos hd
 rw [s1] at t1
 have t2:=zGcd ha hb
 have hg:=gcd_pos (n:=n) hd
 have hgf:((Int.gcd n d:Nat):Int).natAbs<BIG:=by
  have h1:Int.gcd n d≤d.natAbs:=Nat.le_of_dvd (by omega) (Int.gcd_dvd_natAbs_right n d)
  have:=hb.fits
  omega
 have hgi:=intV_isInt hgf
 obtain ⟨v1,hv1,t3⟩:=zQuoA ha hgi (by omega)
 obtain ⟨v2,hv2,t4⟩:=zQuoA hb hgi (by omega)
 obtain ⟨lg,cg,_,_,_,heg⟩:=hgi
 rw [heg] at t2 t3 t4
 obtain ⟨l,ca,_,_,_,rfl⟩:=ha
 obtain ⟨m,cb,_,_,_,rfl⟩:=hb
 obtain ⟨l1,c1,_,_,_,he1⟩:=id hv1
 obtain ⟨l2,c2,_,_,_,he2⟩:=id hv2
 subst he1 he2
 refine ⟨_,⟨_,_,_,_,rfl,hv1,hv2⟩,?_⟩
 refine Ret_of mixed Tryz.func26 comp26 _ 28 res26 nt26 (by simp) (by simp) ?_
 simp only [c26,r26_0,r26_1,SS,reduceCtorEq,reduceIte,qJ,qQ,qZ]
 refine callA_pure t1 ?_
 simp only [SS,reduceIte,qQ]
 refine ⟨fun h=>absurd h (by decide),fun _=>?_⟩
 simp only [r26_3,SS,reduceIte,qJ,qQ,qZ]
 refine callA_pure t1 ?_
 simp only [SS,reduceIte,qQ]
 refine ⟨fun h=>absurd h (by decide),fun _=>?_⟩
 simp only [r26_5,SS,reduceIte,qJ,qQ,qZ]
 refine callA_pure t2 ?_
 simp only [SS,reduceIte,qJ,qQ,qZ]
 simp only [r26_6,SS,reduceIte,qJ,qQ,qZ]
 refine callA_pure t3 ?_
 simp only [SS,reduceIte,qJ,qQ,qZ]
 refine callA_pure t4 ?_
 simp only [SS,reduceIte,qJ,qQ,qZ]
 refine ⟨rfl,?_⟩
 exact ⟨.inl trivial,_,rfl,.drop _ _ rfl (by intro i cs h;omega)⟩
theorem qNormalize {n d:Int} {v:AV} (h:IsRat n d v) (hd:0<d):∃w,IsRat (numR n d) (denR n d) w∧Ret Tryz.prog G 129 [v] [] w []:=by
 obtain ⟨a1,a2,b1,b2,rfl,h1,h2⟩:=h
 obtain ⟨w,hw,t1⟩:=qNew h1 h2 hd
 obtain ⟨l1,c1,e1,e2⟩:=intCells h1
 obtain ⟨l2,c2,e3,e4⟩:=intCells h2
 subst e1 e2 e3 e4
 obtain ⟨w1,w2,w3,w4,rfl,k1,k2⟩:=id hw
 obtain ⟨m1,d1,f1,f2⟩:=intCells k1
 obtain ⟨m2,d2,f3,f4⟩:=intCells k2
 subst f1 f2 f3 f4
 refine ⟨_,hw,?_⟩
 refine Ret_of mixed Tryz.func129 comp129 _ 17 res129 nt129 (by simp) (by simp) ?_
 simp only [c129,r129_0,r129_1,SS,reduceCtorEq,reduceIte,qJ,qQ,qZ]
 refine callA_pure t1 ?_
 simp only [SS,reduceIte,qJ,qQ,qZ,qB,qA]
 simp only [r129_2,SS,forall_const,reduceIte,qQ]
 simp only [r129_4,SS,reduceIte,qJ,qQ,qZ]
 exact ⟨.inl trivial,_,rfl,.drop _ _ rfl (by intro i cs h;omega)⟩
theorem qQuotient {n d:Int} {a b:AV} (ha:IsInt n a) (hb:IsInt d b) (hd:0<d):∃v,IsRat (numR n d) (denR n d) v∧Ret Tryz.prog G 81 [a,b] [] v []:=by
 obtain ⟨l,ca,q1,q2,q3,rfl⟩:=ha
 obtain ⟨m,cb,q4,q5,q6,rfl⟩:=hb
 obtain ⟨w,hw,t1⟩:=qNormalize (v:= .agg [.bool (decide (n<0)),.vec (u32s l) l.length ca,.bool (decide (d<0)),.vec (u32s m) m.length cb]) ⟨_,_,_,_,rfl,⟨l,ca,q1,q2,q3,rfl⟩,⟨m,cb,q4,q5,q6,rfl⟩⟩ hd
 obtain ⟨w1,w2,w3,w4,rfl,k1,k2⟩:=id hw
 obtain ⟨m1,d1,f1,f2⟩:=intCells k1
 obtain ⟨m2,d2,f3,f4⟩:=intCells k2
 subst f1 f2 f3 f4
 refine ⟨_,hw,?_⟩
 refine Ret_of mixed Tryz.func81 comp81 _ 9 res81 nt81 (by simp) (by simp) ?_
 simp only [c81,r81_0,r81_1,SS,reduceCtorEq,reduceIte,qJ,qQ,qZ]
 refine callA_pure t1 ?_
 simp only [SS,reduceIte,qJ,qQ,qZ]
 exact ⟨.inl trivial,_,rfl,.drop _ _ rfl (by intro i cs h;omega)⟩
theorem qHalf:∃v,IsRat 1 2 v∧Ret Tryz.prog G 128 [] [] v []:=by
 obtain ⟨v1,hv1,t1⟩:=zSmall 1 (by omega) (by omega)
 obtain ⟨v2,hv2,t2⟩:=zSmall 2 (by omega) (by omega)
 obtain ⟨l1,c1,_,_,_,he1⟩:=id hv1
 obtain ⟨l2,c2,_,_,_,he2⟩:=id hv2
 subst he1 he2
 refine ⟨_,⟨_,_,_,_,rfl,hv1,hv2⟩,?_⟩
 refine Ret_of mixed Tryz.func128 comp128 _ 4 res128 nt128 (by simp) (by simp) ?_
 simp only [c128,r128_0,r128_1,SS,reduceCtorEq]
 refine callA_pure t1 ?_
 simp only [SS]
 refine callA_pure t2 ?_
 simp only [SS,reduceCtorEq,reduceIte,qJ,qQ,qZ]
 exact ⟨.inl trivial,_,rfl,.drop _ _ rfl (by intro i cs h;omega)⟩
theorem qAddHalf {l d:Int} {v h:AV} (hv:IsRat (numR l d) (denR l d) v) (hh:IsRat 1 2 h) (hd:0<d) (hf:2*(l.natAbs+d.natAbs)<BIG):
  ∃w,IsRat (numR (numR l d*2+1*denR l d) (denR l d*2)) (denR (numR l d*2+1*denR l d) (denR l d*2)) w∧Ret Tryz.prog G 127 [v,h] [] w []:=by
 have hdp:=den_pos (n:=l) hd
 have hnl:=num_le l d
 have hdl:=den_le l d
 obtain ⟨x,hx,t1⟩:=qNormalize hv hdp
 rw [num_num hd,den_den hd] at hx
 obtain ⟨y,hy,t2⟩:=qNormalize hh (by decide)
 rw [half_num,half_den] at hy
 obtain ⟨a1,a2,a3,a4,rfl,p1,p2⟩:=hv
 obtain ⟨b1,b2,b3,b4,rfl,p3,p4⟩:=hh
 obtain ⟨x1,x2,x3,x4,rfl,k1,k2⟩:=hx
 obtain ⟨y1,y2,y3,y4,rfl,k3,k4⟩:=hy
 obtain ⟨m1,hm1,t3⟩:=zMul k1 k4 (by omega)
 obtain ⟨m2,hm2,t4⟩:=zMul k3 k2 (by omega)
 obtain ⟨s,hs,t5⟩:=zAdd hm1 hm2 (by omega)
 obtain ⟨m3,hm3,t6⟩:=zMul k2 k4 (by omega)
 obtain ⟨w,hw,t7⟩:=qNew hs hm3 (by omega)
 obtain ⟨_,_,e1,e2⟩:=intCells p1
 obtain ⟨_,_,e3,e4⟩:=intCells p2
 obtain ⟨_,_,e5,e6⟩:=intCells p3
 obtain ⟨_,_,e7,e8⟩:=intCells p4
 subst e1 e2 e3 e4 e5 e6 e7 e8
 obtain ⟨_,_,e1,e2⟩:=intCells k1
 obtain ⟨_,_,e3,e4⟩:=intCells k2
 obtain ⟨_,_,e5,e6⟩:=intCells k3
 obtain ⟨_,_,e7,e8⟩:=intCells k4
 subst e1 e2 e3 e4 e5 e6 e7 e8
 obtain ⟨_,_,_,_,_,rfl⟩:=id hm1
 obtain ⟨_,_,_,_,_,rfl⟩:=id hm2
 obtain ⟨_,_,_,_,_,rfl⟩:=id hm3
 obtain ⟨_,_,_,_,_,rfl⟩:=id hs
 obtain ⟨w1,w2,w3,w4,rfl,j1,j2⟩:=id hw
 obtain ⟨_,_,e1,e2⟩:=intCells j1
 obtain ⟨_,_,e3,e4⟩:=intCells j2
 subst e1 e2 e3 e4
 refine ⟨_,hw,?_⟩
 refine Ret_of mixed Tryz.func127 comp127 _ 34 res127 nt127 (by simp) (by simp) ?_
 simp only [c127,r127_0,r127_1,SS,reduceCtorEq,reduceIte,qJ,qQ,qZ]
 refine callA_pure t1 ?_
 simp only [SS,reduceIte,qJ,qQ,qZ]
 refine callA_pure t2 ?_
 simp only [SS,reduceIte,qJ,qQ,qZ]
 refine ⟨rfl,?_⟩
 simp only [r127_2,SS,reduceIte,qJ,qQ,qZ]
 refine callA_pure t3 ?_
 simp only [SS,reduceIte,qJ,qQ,qZ]
 refine callA_pure t4 ?_
 simp only [SS,reduceIte,qQ]
 refine callA_pure t5 ?_
 simp only [SS,reduceIte,qJ,qQ,qZ]
 refine callA_pure t6 ?_
 simp only [SS,reduceIte,qQ]
 refine callA_pure t7 ?_
 simp only [SS,reduceIte,qJ,qQ,qZ,qB,qA]
 refine ⟨rfl,?_⟩
 simp only [r127_3,SS,reduceIte,qJ,qQ,qZ]
 exact ⟨.inl trivial,_,rfl,.drop _ _ rfl (by intro i cs h;omega)⟩
theorem qFloor {n d:Int} {v:AV} (h:IsRat n d v) (hd:0<d):∃w,IsInt (n/d) w∧Ret Tryz.prog G 126 [v] [] w []:=by
 obtain ⟨x,hx,t1⟩:=qNormalize h hd
 have hdp:=den_pos (n:=n) hd
 obtain ⟨a1,a2,a3,a4,rfl,p1,p2⟩:=h
 obtain ⟨x1,x2,x3,x4,rfl,k1,k2⟩:=hx
 obtain ⟨w,hw,t2⟩:=zQuoA k1 k2 (by omega)
 rw [quo_low hd] at hw
 obtain ⟨_,_,e1,e2⟩:=intCells p1
 obtain ⟨_,_,e3,e4⟩:=intCells p2
 subst e1 e2 e3 e4
 obtain ⟨_,_,e1,e2⟩:=intCells k1
 obtain ⟨_,_,e3,e4⟩:=intCells k2
 subst e1 e2 e3 e4
 obtain ⟨_,_,_,_,_,rfl⟩:=id hw
 refine ⟨_,hw,?_⟩
 refine Ret_of mixed Tryz.func126 comp126 _ 11 res126 nt126 (by simp) (by simp) ?_
 simp only [c126,r126_0,r126_1,SS,reduceCtorEq,reduceIte,qJ,qQ,qZ]
 refine callA_pure t1 ?_
 simp only [SS,reduceIte,qJ,qQ,qZ]
 simp only [r126_2,SS,reduceIte,qJ,qQ,qZ]
 refine callA_pure t2 ?_
 simp only [SS,reduceIte,qJ,qQ,qZ]
 exact ⟨.inl trivial,_,rfl,.drop _ _ rfl (by intro i cs h;omega)⟩
theorem qNearest {l d:Int} {v:AV} (hv:IsRat (numR l d) (denR l d) v) (hd:0<d) (hf:2*(l.natAbs+d.natAbs)<BIG):∃w,IsInt (nearZ l d) w∧Ret Tryz.prog G 80 [v] [] w []:=by
 obtain ⟨h,hh,t1⟩:=qHalf
 obtain ⟨s,hs,t2⟩:=qAddHalf hv hh hd hf
 have hdp:=den_pos (n:=l) hd
 have hd2:0<denR l d*2:=by omega
 obtain ⟨w,hw,t3⟩:=qFloor hs (den_pos hd2)
 rw [quo_low hd2,near_low hd] at hw
 obtain ⟨a1,a2,a3,a4,rfl,p1,p2⟩:=hv
 obtain ⟨b1,b2,b3,b4,rfl,p3,p4⟩:=hh
 obtain ⟨s1,s2,s3,s4,rfl,p5,p6⟩:=hs
 obtain ⟨_,_,e1,e2⟩:=intCells p1
 obtain ⟨_,_,e3,e4⟩:=intCells p2
 obtain ⟨_,_,e5,e6⟩:=intCells p3
 obtain ⟨_,_,e7,e8⟩:=intCells p4
 subst e1 e2 e3 e4 e5 e6 e7 e8
 obtain ⟨_,_,e1,e2⟩:=intCells p5
 obtain ⟨_,_,e3,e4⟩:=intCells p6
 subst e1 e2 e3 e4
 obtain ⟨_,_,_,_,_,rfl⟩:=id hw
 refine ⟨_,hw,?_⟩
 refine Ret_of mixed Tryz.func80 comp80 _ 7 res80 nt80 (by simp) (by simp) ?_
 simp only [c80,r80_0,r80_1,SS,reduceCtorEq,reduceIte,qJ,qQ,qZ]
 refine callA_pure t1 ?_
 simp only [SS,reduceIte,qQ]
 refine callA_pure t2 ?_
 simp only [SS,reduceIte,qQ]
 refine callA_pure t3 ?_
 simp only [SS,reduceIte,qJ,qQ,qZ]
 refine ⟨rfl,?_⟩
 exact ⟨.inl trivial,_,rfl,.drop _ _ rfl (by intro i cs h;omega)⟩
def idB (H:Heap) (ps:List (Nat×Option Nat)) (uv:List AV):Nat→Heap
 | 0=>H
 | i+1=>(idB H ps uv i).set (pid ps i) (some (setL ((getB (idB H ps uv i) (pid ps i)).getD []) (i*2) uv))
def idX (n:Nat):Nat→List (List Int)
 | 0=>zmat n n
 | i+1=>setM (idX n i) i i 1
theorem idX_len (n:Nat):∀i,(idX n i).length=n:=by
 intro i
 induction i with
 | zero=>exact (zmat_shp n n).1
 | succ i ih=>show (setM _ _ _ _).length=n;rw [setM_len,ih]
theorem idB_mat {H:Heap} {ps:List (Nat×Option Nat)} {n:Nat} {u v:AV} (h:MatH H 0 ps n (zmat n n)) (hz:IsInt 1 (.agg [u,v])):∀i,i≤n→MatH (idB H ps [u,v] i) 0 ps n (idX n i):=by
 intro i
 induction i with
 | zero=>intro _;exact h
 | succ i ih=>
  intro hi
  have hM:=ih (by omega)
  obtain ⟨cs,gk,_⟩:=mat_get hM (i:=i) (by rw [idX_len];omega)
  have:=mat_set hM (i:=i) (j:=i) (by rw [idX_len];omega) (by omega) hz gk
  show MatH ((idB H ps [u,v] i).set (pid ps i) (some (setL ((getB (idB H ps [u,v] i) (pid ps i)).getD []) (i*2) [u,v]))) 0 ps n (setM (idX n i) i i 1)
  rw [gk]
  exact this
theorem idX_ent {n:Nat}:∀i,i≤n→(∀s,s<n→((idX n i).getD s []).length=n)∧∀s t,ent (idX n i) s t=if s<i∧s=t then 1 else 0:=by
 intro i
 induction i with
 | zero=>intro _;exact ⟨(zmat_shp n n).2,fun s t=>by rw [if_neg (by omega)];exact zmat_ent n n s t⟩
 | succ i ih=>
  intro hi
  obtain ⟨h1,h2⟩:=ih (by omega)
  have hl:=idX_len n i
  have hrow:∀s,s<n→((setM (idX n i) i i 1).getD s []).length=n:=by
   intro s hs
   unfold setM
   rw [qW,List.getElem?_set]
   by_cases e:i=s
   ·subst e
    rw [if_pos rfl,if_pos (by omega),xJ,xL];exact h1 i hs
   ·rw [if_neg e,←qW];exact h1 s hs
  refine ⟨hrow,fun s t=>?_⟩
  show ent (setM (idX n i) i i 1) s t=_
  rw [ent_set' (by omega) (by rw [h1 i (by omega)];omega),h2]
  by_cases e1:s=i∧t=i
  ·rw [if_pos e1,if_pos ⟨by omega,by omega⟩]
  ·rw [if_neg e1]
   by_cases e2:s<i∧s=t
   ·rw [if_pos e2,if_pos ⟨by omega,e2.2⟩]
   ·rw [if_neg e2,if_neg (by omega)]
theorem idX_id (n:Nat):idX n n=idM n:=by
 obtain ⟨h1,h2⟩:=idX_ent (n:=n) n (qU _)
 refine shp_ext (n:=n) ⟨idX_len n n,h1⟩ (id_shp n) fun s t hs ht=>?_
 rw [h2,id_ent hs ht]
 by_cases e:s=t
 ·rw [if_pos ⟨hs,e⟩,if_pos e]
 ·rw [if_neg (fun x=>e x.2),if_neg e]
theorem mIdentityH {n:Nat} (hn:1≤n∧n≤16):∃H1 ps,MatH H1 0 ps n (idM n)∧Ret Tryz.prog G 35 [.int .i64 (n:Nat)] [] (.tup [.sl 0 0 n 1 (some n),.bool true]) H1:=by
 obtain ⟨H1,ps,hH1,hz⟩:=zero_first n n
 obtain ⟨v,hv,ts⟩:=zSmall 1 (by omega) (by omega)
 have hv0:=hv
 obtain ⟨lv,cv,_,_,_,rfl⟩:=hv0
 have hM:=idB_mat hz hv
 refine ⟨idB H1 ps _ n,ps,by have:=hM n (qU _);rw [idX_id] at this;exact this,?_⟩
 refine Ret_of mixed Tryz.func35 comp35 _ 29 res35 nt35 (by simp) (by simp) ?_
 simp only [c35,r35_0,r35_1,SS,forall_const,reduceCtorEq,reduceIte,qQ]
 refine ⟨fun _=>⟨fun h=>absurd h (by omega),fun _=>?_⟩,fun h=>absurd h (by omega)⟩
 simp only [r35_3,SS,reduceCtorEq,reduceIte,qQ]
 refine callA_new (mZero hn.2 hn.2) rfl ?_
 simp only [restA,SS,reduceIte,qQ,AV.ren,names_nil,xU,hH1]
 simp only [r35_4,SS,reduceIte,qQ]
 refine W_loop (fun k E H=>∃i,i+k=n∧H=idB H1 ps [.bool (decide ((1:Int)<0)),.vec (u32s lv) lv.length cv] i∧E 4= .sl 0 0 n 1 (some n)∧E 16= .int .i64 (n:Nat)∧E 17= .int .i64 (i:Nat)) (n:=n) ⟨0,by omega,rfl,by simp only [upd_app,argsE_app,qX,qQ,reduceIte,if_false],by simp only [upd_app,argsE_app,qX,qQ,reduceIte,if_false],by simp only [upd_app,argsE_app,qX,qQ,reduceIte,if_false];rfl⟩ ?_
 rintro k E H ⟨i,hik,rfl,e4,e16,e17⟩
 refine wpC_sound mixed ?_
 simp only [l35_0,r35_5,SS,reduceCtorEq,reduceIte,e16,e17]
 refine ⟨fun hlt=>?_,fun hge=>?_⟩
 ·obtain ⟨k,rfl⟩:∃k',k=k'+1:=⟨k-1,by omega⟩
  have hi:i<n:=by omega
  have hMi:=hM i (by omega)
  have hXl:=idX_len n i
  obtain ⟨csk,gk,lk,rk,fk⟩:=mat_get hMi (i:=i) (by omega)
  have ok:=mat_outer (ps:=ps) (n:=n) (i:=i) (by rw [hMi.len];omega)
  have hol:(ps.map (slRow n)).length=n:=by rw [xV,hMi.len];exact hXl
  have hou:=hMi.outer
  have w5:IntKind.i64.wrap ((i:Int)+1)=((i+1:Nat):Int):=by rw [show (i:Int)+1=((i+1:Nat):Int) by omega];exact w64 (by omega) (by omega)
  simp only [r35_6,r35_7,SS,forall_const,reduceIte,qQ,e4,e17,qK,hou,hol,ok]
  refine ⟨⟨by omega,by omega⟩,by omega,?_⟩
  refine callA_pure ts ?_
  simp only [SS,reduceIte,qJ,qQ,gk,lk,qK]
  refine ⟨⟨by omega,by omega⟩,by omega,rfl,?_⟩
  simp only [r35_8,SS,reduceIte,qQ,e17,w5]
  refine ⟨k,_,_,by omega,⟨i+1,by omega,?_,?_,?_,?_⟩,.refl⟩
  ·show _=(idB H1 ps _ i).set (pid ps i) (some (setL ((getB (idB H1 ps _ i) (pid ps i)).getD []) (i*2) _))
   rw [gk]
   rfl
  all_goals simp only [upd_app,qQ,reduceIte,if_false, *]
 ·have hin:i=n:=by omega
  subst hin
  simp only [r35_9,SS,reduceIte,qQ,e4]
  exact ⟨.inl trivial,_,rfl,.keep _ _⟩
end Go.Proofs.YtenboapacjlmoaaGreatDoor
