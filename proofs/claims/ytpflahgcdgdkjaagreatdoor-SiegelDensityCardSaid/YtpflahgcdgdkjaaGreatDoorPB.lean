/- A part of the proof. -/
import Derived.Test.YtpflahgcdgdkjaaGreatDoorPA
import Derived.Test.YtpflahgcdgdkjaaGreatDoorAL59
import Derived.Test.YtpflahgcdgdkjaaGreatDoorSS
import Derived.Test.YtpflahgcdgdkjaaGreatDoorAL1
import Derived.Test.YtpflahgcdgdkjaaGreatDoorAL52
set_option linter.all false
set_option maxRecDepth 100000
namespace Go.Proofs.YtpflahgcdgdkjaaGreatDoor
open Nat renaming reduceEqDiff -> qQ, reduceLeDiff -> qX, reduceAdd -> qZ, div_le_self -> qC, div_one -> qE, le_refl -> qG, lt_of_le_of_lt -> qM, lt_or_ge -> qT, zero_add -> xZ, mod_lt -> xV, reduceMul -> xC, pos_of_ne_zero -> xE, mul_one -> xG, one_mul -> xH, gcd_comm -> xL, mul_zero -> xN, eq_zero_or_pos -> yX, gcd_dvd_right -> yK, gcd_dvd_left -> yA, zero_le -> yE, gcd_zero_right -> yL, zero_mul -> yO, mul_ne_zero -> zQ
open List renaming getElem?_cons_zero -> qJ, getElem?_cons_succ -> qK, replicate_zero -> qU, append_nil -> qD, nil_append -> yC, take_zero -> yG, set_cons_succ -> yM
open Int renaming reduceLT -> qI, reduceEq -> xJ, reduceNeg -> xB, reduceLE -> xM, natCast_zero -> xS, reduceAdd -> yU
open Option renaming bind_some -> xR
open Go Go.AL Go.Proofs
theorem qnn {x y:Nat} {c d:Option Nat} (hx:x≠0) (hx':x<4294967296) (hy:y≠0) (hy':y<4294967296):
  Rt 196 [.vec [.int .u32 x] 1 c,.vec [.int .u32 y] 1 d] [] (.vec [.int .u32 (Nat.gcd x y:Nat)] 1 (some 2)) []:=by
 refine oF o196 ?_
 simp only [c196,r196_0,SS,reduceCtorEq]
 refine W_un zhb 1 (zfc ?_)
 simp only [l196_0,r196_1,SS,fC,reduceCtorEq,reduceIte,qQ,decide_false,qI,n1]
 simp only [r196_6,SS,reduceCtorEq,reduceIte,qQ]
 refine zaa (zni x c hx') ?_
 simp only [SS,reduceIte,qQ]
 refine zaa (zni y d hy') ?_
 simp only [SS,reduceIte,qQ]
 refine zai (fun q E H=>∃a b:Nat,b=q/\H=[]/\a≠0/\a<4294967296/\b<4294967296/\Nat.gcd a b=Nat.gcd x y/\E 7= .int .u64 (a:Int)/\E 8= .int .u64 (b:Int)) (n:=y)
  ⟨x,y,rfl,rfl,hx,hx',hy',rfl,by simp only [UU,qQ,reduceIte],by simp only [UU,qQ,reduceIte]⟩ ?_
 rintro q E H ⟨a,b,rfl,rfl,ha,ha',hb',hg,e7,e8⟩
 refine wM ?_
 rcases yX b with rfl | hb
 ·have d1:decide (((0:Nat):Int)≠0)=false:=by simp
  simp only [l196_1,r196_7,SS,fC,reduceCtorEq,reduceIte,qQ,e8,d1]
  simp only [r196_9,SS,reduceIte,qQ,e7]
  refine zaa (zex a ha ha') ?_
  simp only [SS,reduceIte,qQ]
  rw [yL] at hg
  rw [<-hg]
  exact ⟨.inl trivial,_,rfl,.keep _ _⟩
 ·have d1:decide ((b:Int)≠0)=true:=by simp;omega
  have et:Int.tmod (a:Int) (b:Int)=((a%b:Nat):Int):=rfl
  have hlt:=xV a hb
  simp only [l196_1,r196_7,r196_8,SS,fC,reduceCtorEq,reduceIte,qQ,e7,e8,d1,et]
  refine ⟨by omega,rfl,a%b,_,_,hlt,⟨b,a%b,rfl,rfl,by omega,hb',by omega,?_,?_,?_⟩,.refl⟩
  ·rw [<-hg,xL a b];exact (Nat.gcd_rec b a).symm ▸ (xL _ _)
  all_goals simp only [UU,qQ,reduceIte, *]
theorem jaz {x y:Nat} {c d:Option Nat} (hx:x≠0) (hx':x<4294967296) (hy:y≠0) (hy':y<4294967296):
  Rt 146 [.agg [.bool false,.vec [.int .u32 x] 1 c],.agg [.bool false,.vec [.int .u32 y] 1 d]] [] (.agg [.bool false,.vec [.int .u32 (Nat.gcd x y:Nat)] 1 (some 2)]) []:=by
 refine oF o146 ?_
 simp only [c146,r146_0,SS,reduceCtorEq,reduceIte,qZ,qQ]
 simp only [r146_1,SS,fC,reduceIte,qZ,qQ,qX]
 refine zaa (zil x c hx) ?_
 simp only [SS,fC,reduceIte,qZ,qQ,qX]
 refine zaa (zil y d hy) ?_
 simp only [SS,reduceIte,qQ]
 refine zaa (qnn hx hx' hy hy') ?_
 simp only [SS,reduceIte,qQ]
 refine zaa (zjn _ _ _) ?_
 simp only [SS,reduceIte,qZ,qQ,qX]
 refine ⟨rfl,?_⟩
 exact ⟨.inl trivial,_,rfl,.drop _ _ rfl (by intro i cs h;omega)⟩
theorem qgr (x:Nat) (c:Option Nat):Rt 142 [.vec [.int .u32 x] 1 c] [] (.vec [.int .u32 x] 1 none) []:=by
 refine oF o142 ?_
 simp only [c142,r142_0,r142_1,r142_2,r142_3,SS,fC,reduceCtorEq,reduceIte,qQ,show (1:Nat)≠0 by omega,if_false]
 have e1:1*1<=[AV.int IntKind.u32 (x:Int)].length:=qG _
 have e2:1<=[AV.int IntKind.u32 (x:Int)].length:=qG _
 simp only [zbf,lenA,zde,need,xR,e2,qG,and_self,if_true,show (1:Nat)≠0 by omega,if_false,getB,qJ,yE,xZ,true_and,show 4*1*4<=2^48 by omega,show 1<2^62 by omega,zao,zad,xG,yM,List.set_cons_zero,yG,yC]
 exact ⟨.inl trivial,_,rfl,.freeze 3 _ _ _ rfl (by intro i cs h;omega)⟩
theorem qcc (s:Bool) (c:Option Nat):Rt 77 [.agg [.bool s,.vec [] 0 c]] [] (.agg [.bool false,.vec [] 0 (some 0)]) []:=by
 refine oF o77 ?_
 simp only [c77,SS,reduceCtorEq]
 simp only [r77_0,SS]
 simp only [r77_1,SS,fC,reduceIte,qZ,qQ,qX,qZ]
 refine zaa (qcb c) ?_
 simp only [SS,reduceIte,qQ]
 refine zaa (qgq _ _) ?_
 simp only [SS,reduceIte,qQ]
 refine zaa (zll _ _ _) ?_
 simp only [SS,reduceIte,qZ,qQ,qX,qZ]
 refine ⟨rfl,?_⟩
 exact dR
theorem zpg (s:Bool) (x:Nat) (c:Option Nat) (hx:x≠0) (hx':x<4294967296):Rt 77 [.agg [.bool s,.vec [.int .u32 x] 1 c]] [] (.agg [.bool s,.vec [.int .u32 x] 1 none]) []:=by
 refine oF o77 ?_
 simp only [c77,SS,reduceCtorEq]
 simp only [r77_0,SS]
 simp only [r77_1,SS,fC,reduceIte,qZ,qQ,qX,qZ]
 refine zaa (zil x c hx) ?_
 simp only [SS,reduceIte,qQ]
 refine zaa (qgr x c) ?_
 simp only [SS,reduceIte,qQ]
 refine zaa (zjn _ _ _) ?_
 simp only [SS,reduceIte,qZ,qQ,qX,qZ]
 refine ⟨rfl,?_⟩
 exact dR
theorem qug (y:Nat) (c d:Option Nat):Rt 143 [.vec [] 0 c,.vec [.int .u32 y] 1 d] [] (.tup [.vec [] 0 (some 0),.vec [] 0 (some 0)]) []:=by
 refine oF o143 ?_
 simp only [c143,SS,reduceCtorEq]
 simp only [r143_0,SS]
 simp only [r143_1,SS,reduceCtorEq,reduceIte,qQ]
 refine zaa (qnj _ c d) ?_
 simp only [SS,fC,reduceIte,qQ,decide_true,qI,xB]
 simp only [r143_2,SS,reduceCtorEq,reduceIte,qQ,xB]
 refine zaa (qgq _ _) ?_
 simp only [SS,reduceIte,qQ,xB]
 exact kR
theorem quh (x y:Nat) (c d:Option Nat) (hxy:x<y):Rt 143 [.vec [.int .u32 x] 1 c,.vec [.int .u32 y] 1 d] [] (.tup [.vec [] 0 (some 0),.vec [.int .u32 x] 1 none]) []:=by
 have q1:decide ((x:Int)<(y:Int))=true:=by simp;omega
 refine oF o143 ?_
 simp only [c143,SS,reduceCtorEq]
 simp only [r143_0,SS]
 simp only [r143_1,SS,reduceCtorEq,reduceIte,qQ]
 refine zaa (qnk x y c d q1) ?_
 simp only [SS,fC,reduceIte,qQ,decide_true,qI,xB]
 simp only [r143_2,SS,reduceCtorEq,reduceIte,qQ,xB]
 refine zaa (qgr x c) ?_
 simp only [SS,reduceIte,qQ,xB]
 exact kR
theorem zyu (x y:Nat) (c d:Option Nat) (hxy:y<=x):∃r:Int,0<=r/\Rt 107 [.vec [.int .u32 x] 1 c,.vec [.int .u32 y] 1 d] [] (.int .i64 r) []:=by
 have q1:decide ((x:Int)<(y:Int))=false:=by simp;omega
 rcases qT y x with h | h
 ·exact ⟨1,by decide,qnl x y c d q1 (by simp;omega)⟩
 ·exact ⟨0,by decide,qnm x y c d q1 (by simp;omega)⟩
theorem qno (x y:Nat) (c d:Option Nat) (hy:y≠0) (hxy:y<=x) (hx':x<4294967296) (hr:x%y=0):Rt 143 [.vec [.int .u32 x] 1 c,.vec [.int .u32 y] 1 d] [] (.tup [.vec [.int .u32 (x/y:Nat)] 1 (some 2),.vec [] 0 (some 2)]) []:=by
 obtain ⟨r,hr0,hcmp⟩:=zyu x y c d hxy
 have q1:decide (r<0)=false:=by simp;omega
 have q2:((y:Int)≠0)=True:=eq_true (by omega)
 have w1:IntKind.u64.wrap (Int.tdiv (x:Int) (y:Int))=((x/y:Nat):Int):=by
  rw [show Int.tdiv (x:Int) (y:Int)=((x/y:Nat):Int) from rfl];exact zhy (by have:=qC x y;omega)
 have w2:Int.tmod (x:Int) (y:Int)=0:=by
  rw [show Int.tmod (x:Int) (y:Int)=((x%y:Nat):Int) from rfl,hr];rfl
 have hq:x/y≠0:=by have:=Nat.div_pos hxy (xE hy);omega
 have hq':x/y<4294967296:=by have:=qC x y;omega
 refine oF o143 ?_
 simp only [c143,SS,reduceCtorEq]
 simp only [r143_0,SS]
 simp only [r143_1,SS,reduceCtorEq,reduceIte,qQ]
 refine zaa hcmp ?_
 simp only [SS,fC,reduceIte,qQ,q1]
 simp only [r143_3,SS,fC,reduceCtorEq,reduceIte,qQ,decide_true,xM,n1]
 simp only [r143_4,SS,reduceCtorEq,reduceIte,qQ]
 refine zaa (zni x c hx') ?_
 simp only [SS,reduceIte,qQ]
 refine zaa (zni y d (by omega)) ?_
 simp only [SS,reduceIte,qQ]
 simp only [r143_5,SS,reduceIte,qQ,w1,q2]
 refine zaa (zex _ hq hq') ?_
 simp only [SS,reduceIte,qQ,w2,q2]
 refine zaa zjo ?_
 simp only [SS,reduceIte,qQ]
 refine ⟨rfl,?_⟩
 exact kR
theorem qnp (x y:Nat) (c d:Option Nat) (hy:y≠0) (hxy:y<=x) (hx':x<4294967296) (hr:x%y≠0):Rt 143 [.vec [.int .u32 x] 1 c,.vec [.int .u32 y] 1 d] [] (.tup [.vec [.int .u32 (x/y:Nat)] 1 (some 2),.vec [.int .u32 (x%y:Nat)] 1 (some 2)]) []:=by
 obtain ⟨r,hr0,hcmp⟩:=zyu x y c d hxy
 have q1:decide (r<0)=false:=by simp;omega
 have q2:((y:Int)≠0)=True:=eq_true (by omega)
 have w1:IntKind.u64.wrap (Int.tdiv (x:Int) (y:Int))=((x/y:Nat):Int):=by
  rw [show Int.tdiv (x:Int) (y:Int)=((x/y:Nat):Int) from rfl];exact zhy (by have:=qC x y;omega)
 have w2:Int.tmod (x:Int) (y:Int)=((x%y:Nat):Int):=rfl
 have hq:x/y≠0:=by have:=Nat.div_pos hxy (xE hy);omega
 have hq':x/y<4294967296:=by have:=qC x y;omega
 have hr':x%y<4294967296:=by have:=Nat.mod_le x y;omega
 refine oF o143 ?_
 simp only [c143,SS,reduceCtorEq]
 simp only [r143_0,SS]
 simp only [r143_1,SS,reduceCtorEq,reduceIte,qQ]
 refine zaa hcmp ?_
 simp only [SS,fC,reduceIte,qQ,q1]
 simp only [r143_3,SS,fC,reduceCtorEq,reduceIte,qQ,decide_true,xM,n1]
 simp only [r143_4,SS,reduceCtorEq,reduceIte,qQ]
 refine zaa (zni x c hx') ?_
 simp only [SS,reduceIte,qQ]
 refine zaa (zni y d (by omega)) ?_
 simp only [SS,reduceIte,qQ]
 simp only [r143_5,SS,reduceIte,qQ,w1,q2]
 refine zaa (zex _ hq hq') ?_
 simp only [SS,reduceIte,qQ,w2,q2]
 refine zaa (zex _ hr hr') ?_
 simp only [SS,reduceIte,qQ]
 refine ⟨rfl,?_⟩
 exact kR
theorem qnq (t:Bool) (y:Nat) (c d:Option Nat) (hy:y≠0) (hy':y<4294967296):Rt 79 [.agg [.bool false,.vec [] 0 c],.agg [.bool t,.vec [.int .u32 y] 1 d]] [] (.tup [.agg [.bool false,.vec [] 0 (some 0)],.agg [.bool false,.vec [] 0 (some 0)],.bool true]) []:=by
 refine oF o79 ?_
 simp only [c79,SS,reduceCtorEq,reduceIte,qQ]
 simp only [r79_0,SS,reduceIte,qZ,qQ]
 simp only [r79_1,SS,fC,reduceIte,qZ,qQ,qX,qZ]
 refine zaa (zil y d hy) ?_
 simp only [SS,reduceIte,qQ]
 simp only [r79_2,SS,fC,reduceIte,qQ,decide_false,xJ,n1]
 simp only [r79_4,SS,fC,reduceIte,qZ,qQ,qX,qZ]
 refine zaa (qcb c) ?_
 simp only [SS,reduceIte,qQ]
 refine zaa (qug y c d) ?_
 simp only [SS,reduceIte,qQ,qJ,qK]
 simp only [r79_5,SS,fC,reduceIte,qZ,qQ,qX,qZ]
 simp only [r79_6,SS,fC,reduceIte,qZ,qQ,qX,decide_false,qI,qZ,xS]
 simp only [r79_7,SS,fC,reduceIte,qZ,qQ,qX,qZ]
 simp only [r79_11,SS,reduceIte,qQ]
 refine zaa (zll _ _ _) ?_
 simp only [SS,reduceIte,qQ]
 refine zaa (zll _ _ _) ?_
 simp only [SS,reduceIte,qZ,qQ,qX,qZ]
 exact dR
theorem qnr (t:Bool) (x:Nat) (y:Nat) (c d:Option Nat) (hx:x≠0) (hy:y≠0) (hxy:x<y):Rt 79 [.agg [.bool false,.vec [.int .u32 x] 1 c],.agg [.bool t,.vec [.int .u32 y] 1 d]] [] (.tup [.agg [.bool false,.vec [] 0 (some 0)],.agg [.bool false,.vec [.int .u32 x] 1 none],.bool true]) []:=by
 refine oF o79 ?_
 simp only [c79,SS,reduceCtorEq,reduceIte,qQ]
 simp only [r79_0,SS,reduceIte,qZ,qQ]
 simp only [r79_1,SS,fC,reduceIte,qZ,qQ,qX,qZ]
 refine zaa (zil y d hy) ?_
 simp only [SS,reduceIte,qQ]
 simp only [r79_2,SS,fC,reduceIte,qQ,decide_false,xJ,n1]
 simp only [r79_4,SS,fC,reduceIte,qZ,qQ,qX,qZ]
 refine zaa (zil x c hx) ?_
 simp only [SS,reduceIte,qQ]
 refine zaa (quh x y c d hxy) ?_
 simp only [SS,reduceIte,qQ,qJ,qK]
 simp only [r79_5,SS,fC,reduceIte,qZ,qQ,qX,qZ]
 simp only [r79_6,SS,fC,reduceIte,qZ,qQ,qX,decide_true,qZ,n1,lt01]
 simp only [r79_7,SS,fC,reduceIte,qZ,qQ,qX,qZ]
 simp only [r79_11,SS,reduceIte,qQ]
 refine zaa (zll _ _ _) ?_
 simp only [SS,reduceIte,qQ]
 refine zaa (zjn _ _ _) ?_
 simp only [SS,reduceIte,qZ,qQ,qX,qZ]
 exact dR
theorem zts (t:Bool) (x:Nat) (y:Nat) (c d:Option Nat) (hx:x≠0) (hx':x<4294967296) (hy:y≠0) (hxy:y<=x) (hr:x%y=0):Rt 79 [.agg [.bool false,.vec [.int .u32 x] 1 c],.agg [.bool t,.vec [.int .u32 y] 1 d]] [] (.tup [.agg [.bool t,.vec [.int .u32 (x/y:Nat)] 1 (some 2)],.agg [.bool false,.vec [] 0 (some 0)],.bool true]) []:=by
 refine oF o79 ?_
 simp only [c79,SS,reduceCtorEq,reduceIte,qQ]
 simp only [r79_0,SS,reduceIte,qZ,qQ]
 simp only [r79_1,SS,fC,reduceIte,qZ,qQ,qX,qZ]
 refine zaa (zil y d hy) ?_
 simp only [SS,reduceIte,qQ]
 simp only [r79_2,SS,fC,reduceIte,qQ,decide_false,xJ,n1]
 simp only [r79_4,SS,fC,reduceIte,qZ,qQ,qX,qZ]
 refine zaa (zil x c hx) ?_
 simp only [SS,reduceIte,qQ]
 refine zaa (qno x y c d hy hxy hx' hr) ?_
 simp only [SS,reduceIte,qQ,qJ,qK]
 simp only [r79_5,SS,fC,reduceIte,qZ,qQ,qX,qZ]
 simp only [r79_6,SS,fC,reduceIte,qZ,qQ,qX,decide_false,qI,qZ,xS]
 simp only [r79_7,SS,fC,reduceIte,qZ,qQ,qX,qZ]
 simp only [r79_11,SS,reduceIte,qQ]
 refine zaa (zjn _ _ _) ?_
 simp only [SS,reduceIte,qQ]
 refine zaa (zll _ _ _) ?_
 simp only [SS,reduceIte,qZ,qQ,qX,qZ]
 exact dR
theorem qgs (t:Bool) (x:Nat) (y:Nat) (c d:Option Nat) (hx:x≠0) (hx':x<4294967296) (hy:y≠0) (hxy:y<=x) (hr:x%y≠0):Rt 79 [.agg [.bool false,.vec [.int .u32 x] 1 c],.agg [.bool t,.vec [.int .u32 y] 1 d]] [] (.tup [.agg [.bool t,.vec [.int .u32 (x/y:Nat)] 1 (some 2)],.agg [.bool false,.vec [.int .u32 (x%y:Nat)] 1 (some 2)],.bool true]) []:=by
 refine oF o79 ?_
 simp only [c79,SS,reduceCtorEq,reduceIte,qQ]
 simp only [r79_0,SS,reduceIte,qZ,qQ]
 simp only [r79_1,SS,fC,reduceIte,qZ,qQ,qX,qZ]
 refine zaa (zil y d hy) ?_
 simp only [SS,reduceIte,qQ]
 simp only [r79_2,SS,fC,reduceIte,qQ,decide_false,xJ,n1]
 simp only [r79_4,SS,fC,reduceIte,qZ,qQ,qX,qZ]
 refine zaa (zil x c hx) ?_
 simp only [SS,reduceIte,qQ]
 refine zaa (qnp x y c d hy hxy hx' hr) ?_
 simp only [SS,reduceIte,qQ,qJ,qK]
 simp only [r79_5,SS,fC,reduceIte,qZ,qQ,qX,qZ]
 simp only [r79_6,SS,fC,reduceIte,qZ,qQ,qX,decide_true,qZ,n1,lt01]
 simp only [r79_7,SS,fC,reduceIte,qZ,qQ,qX,qZ]
 simp only [r79_11,SS,reduceIte,qQ]
 refine zaa (zjn _ _ _) ?_
 simp only [SS,reduceIte,qQ]
 refine zaa (zjn _ _ _) ?_
 simp only [SS,reduceIte,qZ,qQ,qX,qZ]
 exact dR
abbrev pz (x:Nat) (c:Option Nat):AV:= .agg [.bool false,.vec [.int .u32 (x:Int)] 1 c]
abbrev fr (x:Nat) (c:Option Nat) (y:Nat) (d:Option Nat):AV:= .agg [.bool false,.vec [.int .u32 (x:Int)] 1 c,.bool false,.vec [.int .u32 (y:Int)] 1 d]
abbrev s2:Option Nat:=some 2
theorem jba {x y:Nat} (hx:x≠0):Nat.gcd x y≠0:=fun e=>hx (Nat.eq_zero_of_gcd_eq_zero_left e)
theorem qcd {x g:Nat} (hx:x≠0) (hg:g∣x):x/g≠0:=by
 obtain ⟨k,rfl⟩:=hg
 have h1:g≠0:=fun e=>hx (by rw [e,yO])
 rw [Nat.mul_div_cancel_left _ (xE h1)]
 exact fun e=>hx (by rw [e,xN])
theorem zrg {x g:Nat} {c d:Option Nat} (hx:x≠0) (hx':x<4294967296) (hg:g∣x) (hg0:g≠0):Rt 79 [pz x c,pz g d] [] (.tup [pz (x/g) s2,.agg [.bool false,.vec [] 0 (some 0)],.bool true]) []:=
 zts false x g c d hx hx' hg0 (Nat.le_of_dvd (xE hx) hg) (Nat.mod_eq_zero_of_dvd hg)
theorem zrh {x y:Nat} {c d:Option Nat} (hx:x≠0) (hx':x<4294967296) (hy:y≠0) (hy':y<4294967296):
  Rt 83 [pz x c,pz y d] [] (fr (x/Nat.gcd x y) s2 (y/Nat.gcd x y) s2) []:=by
 have hg:=jba (y:=y) hx
 have t1:=jaz (c:=c) (d:=d) hx hx' hy hy'
 have t2:=zrg (c:=c) (d:=s2) hx hx' (yA x y) hg
 have t3:=zrg (c:=d) (d:=s2) hy hy' (yK x y) hg
 refine oF o83 ?_
 simp only [c83,r83_0,SS,reduceCtorEq,reduceIte,qZ,qQ]
 simp only [r83_1,SS,reduceIte,qZ,qQ,qX]
 refine zaa t1 ?_
 simp only [SS,reduceIte,qZ,qQ,qX]
 simp only [r83_2,SS,reduceIte,qZ,qQ,qX]
 refine zaa (znj y d hy hy') ?_
 simp only [SS,fC,reduceIte,qQ,decide_false,qI]
 simp only [r83_4,SS,reduceIte,qZ,qQ,qX]
 refine zaa t2 ?_
 simp only [SS,reduceIte,qZ,qQ,qX,qJ,qK]
 simp only [r83_5,SS,reduceIte,qZ,qQ,qX]
 refine zaa t3 ?_
 simp only [SS,reduceIte,qZ,qQ,qX,qJ,qK]
 simp only [r83_6,SS,reduceIte,qZ,qQ,qX]
 exact ⟨.inl trivial,_,rfl,.drop _ _ rfl (by intro i cs h;omega)⟩
theorem zwn {x y:Nat} {c d:Option Nat} (hx:x≠0) (hx':x<4294967296) (hy:y≠0) (hy':y<4294967296):
  Rt 106 [fr x c y d] [] (fr (x/Nat.gcd x y) s2 (y/Nat.gcd x y) s2) []:=by
 have t1:=zrh (c:=c) (d:=d) hx hx' hy hy'
 refine oF o106 ?_
 simp only [c106,r106_0,SS,reduceCtorEq]
 simp only [r106_1,SS,reduceIte,qZ,qQ,qX]
 refine zaa (znj y d hy hy') ?_
 simp only [SS,fC,reduceIte,qQ,decide_false,xJ]
 simp only [r106_3,SS,reduceIte,qZ,qQ,qX]
 refine zaa t1 ?_
 simp only [SS,reduceIte,qZ,qQ,qX]
 exact ⟨.inl trivial,_,rfl,.drop _ _ rfl (by intro i cs h;omega)⟩
theorem zed {x y:Nat} {c d:Option Nat} (hx:x≠0) (hx':x<4294967296) (hy:y≠0) (hy':y<4294967296):
  Rt 50 [fr x c y d] [] (fr (x/Nat.gcd x y) s2 (y/Nat.gcd x y) s2) []:=by
 have t1:=zwn (c:=c) (d:=d) hx hx' hy hy'
 refine oF o50 ?_
 simp only [c50,r50_0,SS,reduceCtorEq]
 simp only [r50_1,SS,reduceIte,qZ,qQ,qX]
 refine zaa t1 ?_
 simp only [SS,reduceIte,qZ,qQ,qX]
 exact ⟨.inl trivial,_,rfl,.drop _ _ rfl (by intro i cs h;omega)⟩
theorem qgt {x y:Nat} {c d:Option Nat} (hx:x≠0) (hx':x<4294967296):Rt 49 [fr x c y d] [] (.int .i64 1) []:=by
 refine oF o49 ?_
 simp only [c49,r49_0,SS,reduceCtorEq]
 simp only [r49_1,SS,reduceIte,qZ,qQ,qX]
 refine zaa (znj x c hx hx') ?_
 simp only [SS,reduceIte,qQ]
 exact ⟨.inl trivial,_,rfl,.freeze 1 _ _ _ rfl (by intro i cs h;omega)⟩
theorem znk:Rt 35 [.int .i64 1] [] (pz 1 s2) []:=zyt 1 (by decide) (by decide)
theorem qyp {x:Nat} {c:Option Nat} (hx:x≠0) (hx':x<4294967296):Rt 84 [pz x c] [] (fr x none 1 s2) []:=by
 refine oF o84 ?_
 simp only [c84,r84_0,SS,reduceCtorEq]
 simp only [r84_1,SS,reduceIte,qZ,qQ,qX]
 refine zaa (zpg false x c hx hx') ?_
 simp only [SS]
 refine zaa znk ?_
 simp only [SS,reduceIte,qZ,qQ,qX,n1]
 exact ⟨.inl trivial,_,rfl,.drop _ _ rfl (by intro i cs h;omega)⟩
theorem qrf {x:Nat} (hx:x≠0) (hx':x<4294967296):Rt 37 [.int .i64 (x:Int)] [] (fr x none 1 s2) []:=by
 refine oF o37 ?_
 simp only [c37,r37_0,SS,reduceCtorEq]
 simp only [r37_1,SS,reduceCtorEq,reduceIte,qQ]
 refine zaa (zyt x hx hx') ?_
 simp only [SS,reduceIte,qQ]
 refine zaa (qyp (c:=s2) hx hx') ?_
 simp only [SS,reduceIte,qZ,qQ,qX,n1]
 exact ⟨.inl trivial,_,rfl,.drop _ _ rfl (by intro i cs h;omega)⟩
theorem mulP {x y:Nat} {c d:Option Nat} (hx:x≠0) (hx':x<4294967296) (hy:y≠0) (hy':y<4294967296) (hxy:x*y<4294967296):Rt 52 [pz x c,pz y d] [] (pz (x*y) s2) []:=
 qyn false false x y c d hx hx' hy hy' hxy
abbrev fr2 (x:Nat) (c:Option Nat) (y:Nat) (d:Option Nat) (u:Nat) (e:Option Nat) (v:Nat) (f:Option Nat):List AV:=
 [.bool false,.vec [.int .u32 (x:Int)] 1 c,.bool false,.vec [.int .u32 (y:Int)] 1 d,.bool false,.vec [.int .u32 (u:Int)] 1 e,.bool false,.vec [.int .u32 (v:Int)] 1 f]
set_option maxHeartbeats 1000000 in
theorem qgu {x y u v:Nat} {c d e f k:Option Nat} (hx:x≠0) (hx':x<4294967296) (hy:y≠0) (hy':y<4294967296) (hu:u≠0) (hu':u<4294967296) (hv:v≠0) (hv':v<4294967296)
  {x1 y1 u1 v1:Nat} (ex:x/Nat.gcd x y=x1) (ey:y/Nat.gcd x y=y1) (eu:u/Nat.gcd u v=u1) (ev:v/Nat.gcd u v=v1) (b1:x1*u1<4294967296) (b2:y1*v1<4294967296):
  Rt 148 [.vec (fr2 x c y d u e v f) 2 k] [] (fr (x1*u1/Nat.gcd (x1*u1) (y1*v1)) s2 (y1*v1/Nat.gcd (x1*u1) (y1*v1)) s2) []:=by
 have px:x1≠0:=ex ▸ qcd hx (yA x y)
 have py:y1≠0:=ey ▸ qcd hy (yK x y)
 have pu:u1≠0:=eu ▸ qcd hu (yA u v)
 have pv:v1≠0:=ev ▸ qcd hv (yK u v)
 have lx:x1<4294967296:=ex ▸ qM (qC _ _) hx'
 have ly:y1<4294967296:=ey ▸ qM (qC _ _) hy'
 have lu:u1<4294967296:=eu ▸ qM (qC _ _) hu'
 have lv:v1<4294967296:=ev ▸ qM (qC _ _) hv'
 have t1:=zed (c:=c) (d:=d) hx hx' hy hy'
 have t2:=zed (c:=e) (d:=f) hu hu' hv hv'
 rw [ex,ey] at t1
 rw [eu,ev] at t2
 have m1:Rt 52 [pz 1 s2,pz x1 s2] [] (pz x1 s2) []:=by have:=mulP (c:=s2) (d:=s2) (x:=1) (y:=x1) (by decide) (by decide) px lx (by omega);rwa [xH] at this
 have m2:Rt 52 [pz 1 s2,pz y1 s2] [] (pz y1 s2) []:=by have:=mulP (c:=s2) (d:=s2) (x:=1) (y:=y1) (by decide) (by decide) py ly (by omega);rwa [xH] at this
 have m3:=mulP (c:=s2) (d:=s2) px lx pu lu b1
 have m4:=mulP (c:=s2) (d:=s2) py ly pv lv b2
 have t3:=zrh (c:=s2) (d:=s2) (zQ px pu) b1 (zQ py pv) b2
 refine oF o148 ?_
 simp only [c148,r148_0,SS,reduceCtorEq]
 simp only [r148_1,SS]
 refine zaa znk ?_
 simp only [SS]
 refine zaa znk ?_
 simp only [SS,reduceIte,qZ,qQ,qX,n1]
 simp only [r148_2,SS,reduceCtorEq,reduceIte,qQ,n2]
 refine W_un zhb 3 (zfc ?_)
 simp only [l148_0,r148_3,r148_4,SS,fC,reduceCtorEq,reduceIte,qZ,qQ,qX,decide_true,qI,xC,n2,tn0,le0]
 simp only [r148_5,SS,reduceIte,qZ,qQ,qX]
 refine zaa t1 ?_
 simp only [SS,reduceIte,qZ,qQ,qX]
 simp only [r148_6,SS,reduceIte,qZ,qQ,qX]
 refine zaa m1 ?_
 simp only [SS,reduceIte,qZ,qQ,qX]
 refine zaa m2 ?_
 simp only [SS,reduceIte,qZ,qQ,qX]
 simp only [r148_7,SS,reduceIte,qQ,yU,wi1]
 refine ⟨rfl,zfc ?_⟩
 simp only [SS,fC,reduceCtorEq,reduceIte,qZ,qQ,qX,decide_true,xM,xC,n2,tn1,lt12]
 refine zaa t2 ?_
 simp only [SS,reduceIte,qZ,qQ,qX]
 refine zaa m3 ?_
 simp only [SS,reduceIte,qZ,qQ,qX]
 refine zaa m4 ?_
 simp only [SS,reduceIte,qZ,qQ,qX,yU,wi2]
 refine ⟨rfl,zfc ?_⟩
 simp only [SS,fC,reduceCtorEq,reduceIte,qZ,qQ,qX,decide_false,qI,xM,n2]
 simp only [r148_8,SS,reduceIte,qZ,qQ,qX]
 refine zaa t3 ?_
 simp only [SS,reduceIte,qZ,qQ,qX]
 exact ⟨.inl trivial,_,rfl,.drop _ _ rfl (by intro i cs h;omega)⟩
theorem jbb {x y u v:Nat} {c d e f:Option Nat} (hx:x≠0) (hx':x<4294967296) (hy:y≠0) (hy':y<4294967296) (hu:u≠0) (hu':u<4294967296) (hv:v≠0) (hv':v<4294967296)
  (c1:Nat.gcd x y=1) (c2:Nat.gcd u v=1) (b1:x*v<4294967296) (b2:y*u<4294967296):
  Rt 85 [fr x c y d,fr u e v f] [] (.tup [fr (x*v/Nat.gcd (x*v) (y*u)) s2 (y*u/Nat.gcd (x*v) (y*u)) s2,.bool true]) []:=by
 have t1:=zed (c:=e) (d:=f) hu hu' hv hv'
 rw [c2,qE,qE] at t1
 have t2:=qgt (c:=s2) (d:=s2) (y:=v) hu hu'
 have t3:=qgu (c:=c) (d:=d) (e:=s2) (f:=s2) (k:=some 2) hx hx' hy hy' hv hv' hu hu' (x1:=x) (y1:=y) (u1:=v) (v1:=u) (by rw [c1,qE]) (by rw [c1,qE]) (by rw [xL,c2,qE]) (by rw [xL,c2,qE]) b1 b2
 refine oF o85 ?_
 simp only [c85,r85_0,SS,reduceCtorEq,reduceIte,qZ,qQ]
 simp only [r85_1,SS,reduceIte,qZ,qQ,qX]
 refine zaa t1 ?_
 simp only [SS,reduceIte,qZ,qQ,qX]
 simp only [r85_2,SS,reduceIte,qZ,qQ,qX]
 refine zaa t2 ?_
 simp only [SS,fC,reduceIte,qQ,decide_false,xJ]
 simp only [r85_4,SS,reduceIte,qZ,qQ,qX,xC]
 refine zha (id:=4) (cs:=fr2 x c y d v s2 u s2) (d:=2) (args0:=[.sl 0 0 2 4 (some 2)]) t3 rfl rfl rfl ?_ rfl rfl rfl
 simp only [zaj,zad,qU,qD,SS,reduceIte,qZ,qQ,qX]
 exact ⟨.inl trivial,_,rfl,.drop _ _ rfl (by intro i cs h;omega)⟩
theorem qce {x y u v:Nat} {c d e f:Option Nat} (hx:x≠0) (hx':x<4294967296) (hy:y≠0) (hy':y<4294967296) (hu:u≠0) (hu':u<4294967296) (hv:v≠0) (hv':v<4294967296)
  (c1:Nat.gcd x y=1) (c2:Nat.gcd u v=1) (b1:x*v<4294967296) (b2:y*u<4294967296):
  Rt 38 [fr x c y d,fr u e v f] [] (fr (x*v/Nat.gcd (x*v) (y*u)) s2 (y*u/Nat.gcd (x*v) (y*u)) s2) []:=by
 have t1:=jbb (c:=c) (d:=d) (e:=e) (f:=f) hx hx' hy hy' hu hu' hv hv' c1 c2 b1 b2
 refine oF o38 ?_
 simp only [c38,r38_0,SS,reduceCtorEq,reduceIte,qZ,qQ]
 simp only [r38_1,SS,reduceIte,qZ,qQ,qX]
 refine zaa t1 ?_
 simp only [SS,reduceIte,qZ,qQ,qX,qJ,qK]
 simp only [r38_2,SS,reduceIte,qZ,qQ,qX]
 exact ⟨.inl trivial,_,rfl,.drop _ _ rfl (by intro i cs h;omega)⟩
theorem qui {a:List AV} {H:Heap}:getB (some a::H) 0=some a:=rfl
theorem quj {a:Option (List AV)} {H:Heap} {i:Nat}:getB (a::H) (i+1)=getB H i:=rfl
theorem ziz {P:Program} {Γ:Glob} {n0:Nat} {E:Env} {H:Heap} {d:Option Nat} {g:Nat} {want:Bool} {k:CK} {os:List COp} {Q:List FP->Env->Heap->Prop} (h:E g= .bool want):regA P Γ n0 (⟨d,some (g,want),k⟩::os) E H Q=regA P Γ n0 (⟨d,none,k⟩::os) E H Q:=by
 rw [znd,h]
 simp only [ztg,zau,zhx h,true_implies]
 apply propext
 refine ⟨fun x=>x.1,fun x=>⟨x,fun e=>?_⟩⟩
 cases want<;>simp at e
theorem qcf {P:Program} {Γ:Glob} {n0:Nat} {E:Env} {H:Heap} {d:Option Nat} {g:Nat} {want:Bool} {k:CK} {os:List COp} {Q:List FP->Env->Heap->Prop} (h:E g= .bool (!want)):regA P Γ n0 (⟨d,some (g,want),k⟩::os) E H Q=regA P Γ n0 os (updO E d .junk) H (fun l=>Q (([],[])::l)):=by
 rw [znd,h]
 simp only [ztg,zau,zhx h,true_implies]
 apply propext
 refine ⟨fun x=>x.2,fun x=>⟨fun e=>?_,x⟩⟩
 cases want<;>simp at e
end Go.Proofs.YtpflahgcdgdkjaaGreatDoor
namespace Go.Limb
open Nat renaming le_refl -> qG, pow_le_pow_right -> qH, pow_succ -> qN, mul_assoc -> qP, lt_or_ge -> qT, mod_eq_of_lt -> xQ, mul_add -> xX, mod_lt -> xV, add_zero -> xA, mul_one -> xG, mul_zero -> xN, mul_le_mul_left -> yQ, add_sub_cancel -> yZ, lt_of_lt_of_le -> yJ, pow_pos -> yW, mul_comm -> yB, min_eq_left -> zX
open List renaming take_of_length_le -> qW, getD_eq_getElem?_getD -> qV, take_length -> xY, length_take -> xU, getElem?_eq_getElem -> xD, length_cons -> xT, getElem?_eq_none -> yD, take_zero -> yG, getElem?_set_ne -> yH, set_cons_succ -> yM, take_add_one -> yP
def val:List Nat->Nat
 | []=>0
 | d::r=>d+4294967296*val r
def Dig (l:List Nat):Prop:= ∀d∈l,d<4294967296
def Top:List Nat->Prop
 | []=>True
 | [d]=>d≠0
 | _::d::r=>Top (d::r)
def zcc (l:List Nat):Prop:=Dig l/\Top l
theorem Dig.nil:Dig []:=by intro d h;simp at h
theorem Dig.cons {d:Nat} {r:List Nat} (h:d<4294967296) (hr:Dig r):Dig (d::r):=by
 intro x hx
 rcases List.mem_cons.1 hx with e | e
 ·rw [e];exact h
 ·exact hr x e
theorem Dig.head {d:Nat} {r:List Nat} (h:Dig (d::r)):d<4294967296:=h d (by simp)
theorem Dig.tail {d:Nat} {r:List Nat} (h:Dig (d::r)):Dig r:=fun x hx=>h x (by simp [hx])
theorem Dig.append {l r:List Nat} (h:Dig l) (hr:Dig r):Dig (l++r):=by
 intro x hx
 rcases List.mem_append.1 hx with e | e
 ·exact h x e
 ·exact hr x e
theorem Dig.take {l:List Nat} (h:Dig l) (n:Nat):Dig (l.take n):=fun x hx=>h x (List.mem_of_mem_take hx)
theorem Dig.getD {l:List Nat} (h:Dig l) (i:Nat):l.getD i 0<4294967296:=by
 rw [qV]
 cases e:l[i]? with
 | none=>simp
 | some x=>exact h x (List.mem_of_getElem? e)
theorem zcc.nil:zcc []:=⟨Dig.nil,trivial⟩
theorem Top.tail {d:Nat} {r:List Nat} (h:Top (d::r)):Top r:=by
 cases r with
 | nil=>trivial
 | cons x r=>exact h
theorem zcc.tail {d:Nat} {r:List Nat} (h:zcc (d::r)):zcc r:=⟨h.1.tail,h.2.tail⟩
theorem zee (l r:List Nat):val (l++r)=val l+4294967296^l.length*val r:=by
 induction l with
 | nil=>simp [val]
 | cons d l ih=>
  simp only [List.cons_append,val,ih,xT,qN,xX]
  have:4294967296*(4294967296^l.length*val r)=4294967296^l.length*4294967296*val r:=by
   rw [<-qP,yB 4294967296]
  omega
theorem zjp {l:List Nat} (h:Dig l):val l<4294967296^l.length:=by
 induction l with
 | nil=>simp [val]
 | cons d l ih=>
  have h1:=ih h.tail
  have h2:=h.head
  simp only [val,xT,qN]
  have:val l+1<=4294967296^l.length:=h1
  have:(val l+1)*4294967296<=4294967296^l.length*4294967296:=Nat.mul_le_mul_right _ this
  omega
theorem zkx {l:List Nat} (ht:Top l) (hl:l≠[]):4294967296^(l.length-1)<=val l:=by
 induction l with
 | nil=>exact absurd rfl hl
 | cons d l ih=>
  cases l with
  | nil=>
   have:d≠0:=ht
   simp [val];omega
  | cons x r=>
   have:=ih ht.tail (by simp)
   simp only [xT,yZ] at this ⊢
   rw [val,qN]
   omega
theorem zhc:∀{l r:List Nat},zcc l->zcc r->val l=val r->l=r:=by
 intro l
 induction l with
 | nil=>
  intro r _ hr h
  cases r with
  | nil=>rfl
  | cons x r=>
   have h1:=zkx hr.2 (by simp)
   have h2:0<4294967296^((x::r).length-1):=yW (by decide)
   rw [<-h] at h1
   simp only [val] at h1
   omega
 | cons d l ih=>
  intro r hl hr h
  cases r with
  | nil=>
   have h1:=zkx hl.2 (by simp)
   have h2:0<4294967296^((d::l).length-1):=yW (by decide)
   rw [h] at h1
   simp only [val] at h1
   omega
  | cons x r=>
   simp only [val] at h
   have h1:=hl.1.head
   have h2:=hr.1.head
   have:d=x/\val l=val r:=by omega
   rw [this.1,ih hl.tail hr.tail this.2]
theorem zyv {l:List Nat} (h:zcc l):val l=0↔l=[]:=by
 constructor
 ·intro e;exact zhc h zcc.nil e
 ·intro e;rw [e];rfl
def zgf (l:List Nat):Nat->Nat
 | 0=>0
 | n+1=>if l.getD n 0=0 then zgf l n else n+1
theorem zhz (l:List Nat) (n:Nat):zgf l n<=n:=by
 induction n with
 | zero=>simp [zgf]
 | succ n ih=>simp only [zgf];split<;>omega
def zbc (l:List Nat):List Nat:=l.take (zgf l l.length)
theorem qcg {l:List Nat} {d:Nat} (h:d≠0):Top (l++[d]):=by
 induction l with
 | nil=>exact h
 | cons x l ih=>
  cases l with
  | nil=>exact h
  | cons y l=>exact ih
theorem zph (l:List Nat):∀n,n<=l.length->Top (l.take (zgf l n))/\val (l.take (zgf l n))=val (l.take n):=by
 intro n
 induction n with
 | zero=>intro _;simp [zgf,Top]
 | succ n ih=>
  intro hn
  have e:l.take (n+1)=l.take n++[l.getD n 0]:=by
   rw [yP,qV,xD (by omega)];rfl
  simp only [zgf]
  split
  ·rename_i h0
   obtain ⟨h1,h2⟩:=ih (by omega)
   refine ⟨h1,?_⟩
   rw [h2,e,zee,h0]
   simp [val]
  ·rename_i h0
   refine ⟨?_,rfl⟩
   rw [e];exact qcg h0
theorem zbi {l:List Nat} (h:Dig l):zcc (zbc l):=⟨h.take _,(zph l l.length (qG _)).1⟩
theorem zci (l:List Nat):val (zbc l)=val l:=by
 have:=(zph l l.length (qG _)).2
 rw [xY] at this
 exact this
theorem zhd (l:List Nat):(zbc l).length=zgf l l.length:=by
 unfold zbc
 rw [xU]
 have:=zhz l l.length
 omega
def cmpN (m n:List Nat):Nat->Int
 | 0=>0
 | i+1=>if m.getD i 0=n.getD i 0 then cmpN m n i else if m.getD i 0<n.getD i 0 then -1 else 1
def cmpL (m n:List Nat):Int:=if m.length=n.length then cmpN m n m.length else if m.length<n.length then -1 else 1
def sgn (a b:Nat):Int:=if a<b then -1 else if a=b then 0 else 1
theorem zky {l:List Nat} {n:Nat} (h:n<l.length):l.take (n+1)=l.take n++[l.getD n 0]:=by
 rw [yP,qV,xD h];rfl
theorem qgv {m n:List Nat} (hm:Dig m) (hn:Dig n):∀i,i<=m.length->i<=n.length->cmpN m n i=sgn (val (m.take i)) (val (n.take i)):=by
 intro i
 induction i with
 | zero=>intro _ _;simp [cmpN,sgn,val]
 | succ i ih=>
  intro h1 h2
  have e1:=zky (l:=m) (n:=i) (by omega)
  have e2:=zky (l:=n) (n:=i) (by omega)
  have l1:=zjp (hm.take i)
  have l2:=zjp (hn.take i)
  have n1:(m.take i).length=i:=by rw [xU];omega
  have n2:(n.take i).length=i:=by rw [xU];omega
  rw [n1] at l1
  rw [n2] at l2
  rw [cmpN,ih (by omega) (by omega),e1,e2,zee,zee,n1,n2]
  simp only [val,xN,xA]
  generalize val (m.take i)=a at*
  generalize val (n.take i)=b at*
  generalize m.getD i 0=x at*
  generalize n.getD i 0=y at*
  generalize 4294967296^i=p at*
  unfold sgn
  split
  ·rename_i h;subst h
   have:(a+p*x<b+p*x)↔a<b:=by omega
   have h3:(a+p*x=b+p*x)↔a=b:=by omega
   simp only [this,h3]
  ·rename_i h
   split
   ·rename_i h3
    have:p*(x+1)<=p*y:=yQ _ h3
    rw [xX] at this
    rw [if_pos (by omega)]
   ·rename_i h3
    have:p*(y+1)<=p*x:=yQ _ (by omega)
    rw [xX] at this
    rw [if_neg (by omega),if_neg (by omega)]
theorem zfr {m n:List Nat} (hm:zcc m) (hn:zcc n):cmpL m n=sgn (val m) (val n):=by
 have key:∀{m n:List Nat},zcc m->zcc n->m.length<n.length->val m<val n:=by
  intro m n hm hn h
  have h1:=zjp hm.1
  have h2:=zkx hn.2 (by intro e;rw [e] at h;simp at h)
  have h3:4294967296^m.length<=4294967296^(n.length-1):=qH (by decide) (by omega)
  omega
 unfold cmpL
 split
 ·rename_i h
  rw [qgv hm.1 hn.1 m.length (qG _) (by omega),xY,h,xY]
 ·rename_i h
  split
  ·rename_i h2
   have:=key hm hn h2
   unfold sgn
   rw [if_pos this]
  ·rename_i h2
   have:=key hn hm (by omega)
   unfold sgn
   rw [if_neg (by omega),if_neg (by omega)]
def sumL (m n:List Nat):Nat->Nat->Nat->List Nat->List Nat
 | 0,_,c,out=>out++[c%4294967296]
 | k+1,i,c,out=>sumL m n k (i+1) ((c+m.getD i 0+n.getD i 0)/4294967296) (out++[(c+m.getD i 0+n.getD i 0)%4294967296])
theorem zdi (l:List Nat) (i:Nat):val (l.take (i+1))=val (l.take i)+4294967296^i*l.getD i 0:=by
 rcases qT i l.length with h | h
 ·rw [zky h,zee,xU,zX (by omega)]
  simp [val]
 ·rw [qW h,qW (by omega),qV,yD h]
  simp
theorem qgw (m n:List Nat) (hm:Dig m) (hn:Dig n):∀(k i c:Nat) (out:List Nat),c<=1->out.length=i->Dig out->m.length<=i+k->n.length<=i+k->
  val out+4294967296^i*c=val (m.take i)+val (n.take i)->
  val (sumL m n k i c out)=val m+val n/\Dig (sumL m n k i c out)/\(sumL m n k i c out).length=i+k+1:=by
 intro k
 induction k with
 | zero=>
  intro i c out hc ho hd h1 h2 h
  rw [qW (by omega),qW (by omega)] at h
  simp only [sumL]
  refine ⟨?_,hd.append (Dig.cons (xV _ (by decide)) Dig.nil),by simp [ho]⟩
  rw [zee,ho]
  simp only [val,xN,xA]
  rw [xQ (by omega)]
  exact h
 | succ k ih=>
  intro i c out hc ho hd h1 h2 h
  have b1:=hm.getD i
  have b2:=hn.getD i
  have:=ih (i+1) ((c+m.getD i 0+n.getD i 0)/4294967296) (out++[(c+m.getD i 0+n.getD i 0)%4294967296]) (by omega) (by simp [ho])
   (hd.append (Dig.cons (xV _ (by decide)) Dig.nil)) (by omega) (by omega) (by
    rw [zdi,zdi,zee,ho]
    simp only [val,xN,xA,qN]
    generalize 4294967296^i=p at*
    have e:c+m.getD i 0+n.getD i 0=(c+m.getD i 0+n.getD i 0)%4294967296+4294967296*((c+m.getD i 0+n.getD i 0)/4294967296):=by omega
    generalize (c+m.getD i 0+n.getD i 0)%4294967296=u at*
    generalize (c+m.getD i 0+n.getD i 0)/4294967296=v at*
    have e2:p*(c+m.getD i 0+n.getD i 0)=p*(u+4294967296*v):=by rw [e]
    simp only [xX] at e2
    have e3:p*4294967296*v=p*(4294967296*v):=qP _ _ _
    omega)
  simp only [sumL]
  refine ⟨this.1,this.2.1,by omega⟩
theorem qns {a b c u v p A B C:Nat} (hv:a+4294967296*v=u+(b+c)) (h:A+p*b=C+B):A+p*a+p*4294967296*v=C+p*u+(B+p*c):=by
 have e2:p*(a+4294967296*v)=p*(u+(b+c)):=by rw [hv]
 simp only [xX] at e2
 have e3:p*4294967296*v=p*(4294967296*v):=qP _ _ _
 omega
theorem quk {a b c u v p A B C V1 V2 V3 D:Nat} (h1:V1=A+p*a) (h2:V2=B+p*c) (h3:V3=C+p*u) (hD:D=p*4294967296) (hv:a+4294967296*v=u+(b+c)) (h:A+p*b=C+B):V1+D*v=V3+V2:=by
 subst h1 h2 h3 hD
 exact qns hv h
theorem pw (i:Nat):4294967296^(i+1)=4294967296^i*4294967296:=by rw [qN]
theorem qch {l:List Nat} {i d:Nat} (h:l.length=i):val (l++[d])=val l+4294967296^i*d:=by
 rw [zee,h]
 simp [val]
def brw (a b:Nat):Nat:=if a<b then 1 else 0
theorem qnt {a b:Nat} (ha:a<4294967296) (hb:b<=4294967296):a+4294967296*brw a b=(a+8589934592-b)%4294967296+b:=by
 unfold brw
 split<;>omega
theorem qyq (a b:Nat):brw a b<=1:=by unfold brw;split<;>omega
def difL (m n:List Nat):Nat->Nat->Nat->List Nat->List Nat
 | 0,_,_,out=>out
 | k+1,i,b,out=>difL m n k (i+1) (brw (m.getD i 0) (b+n.getD i 0)) (out++[(m.getD i 0+8589934592-(b+n.getD i 0))%4294967296])
theorem qnu {a b c d p:Nat} (h:a+p*b=c+d) (hlt:c<p) (hv:d<=a) (hb:b<=1):b=0:=by
 rcases qT b 1 with h2 | h2
 ·omega
 ·have e:b=1:=by omega
  rw [e,xG] at h
  omega
theorem znl (m n:List Nat) (hm:Dig m) (hn:Dig n) (hnm:n.length<=m.length) (hv:val n<=val m):∀(k i b:Nat) (out:List Nat),b<=1->out.length=i->Dig out->m.length=i+k->
  val (m.take i)+4294967296^i*b=val out+val (n.take i)->
  val (difL m n k i b out)+val n=val m/\Dig (difL m n k i b out)/\(difL m n k i b out).length=m.length:=by
 intro k
 induction k with
 | zero=>
  intro i b out hb ho hd h1 h
  have h1:m.length=i:=h1
  have hlt:=zjp hd
  rw [ho] at hlt
  rw [qW (by omega),qW (by omega)] at h
  simp only [difL]
  have hb0:=qnu h hlt hv hb
  rw [hb0,xN] at h
  clear hlt
  exact ⟨by omega,hd,by omega⟩
 | succ k ih=>
  intro i b out hb ho hd h1 h
  have b1:=hm.getD i
  have b2:=hn.getD i
  simp only [difL]
  refine ih (i+1) _ _ (qyq _ _) (by simp [ho]) (hd.append (Dig.cons (xV _ (by decide)) Dig.nil)) (by omega) ?_
  exact quk (zdi m i) (zdi n i) (qch ho) (pw i) (qnt b1 (by omega)) h
def mulR (n:List Nat) (x i:Nat):Nat->Nat->Nat->List Nat->Nat×List Nat
 | 0,_,c,out=>(c,out)
 | k+1,j,c,out=>mulR n x i k (j+1) ((c+(x*n.getD j 0+out.getD (i+j) 0))/4294967296) (out.set (i+j) ((c+(x*n.getD j 0+out.getD (i+j) 0))%4294967296))
def mulL (n:List Nat):List Nat->Nat->List Nat->List Nat
 | [],_,out=>out
 | x::m,i,out=>mulL n m (i+1) ((mulR n x i n.length 0 0 out).2.set (i+n.length) ((mulR n x i n.length 0 0 out).1))
theorem zwo {l:List Nat} {i v:Nat} (h:i<l.length):val (l.set i v)+4294967296^i*l.getD i 0=val l+4294967296^i*v:=by
 induction l generalizing i with
 | nil=>simp at h
 | cons d l ih=>
  cases i with
  | zero=>simp [val];omega
  | succ i=>
   have:=ih (i:=i) (by simpa using h)
   simp only [yM,val,List.getD_cons_succ,qN]
   have e1:4294967296^i*4294967296*l.getD i 0=4294967296*(4294967296^i*l.getD i 0):=by rw [yB (4294967296^i),qP]
   have e2:4294967296^i*4294967296*v=4294967296*(4294967296^i*v):=by rw [yB (4294967296^i),qP]
   omega
theorem Dig.set {l:List Nat} {i v:Nat} (h:Dig l) (hv:v<4294967296):Dig (l.set i v):=by
 intro a ha
 rcases List.mem_or_eq_of_mem_set ha with e | e
 ·exact h a e
 ·rw [e];exact hv
theorem ztt (n:List Nat) (hn:Dig n) (x i:Nat) (hx:x<4294967296):∀(k j c:Nat) (out:List Nat),c<4294967296->j+k=n.length->i+n.length<out.length->Dig out->
  (mulR n x i k j c out).1<4294967296/\(mulR n x i k j c out).2.length=out.length/\Dig (mulR n x i k j c out).2/\
  (∀t,i+n.length<=t->(mulR n x i k j c out).2.getD t 0=out.getD t 0)/\
  val (mulR n x i k j c out).2+4294967296^(i+n.length)*(mulR n x i k j c out).1+4294967296^i*(x*val (n.take j))=val out+4294967296^(i+j)*c+4294967296^i*(x*val n):=by
 intro k
 induction k with
 | zero=>
  intro j c out hc hj hl hd
  have hj:j=n.length:=by omega
  subst hj
  refine ⟨hc,rfl,hd,fun _ _=>rfl,?_⟩
  simp only [mulR,xY]
 | succ k ih=>
  intro j c out hc hj hl hd
  have b1:=hn.getD j
  have b2:=hd.getD (i+j)
  have hxy:x*n.getD j 0<=4294967295*4294967295:=Nat.mul_le_mul (by omega) (by omega)
  have hS:c+(x*n.getD j 0+out.getD (i+j) 0)<4294967296*4294967296:=by omega
  obtain ⟨h1,h2,h3,h4,h5⟩:=ih (j+1) ((c+(x*n.getD j 0+out.getD (i+j) 0))/4294967296) (out.set (i+j) ((c+(x*n.getD j 0+out.getD (i+j) 0))%4294967296)) (by omega) (by omega) (by simpa using hl)
   (hd.set (xV _ (by decide)))
  simp only [mulR]
  refine ⟨h1,by simpa using h2,h3,fun t ht=>?_,?_⟩
  ·rw [h4 t ht,qV,yH (by omega),qV]
  ·have hs:=zwo (l:=out) (i:=i+j) (v:=(c+(x*n.getD j 0+out.getD (i+j) 0))%4294967296) (by omega)
   rw [zdi] at h5
   generalize mulR n x i k (j+1) ((c+(x*n.getD j 0+out.getD (i+j) 0))/4294967296) (out.set (i+j) ((c+(x*n.getD j 0+out.getD (i+j) 0))%4294967296))=R at*
   generalize val (out.set (i+j) ((c+(x*n.getD j 0+out.getD (i+j) 0))%4294967296))=V at*
   have e:c+(x*n.getD j 0+out.getD (i+j) 0)=(c+(x*n.getD j 0+out.getD (i+j) 0))%4294967296+4294967296*((c+(x*n.getD j 0+out.getD (i+j) 0))/4294967296):=by omega
   generalize (c+(x*n.getD j 0+out.getD (i+j) 0))%4294967296=u at*
   generalize (c+(x*n.getD j 0+out.getD (i+j) 0))/4294967296=v at*
   have e2:4294967296^(i+j)*(c+(x*n.getD j 0+out.getD (i+j) 0))=4294967296^(i+j)*(u+4294967296*v):=by rw [e]
   have e3:4294967296^(i+(j+1))*v=4294967296^(i+j)*(4294967296*v):=by rw [<-Nat.add_assoc,qN,qP]
   have e4:4294967296^i*(x*(val (n.take j)+4294967296^j*n.getD j 0))=4294967296^i*(x*val (n.take j))+4294967296^(i+j)*(x*n.getD j 0):=by
    rw [xX,xX,Nat.pow_add,Nat.mul_left_comm x,qP]
   rw [e3,e4] at h5
   simp only [xX] at e2
   omega
theorem qgx (n:List Nat) (hn:Dig n):∀(m:List Nat) (i:Nat) (out:List Nat),Dig m->Dig out->out.length=i+m.length+n.length->(∀t,i+n.length<=t->out.getD t 0=0)->
  (mulL n m i out).length=out.length/\Dig (mulL n m i out)/\val (mulL n m i out)=val out+4294967296^i*(val m*val n):=by
 intro m
 induction m with
 | nil=>intro i out _ hd _ _;simp [mulL,val,hd]
 | cons x m ih=>
  intro i out hm hd hl hz
  simp only [xT] at hl
  obtain ⟨h1,h2,h3,h4,h5⟩:=ztt n hn x i hm.head n.length 0 0 out (by decide) (by omega) (by omega) hd
  simp only [mulL]
  generalize mulR n x i n.length 0 0 out=R at*
  have hz0:R.2.getD (i+n.length) 0=0:=(h4 _ (qG _)).trans (hz _ (qG _))
  have hs:=zwo (l:=R.2) (i:=i+n.length) (v:=R.1) (by omega)
  obtain ⟨g1,g2,g3⟩:=ih (i+1) (R.2.set (i+n.length) R.1) hm.tail (h3.set h1) (by simp;omega) (by
   intro t ht
   rw [qV,yH (by omega),<-qV,h4 t (by omega)]
   exact hz t (by omega))
  refine ⟨by rw [g1];simpa using h2,g2,?_⟩
  rw [g3,val,Nat.add_mul,xX]
  rw [hz0] at hs
  simp only [yG,val,xN,xA] at h5 hs
  have e:4294967296^(i+1)*(val m*val n)=4294967296^i*(4294967296*val m*val n):=by rw [qN,qP,qP]
  omega
def POW (k:Nat):Nat:=4294967296^k
def BIG:Nat:=POW 1100
theorem qci {l:List Nat} {k:Nat} (h:zcc l) (hv:val l<POW k):l.length<=k:=by
 rcases qT k l.length with h1 | h1
 ·exfalso
  have h2:=zkx h.2 (by intro e;rw [e] at h1;simp at h1)
  have h3:4294967296^k<=4294967296^(l.length-1):=qH (by decide) (by omega)
  unfold POW at hv
  exact absurd (yJ hv (Nat.le_trans h3 h2)) (Nat.lt_irrefl _)
 ·exact h1
theorem canon_len {l:List Nat} (h:zcc l) (hv:val l<BIG):l.length<=1100:=qci (k:=1100) h hv
theorem qgy {l:List Nat} {k:Nat} (h:Dig l) (hl:l.length<=k):val l<POW k:=
 yJ (zjp h) (qH (by decide) hl)
theorem zeo {l:List Nat} (h:Dig l) (hl:l.length<=1100):val l<BIG:=qgy (k:=1100) h hl
theorem zwp {n k:Nat} (hk:4<=k) (h:n<340282366920938463463374607431768211456):n<POW k:=
 yJ h (show 4294967296^4<=4294967296^k from qH (by decide) hk)
theorem zia {n:Nat} (h:n<340282366920938463463374607431768211456):n<BIG:=zwp (k:=1100) (by decide) h
end Go.Limb
namespace Go.Proofs.YtpflahgcdgdkjaaGreatDoor
open Nat renaming reduceEqDiff -> qQ, reduceLeDiff -> qX, reduceAdd -> qZ, le_refl -> qG, zero_add -> xZ, mul_one -> xG, eq_zero_or_pos -> yX, zero_le -> yE, zero_mul -> yO, not_lt_zero -> zZ
open List renaming take_of_length_le -> qW, drop_zero -> xO, nil_append -> yC
open Int renaming toNat_natCast -> qY, sign_eq_neg_one_of_neg -> qR, sign_eq_one_of_pos -> xK, natCast_zero -> xS
open Option renaming bind_some -> xR
open Go.AL.AV.closed renaming closedL -> yV
open Go Go.AL Go.Proofs Go.Limb
def u32s (l:List Nat):List AV:=l.map fun (n:Nat)=>AV.int .u32 (n:Int)
theorem zbj (l:List Nat):(u32s l).length=l.length:=by simp [u32s]
theorem zcj (l:List Nat) (i:Nat) (h:i<l.length) (d:AV):(u32s l).getD i d= .int .u32 ((l.getD i 0:Nat):Int):=by
 simp [u32s,h]
theorem ztu (l:List Nat) (n:Nat):(u32s l).take n=u32s (l.take n):=by simp [u32s,List.map_take]
theorem zri (l:List Nat) (i a:Nat):(u32s l).set i (.int .u32 (a:Int))=u32s (l.set i a):=by simp [u32s,List.map_set]
theorem znm (l:List Nat):yV (u32s l)=true:=by
 induction l with
 | nil=>rfl
 | cons d l ih=>exact ih
theorem zyw (l:List Nat) (m d:Nat) (H:Heap):(u32s l).mapM (frzI m H (d+1))=some (u32s l):=by
 refine zmc (fun a ha=>?_)
 simp only [u32s,List.mem_map] at ha
 obtain ⟨n,_,rfl⟩:=ha
 rfl
theorem wQ {a b:Int} (h:a=b/\ -9223372036854775808<=b/\b<9223372036854775808):IntKind.i64.wrap a=b:=by
 obtain ⟨rfl,h1,h2⟩:=h
 simp [IntKind.wrap,IntKind.bits,IntKind.signed]
 omega
theorem wS1 (i:Nat) (h:i<9223372036854775807):IntKind.i64.wrap ((i:Int)+1)=((i+1:Nat):Int):=wQ (by omega)
theorem w64 {a:Int} (h1: -9223372036854775808<=a) (h2:a<9223372036854775808):IntKind.i64.wrap a=a:=by
 simp [IntKind.wrap,IntKind.bits,IntKind.signed]
 omega
def zat (z:Int) (a:AV):Prop:= ∃l c,zcc l/\l.length<=1100/\val l=z.natAbs/\a= .agg [.bool (decide (z<0)),.vec (u32s l) l.length c]
theorem qcj {n0 fr n sz bytes:Nat} {H:Heap} {cs ds:List AV} {c c':Option Nat}:zbf n0 fr H sz bytes (.vec cs n c) (.vec ds 0 c')=some (.vec cs n c,[],[]):=by
 simp [zbf,lenA,zde,need]
theorem qck {n0 fr m sz bytes:Nat} {H:Heap} {ds:List AV} {c':Option Nat} (hm:0<m) (hl:m*sz<=ds.length) (h1:4*m*bytes<=281474976710656) (h2:m<4611686018427387904):
  zbf n0 fr H sz bytes (.vec [] 0 (some 0)) (.vec ds m c')=some (.sl fr 0 m sz none,[(fr,some (ds.take (m*sz)))],[]):=by
 have e1:m≠0:=by omega
 have e2:4*(0+m)*bytes<=2^48:=by rw [xZ];exact h1
 have e3:0+m<2^62:=by rw [xZ];exact h2
 simp only [zbf,lenA,zde,need,xR,qG,hl,and_self,if_true,e1,if_false,yO,yE,e2,e3,List.take_nil,yC,true_and]
 simp only [xZ]
theorem zrj {H:Heap} {id n:Nat} {c:Option Nat} {l:List Nat} (hb:getB H id=some (u32s l)) (hn:n=l.length):AL.Fin 0 (.sl id 0 n 1 c) H (.vec (u32s l) n c) []:=by
 refine .freeze 2 _ _ _ ?_ (by intro i cs h;omega)
 have e:=zyw l 0 0 H
 rw [frzI]
 simp only [zZ,if_false,hb,need,xZ,xG,hn,zbj,qG,if_true,xO]
 rw [qW (by rw [zbj];omega),e]
 rfl
theorem zlu (l:List Nat) (c:Option Nat) (hl:l.length<16777216):∃c',Rt 161 [.vec (u32s l) l.length c] [] (.vec (u32s (zbc l)) (zbc l).length c') []:=by
 have key:∀{E:Env} {Q:Post},E 0= .vec (u32s l) l.length c->E 3= .int .i64 (l.length:Nat)->(∀E',E' 0= .vec (u32s l) l.length c->E' 3= .int .i64 (zgf l l.length:Nat)->Q (.exit 0) E' [])->Wg 0 22 (.loop l161_0) E [] Q:=by
  intro E Q h0 h3 hQ
  refine zai (fun k E H=>k<=l.length/\zgf l k=zgf l l.length/\E 0= .vec (u32s l) l.length c/\E 3= .int .i64 (k:Nat)/\H=[]) (n:=l.length) ⟨by omega,rfl,h0,h3,rfl⟩ ?_
  rintro k E H ⟨hk,ht,h0,h3,rfl⟩
  refine wM ?_
  cases k with
  | zero=>
   simp only [l161_0,r161_2,SS,fC,reduceCtorEq,reduceIte,qQ,h3,xS,show decide ((0:Int)<0)=false from rfl]
   refine hQ _ ?_ ?_<;>simp only [UU,qQ, *]
   rw [<-ht];rfl
  | succ k=>
   have g:=zcj l k (by omega) AV.junk
   have w1:IntKind.i64.wrap (((k+1:Nat):Int)-1)=(k:Nat):=wQ (by omega)
   have d1:decide ((0:Int)<((k+1:Nat):Int))=true:=decide_eq_true (by omega)
   simp only [l161_0,r161_2,r161_3,SS,fC,reduceCtorEq,reduceIte,qQ,h0,h3,d1,w1,g,qY,zbj]
   refine ⟨⟨by omega,by omega⟩,by omega,fun hz=>?_,fun hz=>?_⟩
   ·have hz:l.getD k 0=0:=by omega
    refine ⟨k,_,_,by omega,⟨by omega,?_,?_,?_,rfl⟩,.refl⟩
    ·rw [<-ht,zgf,if_pos hz]
    ·simp only [UU,qQ, *]
    ·simp only [UU,qQ,reduceIte, *]
   ·have hz:l.getD k 0≠0:=by omega
    refine hQ _ ?_ ?_
    ·simp only [UU,qQ, *]
    ·simp only [UU,qQ, *]
     rw [<-ht,zgf,if_neg hz]
 have hle:=zhz l l.length
 have hsl:((u32s l).drop (0*1)).take ((zgf l l.length-0)*1)=u32s (zbc l):=by
  simp only [xO,xG,Nat.sub_zero,ztu];rfl
 rcases yX (zgf l l.length) with h0 | h0
 ·have e:zbc l=[]:=by unfold zbc;rw [h0];rfl
  refine ⟨some 0,?_⟩
  refine oF o161 ?_
  simp only [c161,r161_0,r161_1,SS,reduceCtorEq,reduceIte,qQ]
  refine key (by simp only [UU,qQ, *]) (by simp only [UU,qQ,reduceIte, *]) (fun E' h0' h3'=>?_)
  simp only [r161_4,SS,reduceCtorEq,reduceIte,qQ,h0',h3',qY,zbj]
  refine ⟨by omega,⟨by omega,by omega,by omega⟩,?_⟩
  rw [e,h0,Nat.zero_sub,qcj]
  exact ⟨.inl trivial,_,rfl,.drop _ _ rfl (by intro i cs h;omega)⟩
 ·have hlen:=zhd l
  refine ⟨none,?_⟩
  refine oF o161 ?_
  simp only [c161,r161_0,r161_1,SS,reduceCtorEq,reduceIte,qQ]
  refine key (by simp only [UU,qQ, *]) (by simp only [UU,qQ,reduceIte, *]) (fun E' h0' h3'=>?_)
  simp only [r161_4,SS,reduceCtorEq,reduceIte,qQ,h0',h3',qY,zbj]
  refine ⟨by omega,⟨by omega,by omega,by omega⟩,?_⟩
  rw [Nat.sub_zero,ztu,qck h0 (by rw [zbj,xG];exact Nat.le_of_eq hlen.symm) (by omega) (by omega)]
  refine ⟨.inl trivial,_,rfl,?_⟩
  have e1:(u32s (l.take (zgf l l.length))).take (zgf l l.length*1)=u32s (zbc l):=by
   rw [xG,qW (by rw [zbj];exact Nat.le_of_eq hlen)];rfl
  rw [e1,<-hlen]
  exact zrj rfl rfl
def sgnZ (s:Bool) (n:Nat):Int:=if s then -(n:Int) else n
theorem zrk (s:Bool) (n:Nat):(sgnZ s n).natAbs=n:=by unfold sgnZ;split<;>omega
theorem znn (s:Bool) (l:List Nat) (c:Option Nat) (hd:Dig l) (hl:l.length<1048576) (hfit:val l<BIG):∃v,zat (sgnZ s (val l)) v/\Rt 184 [.bool s,.vec (u32s l) l.length c] [] v []:=by
 obtain ⟨c',ht⟩:=zlu l c (by omega)
 have hlen:(zbc l).length<=l.length:=by rw [zhd];exact zhz _ _
 have hneg:decide (sgnZ s (val l)<0)=(if s=true then decide ((0:Int)<((zbc l).length:Nat)) else false):=by
  cases s
  ·simp [sgnZ]
  ·have h1:=zyv (zbi hd)
   rw [zci] at h1
   simp only [sgnZ,if_true]
   by_cases h0:zbc l=[]
   ·rw [h0] at h1 ⊢
    have:val l=0:=h1.2 rfl
    simp [this]
   ·have:val l≠0:=fun e=>h0 (h1.1 e)
    have:0<(zbc l).length:=List.length_pos_iff.2 h0
    rw [decide_eq_true (by omega),decide_eq_true (by omega)]
 refine ⟨_,⟨zbc l,c',zbi hd,canon_len (zbi hd) (by rw [zci];exact hfit),by rw [zci,zrk],rfl⟩,?_⟩
 rw [hneg]
 refine oF o184 ?_
 simp only [c184,r184_0,r184_1,SS,reduceCtorEq,reduceIte,qQ]
 refine zaa ht ?_
 cases s
 ·simp only [r184_2,SS,fC,reduceCtorEq,reduceIte,qZ,qQ,qX]
  exact ⟨.inl trivial,_,rfl,.drop _ _ rfl (by intro i cs h;omega)⟩
 ·simp only [r184_2,SS,fC,reduceCtorEq,reduceIte,qZ,qQ,qX]
  exact ⟨.inl trivial,_,rfl,.drop _ _ rfl (by intro i cs h;omega)⟩
theorem zpi {z:Int} {a:AV} (h:zat z a):∃v,zat z v/\Rt 122 [a] [] v []:=by
 obtain ⟨l,c,hc,hl,hv,rfl⟩:=h
 obtain ⟨v,hv1,hr⟩:=znn (decide (z<0)) l c hc.1 (by omega) (zeo hc.1 hl)
 have e:sgnZ (decide (z<0)) (val l)=z:=by
  rw [hv];unfold sgnZ;simp only [decide_eq_true_eq];split<;>omega
 rw [e] at hv1
 obtain ⟨l',c',_,_,_,rfl⟩:=hv1
 refine ⟨_,⟨l',c',by assumption,by assumption,by assumption,rfl⟩,?_⟩
 refine oF o122 ?_
 simp only [c122,r122_0,r122_1,SS,fC,reduceCtorEq,reduceIte,qZ,qQ,qX]
 refine zaa hr ?_
 simp only [SS,reduceIte,qZ,qQ,qX]
 exact ⟨.inl trivial,_,rfl,.drop _ _ rfl (by intro i cs h;omega)⟩
theorem zNeg {z:Int} {a:AV} (h:zat z a):∃v,zat (-z) v/\Rt 126 [a] [] v []:=by
 obtain ⟨l,c,hc,hl,hv,rfl⟩:=h
 obtain ⟨v,hv1,hr⟩:=znn (!decide (z<0)) l c hc.1 (by omega) (zeo hc.1 hl)
 have e:sgnZ (!decide (z<0)) (val l)= -z:=by
  rw [hv];unfold sgnZ;simp only [Bool.not_eq_true',decide_eq_false_iff_not];split<;>omega
 rw [e] at hv1
 obtain ⟨l',c',_,_,_,rfl⟩:=hv1
 refine ⟨_,⟨l',c',by assumption,by assumption,by assumption,rfl⟩,?_⟩
 refine oF o126 ?_
 simp only [c126,r126_0,r126_1,SS,fC,reduceCtorEq,reduceIte,qZ,qQ,qX]
 refine zaa hr ?_
 simp only [SS,reduceIte,qZ,qQ,qX]
 exact ⟨.inl trivial,_,rfl,.drop _ _ rfl (by intro i cs h;omega)⟩
theorem zAbs {z:Int} {a:AV} (h:zat z a):∃v,zat (z.natAbs:Int) v/\Rt 187 [a] [] v []:=by
 obtain ⟨l,c,hc,hl,hv,rfl⟩:=h
 obtain ⟨v,hv1,hr⟩:=znn false l c hc.1 (by omega) (zeo hc.1 hl)
 have e:sgnZ false (val l)=(z.natAbs:Int):=by rw [hv];rfl
 rw [e] at hv1
 obtain ⟨l',c',_,_,_,rfl⟩:=hv1
 refine ⟨_,⟨l',c',by assumption,by assumption,by assumption,rfl⟩,?_⟩
 refine oF o187 ?_
 simp only [c187,r187_0,r187_1,SS,fC,reduceCtorEq,reduceIte,qZ,qQ,qX]
 refine zaa hr ?_
 simp only [SS,reduceIte,qZ,qQ,qX]
 exact ⟨.inl trivial,_,rfl,.drop _ _ rfl (by intro i cs h;omega)⟩
theorem ztv {z:Int} {a:AV} (h:zat z a):Rt 149 [a] [] (.int .i64 z.sign) []:=by
 obtain ⟨l,c,hc,hl,hv,rfl⟩:=h
 obtain ⟨c',ht⟩:=zlu l c (by omega)
 have h1:=zyv (zbi hc.1)
 rw [zci,hv] at h1
 refine oF o149 ?_
 simp only [c149,r149_0,r149_1,SS,fC,reduceCtorEq,reduceIte,qZ,qQ,qX]
 refine zaa ht ?_
 simp only [SS,reduceIte,qQ]
 refine ⟨fun h0=>?_,fun h0=>?_⟩
 ·have:z=0:=by
   have:=h1.2 (List.length_eq_zero_iff.1 (by omega))
   omega
  subst this
  simp only [r149_2,SS]
  exact ⟨.inl trivial,_,rfl,.drop _ _ rfl (by intro i cs h;omega)⟩
 ·have:z≠0:=by
   intro e
   have:=h1.1 (by omega)
   rw [this] at h0
   simp at h0
  simp only [r149_3,SS,fC,reduceIte,qZ,qQ,qX]
  refine ⟨fun h2=>?_,fun h2=>?_⟩
  ·rw [qR h2]
   simp only [r149_4,SS]
   exact ⟨.inl trivial,_,rfl,.drop _ _ rfl (by intro i cs h;omega)⟩
  ·rw [xK (by omega)]
   simp only [r149_5,SS]
   exact ⟨.inl trivial,_,rfl,.drop _ _ rfl (by intro i cs h;omega)⟩
end Go.Proofs.YtpflahgcdgdkjaaGreatDoor
namespace Go.Proofs.YtpflahgcdgdkjaaGreatDoor
open Nat renaming reduceEqDiff -> qQ, reduceLeDiff -> qX, reduceAdd -> qZ, div_le_self -> qC, div_one -> qE, le_refl -> qG, pow_le_pow_right -> qH, lt_of_le_of_lt -> qM, pow_succ -> qN, lt_or_ge -> qT, mod_eq_of_lt -> xQ, zero_add -> xZ, mod_lt -> xV, add_zero -> xA, reduceMul -> xC, mul_one -> xG, one_mul -> xH, add_sub_cancel_left -> xI, gcd_comm -> xL, mul_le_mul_left -> yQ, eq_zero_or_pos -> yX, add_sub_cancel -> yZ, pow_pos -> yW, gcd_one_right -> yY, mul_comm -> yB, zero_le -> yE, gcd_zero_right -> yL, zero_mul -> yO, pow_zero -> yR, min_eq_left -> zX, not_lt_zero -> zZ, one_ne_zero -> zJ
open List renaming getElem?_cons_zero -> qJ, getElem?_cons_succ -> qK, take_of_length_le -> qW, getD_eq_getElem?_getD -> qV, replicate_zero -> qU, getElem?_append_right -> qB, append_nil -> qD, set_append_right -> qL, getElem?_append_left -> qS, take_length -> xY, length_take -> xU, getElem?_eq_getElem -> xD, drop_zero -> xO, mapM_cons -> xP, nil_append -> yC, getElem?_eq_none -> yD, take_zero -> yG, mapM_nil -> yI
open Int renaming toNat_natCast -> qY, lt_trichotomy -> qA, reduceLT -> qI, natCast_add -> qO, sign_eq_neg_one_of_neg -> qR, reduceEq -> xJ, sign_eq_one_of_pos -> xK, reduceLE -> xM, natCast_zero -> xS, reduceAdd -> yU, sub_eq_add_neg -> yN, mul_one -> yS, mul_neg -> yT
open Bool renaming false_eq_true -> xW
open Option renaming bind_some -> xR
open Go.AL.AV.closed renaming closedL -> yV
open Go Go.AL Go.Proofs
theorem bitD:∀n:Nat,n<8->∀j:Nat,j<7->((n/2^j)=2*(n/2^(j+1))\/(n/2^j)=2*(n/2^(j+1))+1)/\(IntKind.i64.wrap ((BitVec.ofInt IntKind.i64.bits (n:Int) &&& BitVec.ofInt IntKind.i64.bits ((2^j:Nat):Int)).toNat:Int)≠0↔(n/2^j)=2*(n/2^(j+1))+1):=by decide +kernel
abbrev pzC0 (x:Nat) (c:Option Nat):List AV:=[.bool false,.vec [.int .u32 (x:Int)] 1 c]
theorem iPow {a n:Nat} {c:Option Nat} (ha:a≠0) (hn:n<8) (hb:a^n<4294967296) (ha':a<4294967296):Rt 82 [pz a c,.int .i64 (n:Int)] [] (.tup [pz (a^n) s2,.bool true]) []:=by
 have d1:decide ((n:Int)<0)=false:=decide_eq_false (by omega)
 have d2:decide (64<(n:Int))=false:=decide_eq_false (by omega)
 refine oF o82 ?_
 simp only [c82,r82_0,r82_1,↓ziz,SS,fC,reduceCtorEq,reduceIte,qQ,d1,d2]
 simp only [r82_3,SS]
 refine zaa znk ?_
 simp only [zaj,zad,qU,qD,SS,reduceIte,qZ,qQ,qX]
 simp only [r82_4,SS]
 have hle:∀i,i<=n->a^i<4294967296:=fun i hi=>qM (qH (by omega) hi) hb
 have hne:∀i,a^i≠0:=fun i=>Nat.ne_of_gt (yW (by omega))
 refine zai (fun f E H=>f<=7/\H=[some (pzC0 a c),some [.bool false,.vec [] 0 (some 0)],some (pzC0 (a^(n/2^f)) s2)]/\E 1= .int .i64 (n:Int)/\E 2= .ptr 0 0/\E 4= .ptr 1 0/\E 6= .ptr 2 0/\E 7= .int .i64 (if f=0 then 0 else ((2^(f-1):Nat):Int))) (n:=7)
  ⟨qG 7,by rw [show n/2^7=0 from Nat.div_eq_of_lt (by omega),yR],by simp only [UU,qQ],by simp only [UU,qQ,reduceIte],by simp only [UU,qQ,reduceIte],by simp only [UU,qQ,reduceIte],by simp only [UU,qQ,reduceIte];rfl⟩ ?_
 rintro f E H ⟨hf,rfl,e1,e2,e4,e6,e7⟩
 refine wM ?_
 cases f with
 | zero=>
  rw [if_pos rfl] at e7
  have d0:decide ((0:Int)<0)=false:=rfl
  simp only [l82_0,r82_5,SS,fC,reduceCtorEq,reduceIte,qQ,e7,d0]
  simp only [r82_10,SS,reduceIte,qZ,qQ,qX,e4,e6]
  have e0:n/2^0=n:=by rw [yR,qE]
  rw [e0]
  have hld:ldSz Tryz.prog 40=some (true,2):=by kernel_rfl
  refine ⟨.inl trivial,.tup [pz (a^n) s2,.bool true],?_,.drop _ _ rfl (by intro i cs h;omega)⟩
  simp only [resA,xP,yI,zew,hld,UU,qQ,reduceIte,e4,qui,quj,need]
  rfl
 | succ j=>
  rw [if_neg (by omega),yZ] at e7
  have h2:0<2^j:=yW (by decide)
  have d0:decide ((0:Int)<((2^j:Nat):Int))=true:=decide_eq_true (by omega)
  simp only [l82_0,r82_5,SS,fC,reduceCtorEq,reduceIte,qQ,e7,d0]
  simp only [r82_6,SS,reduceIte,qZ,qQ,qX,e6]
  have hx:n/2^(j+1)<=n:=qC _ _
  have hsq:a^(n/2^(j+1))*a^(n/2^(j+1))=a^(2*(n/2^(j+1))):=by rw [<-Nat.pow_add];congr 1;omega
  have h2x:2*(n/2^(j+1))<=n:=by
   have:=Nat.div_mul_le_self n (2^(j+1))
   have h3:2<=2^(j+1):=by rw [qN];omega
   have:=yQ (n/2^(j+1)) h3
   omega
  have tm:=mulP (x:=a^(n/2^(j+1))) (y:=a^(n/2^(j+1))) (c:=s2) (d:=s2) (hne _) (hle _ hx) (hne _) (hle _ hx) (by rw [hsq];exact hle _ h2x)
  rw [hsq] at tm
  refine zaa tm ?_
  simp only [zaj,zad,qU,qD,SS,reduceIte,qZ,qQ,qX,e6]
  simp only [r82_7,SS,reduceIte,qQ,e1,e7]
  obtain ⟨hb1,hb2⟩:=bitD n hn j (by omega)
  have wq:IntKind.i64.wrap (Int.tdiv ((2^j:Nat):Int) 2)=(if j=0 then 0 else ((2^(j-1):Nat):Int)):=by
   cases j with
   | zero=>rfl
   | succ j=>
    rw [if_neg (by omega),yZ]
    have:Int.tdiv ((2^(j+1):Nat):Int) 2=((2^(j+1)/2:Nat):Int):=rfl
    rw [this,qN,Nat.mul_div_cancel _ (by decide)]
    have:=qH (n:=2) (by decide) (show j<=7 by omega)
    generalize 2^j=y at*
    exact w64 (by omega) (by omega)
  refine ⟨fun h=>?_,fun h=>?_⟩
  ·have hq:=hb2.1 h
   have hx1:n/2^j<=n:=qC _ _
   have hm1:a^(2*(n/2^(j+1)))*a=a^(n/2^j):=by rw [<-qN,hq]
   have tm2:=mulP (x:=a^(2*(n/2^(j+1)))) (y:=a) (c:=s2) (d:=c) (hne _) (hle _ h2x) ha ha' (by rw [hm1];exact hle _ hx1)
   rw [hm1] at tm2
   simp only [r82_8,SS,reduceIte,qZ,qQ,qX,e2,e6]
   refine zaa tm2 ?_
   simp only [zaj,zad,qU,qD,SS,reduceIte,qZ,qQ,qX,e6]
   simp only [r82_9,SS,reduceIte,qQ,e7,wq]
   refine ⟨by decide,j,_,_,by omega,⟨by omega,rfl,?_,?_,?_,?_,?_⟩,.refl⟩<;>simp only [UU,qQ,reduceIte, *]
  ·have hq:n/2^j=2*(n/2^(j+1)):=by
    rcases hb1 with e | e
    ·exact e
    ·exact absurd (hb2.2 e) h
   rw [<-hq]
   simp only [r82_9,SS,reduceIte,qQ,e7,wq]
   refine ⟨by decide,j,_,_,by omega,⟨by omega,rfl,?_,?_,?_,?_,?_⟩,.refl⟩<;>simp only [UU,qQ,reduceIte, *]
theorem jbc {a n:Nat} {c d:Option Nat} (ha:a≠0) (hn:n<8) (hb:a^n<4294967296) (ha':a<4294967296):Rt 36 [fr a c 1 d,.int .i64 (n:Int)] [] (.tup [fr (a^n) s2 1 s2,.bool true]) []:=by
 have d1:decide ((n:Int)< -64)=false:=decide_eq_false (by omega)
 have d2:decide (64<(n:Int))=false:=decide_eq_false (by omega)
 have d3:decide ((n:Int)<0)=false:=decide_eq_false (by omega)
 have hne:a^n≠0:=Nat.ne_of_gt (yW (by omega))
 have tc:=zed (x:=a) (y:=1) (c:=c) (d:=d) ha ha' (by decide) (by decide)
 rw [yY,qE,qE] at tc
 have tp:=iPow (c:=s2) ha hn hb ha'
 have t1:=iPow (a:=1) (c:=s2) (by decide) hn (by rw [Nat.one_pow];decide) (by decide)
 rw [Nat.one_pow] at t1
 have tl:=zrh (x:=a^n) (y:=1) (c:=s2) (d:=s2) hne hb (by decide) (by decide)
 rw [yY,qE,qE] at tl
 refine oF o36 ?_
 simp only [c36,r36_0,r36_1,SS,reduceCtorEq,reduceIte,qZ,qQ,qX]
 refine zaa tc ?_
 simp only [zaj,zad,qU,qD,SS,reduceIte,qZ,qQ,qX]
 simp only [r36_2,↓ziz,↓qcf,SS,fC,reduceIte,qQ,d1,d2,d3]
 simp only [r36_4,SS,reduceIte,qZ,qQ,qX]
 refine ⟨rfl,?_⟩
 simp only [r36_5,SS,fC,reduceIte,qQ,d3]
 simp only [r36_7,SS,reduceIte,qZ,qQ,qX]
 refine zaa tp ?_
 simp only [zaj,zad,qU,qD,SS,reduceIte,qZ,qQ,qX,qJ,qK]
 simp only [r36_8,SS,reduceIte,qZ,qQ,qX]
 refine zaa t1 ?_
 simp only [zaj,zad,qU,qD,SS,reduceIte,qZ,qQ,qX,qJ,qK]
 simp only [r36_9,SS,reduceIte,qZ,qQ,qX]
 refine zaa tl ?_
 simp only [zaj,zad,qU,qD,SS,reduceIte,qZ,qQ,qX]
 have hld:ldSz Tryz.prog 42=some (true,4):=by kernel_rfl
 refine ⟨.inl trivial,.tup [fr (a^n) s2 1 s2,.bool true],?_,.drop _ _ rfl (by intro i cs h;omega)⟩
 simp only [resA,xP,yI,zew,hld,UU,qQ,reduceIte,qui,quj,need]
 rfl
abbrev zi:AV:= .agg [.bool false,.vec [] 0 (some 0)]
abbrev zf (y:Nat) (d:Option Nat):AV:= .agg [.bool false,.vec [] 0 (some 0),.bool false,.vec [.int .u32 (y:Int)] 1 d]
theorem qnv {y:Nat} {c d:Option Nat} (hy:y≠0) (hy':y<4294967296):
  Rt 196 [.vec [] 0 c,.vec [.int .u32 y] 1 d] [] (.vec [.int .u32 (y:Nat)] 1 (some 2)) []:=by
 refine oF o196 ?_
 simp only [c196,r196_0,SS,reduceCtorEq]
 refine W_un zhb 1 (zfc ?_)
 simp only [l196_0,r196_1,SS,fC,reduceCtorEq,reduceIte,qQ,decide_false,qI,n1,xS]
 simp only [r196_6,SS,reduceCtorEq,reduceIte,qQ]
 refine zaa (quf c) ?_
 simp only [SS,reduceIte,qQ]
 refine zaa (zni y d hy') ?_
 simp only [SS,reduceIte,qQ]
 refine zai (fun q E H=>∃a b:Nat,b=q/\H=[]/\(a≠0\/b≠0)/\a<4294967296/\b<4294967296/\Nat.gcd a b=y/\E 7= .int .u64 (a:Int)/\E 8= .int .u64 (b:Int)) (n:=y)
  ⟨0,y,rfl,rfl,.inr hy,by decide,hy',Nat.gcd_zero_left y,by simp only [UU,qQ,reduceIte];rfl,by simp only [UU,qQ,reduceIte]⟩ ?_
 rintro q E H ⟨a,b,rfl,rfl,ha,ha',hb',hg,e7,e8⟩
 refine wM ?_
 rcases yX b with rfl | hb
 ·have d1:decide (((0:Nat):Int)≠0)=false:=by simp
  have ha0:a≠0:=by omega
  simp only [l196_1,r196_7,SS,fC,reduceCtorEq,reduceIte,qQ,e8,d1]
  simp only [r196_9,SS,reduceIte,qQ,e7]
  refine zaa (zex a ha0 ha') ?_
  simp only [SS,reduceIte,qQ]
  rw [yL] at hg
  rw [<-hg]
  exact ⟨.inl trivial,_,rfl,.keep _ _⟩
 ·have d1:decide ((b:Int)≠0)=true:=by simp;omega
  have et:Int.tmod (a:Int) (b:Int)=((a%b:Nat):Int):=rfl
  have hlt:=xV a hb
  simp only [l196_1,r196_7,r196_8,SS,fC,reduceCtorEq,reduceIte,qQ,e7,e8,d1,et]
  refine ⟨by omega,rfl,a%b,_,_,hlt,⟨b,a%b,rfl,rfl,.inl (by omega),hb',by omega,?_,?_,?_⟩,.refl⟩
  ·rw [<-hg,xL a b];exact (Nat.gcd_rec b a).symm ▸ (xL _ _)
  all_goals simp only [UU,qQ,reduceIte, *]
theorem jbd {y:Nat} {d:Option Nat} (hy:y≠0) (hy':y<4294967296):Rt 146 [zi,pz y d] [] (pz y s2) []:=by
 refine oF o146 ?_
 simp only [c146,r146_0,SS,reduceCtorEq,reduceIte,qZ,qQ]
 simp only [r146_1,SS,fC,reduceIte,qZ,qQ,qX]
 refine zaa (qcb (some 0)) ?_
 simp only [SS,fC,reduceIte,qZ,qQ,qX]
 refine zaa (zil y d hy) ?_
 simp only [SS,reduceIte,qQ]
 refine zaa (qnv hy hy') ?_
 simp only [SS,reduceIte,qQ]
 refine zaa (zjn _ _ _) ?_
 simp only [SS,reduceIte,qZ,qQ,qX]
 refine ⟨rfl,?_⟩
 exact ⟨.inl trivial,_,rfl,.drop _ _ rfl (by intro i cs h;omega)⟩
theorem zyx {y:Nat} {d:Option Nat} (hy:y≠0) (hy':y<4294967296):Rt 83 [zi,pz y d] [] (zf 1 s2) []:=by
 have t1:=jbd (d:=d) hy hy'
 have t2:=qnq false y (some 0) s2 hy hy'
 have t3:=zrg (c:=d) (d:=s2) hy hy' (Nat.dvd_refl y) hy
 rw [Nat.div_self (by omega)] at t3
 refine oF o83 ?_
 simp only [c83,r83_0,SS,reduceCtorEq,reduceIte,qZ,qQ]
 simp only [r83_1,SS,reduceIte,qZ,qQ,qX]
 refine zaa t1 ?_
 simp only [SS,reduceIte,qZ,qQ,qX]
 simp only [r83_2,SS,reduceIte,qZ,qQ,qX]
 refine zaa (znj y d hy hy') ?_
 simp only [SS,fC,reduceIte,qQ,decide_false,qI]
 simp only [r83_4,SS,reduceIte,qZ,qQ,qX]
 refine zaa t2 ?_
 simp only [SS,reduceIte,qZ,qQ,qX,qJ,qK]
 simp only [r83_5,SS,reduceIte,qZ,qQ,qX]
 refine zaa t3 ?_
 simp only [SS,reduceIte,qZ,qQ,qX,n1,qJ,qK]
 simp only [r83_6,SS,reduceIte,qZ,qQ,qX]
 exact ⟨.inl trivial,_,rfl,.drop _ _ rfl (by intro i cs h;omega)⟩
theorem zwq {y:Nat} {d:Option Nat} (hy:y≠0) (hy':y<4294967296):Rt 106 [zf y d] [] (zf 1 s2) []:=by
 have t1:=zyx (d:=d) hy hy'
 refine oF o106 ?_
 simp only [c106,r106_0,SS,reduceCtorEq]
 simp only [r106_1,SS,reduceIte,qZ,qQ,qX]
 refine zaa (znj y d hy hy') ?_
 simp only [SS,fC,reduceIte,qQ,decide_false,xJ]
 simp only [r106_3,SS,reduceIte,qZ,qQ,qX]
 refine zaa t1 ?_
 simp only [SS,reduceIte,qZ,qQ,qX,n1]
 exact ⟨.inl trivial,_,rfl,.drop _ _ rfl (by intro i cs h;omega)⟩
theorem zwr {y:Nat} {d:Option Nat} (hy:y≠0) (hy':y<4294967296):Rt 50 [zf y d] [] (zf 1 s2) []:=by
 have t1:=zwq (d:=d) hy hy'
 refine oF o50 ?_
 simp only [c50,r50_0,SS,reduceCtorEq]
 simp only [r50_1,SS,reduceIte,qZ,qQ,qX]
 refine zaa t1 ?_
 simp only [SS,reduceIte,qZ,qQ,qX,n1]
 exact ⟨.inl trivial,_,rfl,.drop _ _ rfl (by intro i cs h;omega)⟩
abbrev zf2 (y:Nat) (d:Option Nat) (u:Nat) (e:Option Nat) (v:Nat) (f:Option Nat):List AV:=
 [.bool false,.vec [] 0 (some 0),.bool false,.vec [.int .u32 (y:Int)] 1 d,.bool false,.vec [.int .u32 (u:Int)] 1 e,.bool false,.vec [.int .u32 (v:Int)] 1 f]
set_option maxHeartbeats 1000000 in
theorem qgz {v:Nat} {d e f k:Option Nat} (hv:v≠0) (hv':v<4294967296):Rt 148 [.vec (zf2 1 d 1 e v f) 2 k] [] (zf 1 s2) []:=by
 have t1:=zwr (y:=1) (d:=d) (by decide) (by decide)
 have t2:=zed (x:=1) (y:=v) (c:=e) (d:=f) (by decide) (by decide) hv hv'
 rw [Nat.gcd_one_left,qE,qE] at t2
 have m1:Rt 52 [pz 1 s2,zi] [] zi []:=jax false false 1 s2 (some 0) (by decide) (by decide)
 have m2:Rt 52 [pz 1 s2,pz 1 s2] [] (pz 1 s2) []:=mulP (c:=s2) (d:=s2) (x:=1) (y:=1) (by decide) (by decide) (by decide) (by decide) (by decide)
 have m3:Rt 52 [zi,pz 1 s2] [] zi []:=jaw false false 1 (some 0) s2 (by decide) (by decide)
 have m4:Rt 52 [pz 1 s2,pz v s2] [] (pz v s2) []:=by have:=mulP (c:=s2) (d:=s2) (x:=1) (y:=v) (by decide) (by decide) hv hv' (by omega);rwa [xH] at this
 have t3:=zyx (d:=s2) hv hv'
 refine oF o148 ?_
 simp only [c148,r148_0,SS,reduceCtorEq]
 simp only [r148_1,SS]
 refine zaa znk ?_
 simp only [SS]
 refine zaa znk ?_
 simp only [SS,reduceIte,qZ,qQ,qX,n1]
 simp only [r148_2,SS,reduceCtorEq,reduceIte,qQ,n2]
 refine W_un zhb 3 (zfc ?_)
 simp only [l148_0,r148_3,r148_4,SS,fC,reduceCtorEq,reduceIte,qZ,qQ,qX,decide_true,qI,xC,n1,n2,tn0,le0]
 simp only [r148_5,SS,reduceIte,qZ,qQ,qX]
 refine zaa t1 ?_
 simp only [SS,reduceIte,qZ,qQ,qX,n1]
 simp only [r148_6,SS,reduceIte,qZ,qQ,qX]
 refine zaa m1 ?_
 simp only [SS,reduceIte,qZ,qQ,qX]
 refine zaa m2 ?_
 simp only [SS,reduceIte,qZ,qQ,qX,n1]
 simp only [r148_7,SS,reduceIte,qQ,yU,wi1]
 refine ⟨rfl,zfc ?_⟩
 simp only [SS,fC,reduceCtorEq,reduceIte,qZ,qQ,qX,decide_true,xM,xC,n1,n2,tn1,lt12]
 refine zaa t2 ?_
 simp only [SS,reduceIte,qZ,qQ,qX,n1]
 refine zaa m3 ?_
 simp only [SS,reduceIte,qZ,qQ,qX]
 refine zaa m4 ?_
 simp only [SS,reduceIte,qZ,qQ,qX,yU,wi2]
 refine ⟨rfl,zfc ?_⟩
 simp only [SS,fC,reduceCtorEq,reduceIte,qZ,qQ,qX,decide_false,qI,xM,n1,n2]
 simp only [r148_8,SS,reduceIte,qZ,qQ,qX]
 refine zaa t3 ?_
 simp only [SS,reduceIte,qZ,qQ,qX,n1]
 exact ⟨.inl trivial,_,rfl,.drop _ _ rfl (by intro i cs h;omega)⟩
theorem jbe {u:Nat} {d e f:Option Nat} (hu:u≠0) (hu':u<4294967296):Rt 85 [zf 1 d,fr u e 1 f] [] (.tup [zf 1 s2,.bool true]) []:=by
 have t1:=zed (x:=u) (y:=1) (c:=e) (d:=f) hu hu' (by decide) (by decide)
 rw [yY,qE,qE] at t1
 have t2:=qgt (c:=s2) (d:=s2) (y:=1) hu hu'
 have t3:=qgz (v:=u) (d:=d) (e:=s2) (f:=s2) (k:=some 2) hu hu'
 refine oF o85 ?_
 simp only [c85,r85_0,SS,reduceCtorEq,reduceIte,qZ,qQ]
 simp only [r85_1,SS,reduceIte,qZ,qQ,qX,n1]
 refine zaa t1 ?_
 simp only [SS,reduceIte,qZ,qQ,qX,n1]
 simp only [r85_2,SS,reduceIte,qZ,qQ,qX]
 refine zaa t2 ?_
 simp only [SS,fC,reduceIte,qQ,decide_false,xJ]
 simp only [r85_4,SS,reduceIte,qZ,qQ,qX,xC]
 refine zha (id:=4) (cs:=zf2 1 d 1 s2 u s2) (d:=2) (args0:=[.sl 0 0 2 4 (some 2)]) t3 rfl rfl rfl ?_ rfl rfl rfl
 simp only [zaj,zad,qU,qD,SS,reduceIte,qZ,qQ,qX,n1]
 exact ⟨.inl trivial,_,rfl,.drop _ _ rfl (by intro i cs h;omega)⟩
theorem qcl {u:Nat} {d e f:Option Nat} (hu:u≠0) (hu':u<4294967296):Rt 38 [zf 1 d,fr u e 1 f] [] (zf 1 s2) []:=by
 have t1:=jbe (d:=d) (e:=e) (f:=f) hu hu'
 refine oF o38 ?_
 simp only [c38,r38_0,SS,reduceCtorEq,reduceIte,qZ,qQ]
 simp only [r38_1,SS,reduceIte,qZ,qQ,qX,n1]
 refine zaa t1 ?_
 simp only [SS,reduceIte,qZ,qQ,qX,n1,qJ,qK]
 simp only [r38_2,SS,reduceIte,qZ,qQ,qX]
 exact ⟨.inl trivial,_,rfl,.drop _ _ rfl (by intro i cs h;omega)⟩
theorem qul:Rt 37 [.int .i64 0] [] (zf 1 s2) []:=by
 have t0:Rt 84 [zi] [] (zf 1 s2) []:=by
  refine oF o84 ?_
  simp only [c84,r84_0,SS,reduceCtorEq]
  simp only [r84_1,SS,reduceIte,qZ,qQ,qX]
  refine zaa (qcc false (some 0)) ?_
  simp only [SS]
  refine zaa znk ?_
  simp only [SS,reduceIte,qZ,qQ,qX,n1]
  exact ⟨.inl trivial,_,rfl,.drop _ _ rfl (by intro i cs h;omega)⟩
 refine oF o37 ?_
 simp only [c37,r37_0,SS,reduceCtorEq]
 simp only [r37_1,SS,reduceCtorEq,reduceIte,qQ]
 refine zaa qyo ?_
 simp only [SS,reduceIte,qQ]
 refine zaa t0 ?_
 simp only [SS,reduceIte,qZ,qQ,qX,n1]
 exact ⟨.inl trivial,_,rfl,.drop _ _ rfl (by intro i cs h;omega)⟩
open Go.Limb
theorem wu32 (x:Nat):IntKind.u32.wrap (x:Int)=((x%4294967296:Nat):Int):=by
 simp [IntKind.wrap,IntKind.bits,IntKind.signed]
theorem wu64 (x:Nat):IntKind.u64.wrap (x:Int)=((x%18446744073709551616:Nat):Int):=by
 simp [IntKind.wrap,IntKind.bits,IntKind.signed]
theorem zgg {x:Nat} (h:x<18446744073709551616):IntKind.u64.wrap (x:Int)=(x:Int):=by
 rw [wu64,xQ h]
theorem qnw {x:Nat} (h:x<4294967296):IntKind.u32.wrap (x:Int)=(x:Int):=by
 rw [wu32,xQ h]
theorem qum (x:Nat):Int.fdiv (x:Int) (2^min (Int.toNat 32) IntKind.u64.bits)=((x/4294967296:Nat):Int):=by
 show Int.fdiv (x:Int) 4294967296=_
 rw [Int.fdiv_eq_ediv_of_nonneg _ (by decide)]
 omega
theorem qnx (s:Bool) (u:Nat) (hu:u<18446744073709551616):∃v,zat (sgnZ s u) v/\Rt 152 [.bool s,.int .u64 u] [] v []:=by
 have hd:Dig [u%4294967296,u/4294967296]:=Dig.cons (xV _ (by decide)) (Dig.cons (by omega) Dig.nil)
 have e:val [u%4294967296,u/4294967296]=u:=by simp only [Limb.val];omega
 obtain ⟨v,hv,hr⟩:=znn s [u%4294967296,u/4294967296] (some 2) hd (by simp) (by rw [e];exact zia (by omega))
 rw [e] at hv
 obtain ⟨l',c',_,_,_,rfl⟩:=hv
 refine ⟨_,⟨l',c',by assumption,by assumption,by assumption,rfl⟩,?_⟩
 refine oF o152 ?_
 simp only [c152,r152_0,r152_1,SS,reduceCtorEq,reduceIte,qZ,qQ,qX,qum,wu32,qnw (show u/4294967296<4294967296 by omega)]
 refine ⟨by omega,?_⟩
 refine zha (id:=1) (cs:=u32s [u%4294967296,u/4294967296]) (d:=2) (args0:=[.bool s,.sl 0 0 2 1 (some 2)]) hr ?_ ?_ ?_ ?_
 ·rfl
 ·rfl
 ·rfl
 simp only [zaj,zad,qU,qD,SS,reduceIte,qZ,qQ,qX]
 exact ⟨.inl trivial,_,rfl,.drop _ _ rfl (by intro i cs h;omega)⟩
theorem zey (n:Int) (h1: -9223372036854775808<=n) (h2:n<9223372036854775808):∃v,zat n v/\Rt 87 [.int .i64 n] [] v []:=by
 by_cases hn:n<0
 ·obtain ⟨k,hk⟩:∃k:Nat,n= -(k:Int):=⟨n.natAbs,by omega⟩
  subst hk
  obtain ⟨v,hv,hr⟩:=qnx true k (by omega)
  have e:sgnZ true k= -(k:Int):=rfl
  rw [e] at hv
  obtain ⟨l',c',_,_,_,rfl⟩:=hv
  refine ⟨_,⟨l',c',by assumption,by assumption,by assumption,rfl⟩,?_⟩
  have w1:IntKind.u64.wrap (-(k:Int))=((18446744073709551616-k:Nat):Int):=by
   simp [IntKind.wrap,IntKind.bits,IntKind.signed];omega
  have w2:IntKind.u64.wrap (0-((18446744073709551616-k:Nat):Int))=(k:Nat):=by
   simp [IntKind.wrap,IntKind.bits,IntKind.signed];omega
  refine oF o87 ?_
  simp only [c87,r87_0,r87_1,SS,reduceCtorEq,reduceIte,qQ]
  refine ⟨fun _=>?_,fun h=>absurd hn h⟩
  simp only [r87_2,SS,reduceCtorEq,reduceIte,qQ,w1,w2]
  refine zaa hr ?_
  simp only [SS,reduceIte,qZ,qQ,qX]
  exact ⟨.inl trivial,_,rfl,.drop _ _ rfl (by intro i cs h;omega)⟩
 ·obtain ⟨k,rfl⟩:∃k:Nat,n=(k:Int):=⟨n.toNat,by omega⟩
  obtain ⟨v,hv,hr⟩:=qnx false k (by omega)
  have e:sgnZ false k=(k:Int):=rfl
  rw [e] at hv
  obtain ⟨l',c',_,_,_,rfl⟩:=hv
  refine ⟨_,⟨l',c',by assumption,by assumption,by assumption,rfl⟩,?_⟩
  refine oF o87 ?_
  simp only [c87,r87_0,r87_1,SS,reduceCtorEq,reduceIte,qQ]
  refine ⟨fun h=>absurd h hn,fun _=>?_⟩
  simp only [r87_3,SS,reduceCtorEq,reduceIte,qQ,zgg (show k<18446744073709551616 by omega)]
  refine zaa hr ?_
  simp only [SS,reduceIte,qZ,qQ,qX]
  exact ⟨.inl trivial,_,rfl,.drop _ _ rfl (by intro i cs h;omega)⟩
theorem zcmp (m n:List Nat) (c d:Option Nat) (hm:m.length<16777216) (hn:n.length<16777216):Rt 88 [.vec (u32s m) m.length c,.vec (u32s n) n.length d] [] (.int .i64 (cmpL m n)) []:=by
 refine oF o88 ?_
 simp only [c88,r88_0,r88_1,SS,reduceCtorEq,reduceIte,qQ,ne_eq,Int.ofNat_inj]
 refine ⟨fun h=>?_,fun h=>?_⟩
 ·simp only [r88_2,SS,reduceCtorEq,reduceIte,qQ]
  refine ⟨fun h2=>?_,fun h2=>?_⟩
  ·have e:cmpL m n= -1:=by unfold cmpL;rw [if_neg h,if_pos (by omega)]
   rw [e]
   simp only [r88_3,SS]
   exact ⟨.inl trivial,_,rfl,.drop _ _ rfl (by intro i cs h;omega)⟩
  ·have e:cmpL m n=1:=by unfold cmpL;rw [if_neg h,if_neg (by omega)]
   rw [e]
   simp only [r88_4,SS]
   exact ⟨.inl trivial,_,rfl,.drop _ _ rfl (by intro i cs h;omega)⟩
 ·have h:m.length=n.length:=by simpa using h
  have e:cmpL m n=cmpN m n m.length:=by unfold cmpL;rw [if_pos h]
  rw [e]
  simp only [r88_5,SS,reduceCtorEq,reduceIte,qQ]
  refine zai (fun k E H=>k<=m.length/\cmpN m n k=cmpN m n m.length/\E 0= .vec (u32s m) m.length c/\E 1= .vec (u32s n) n.length d/\E 5= .int .i64 ((k:Int)-1)/\H=[]) (n:=m.length) ⟨by omega,rfl,?_,?_,?_,rfl⟩ ?_
  ·simp only [UU,qQ]
  ·simp only [UU,qQ]
  ·simp only [UU,qQ,reduceIte]
   rw [w64 (by omega) (by omega)]
  rintro k E H ⟨hk,ht,h0,h1,h5,rfl⟩
  refine wM ?_
  simp only [l88_0,r88_6,SS,reduceCtorEq,reduceIte,qQ,h5]
  refine ⟨fun hge=>?_,fun hlt=>?_⟩
  ·obtain ⟨k,rfl⟩:∃j,k=j+1:=⟨k-1,by omega⟩
   have e5:((k+1:Nat):Int)-1=(k:Nat):=by omega
   rw [e5] at h5
   have g1:=zcj m k (by omega) AV.junk
   have g2:=zcj n k (by omega) AV.junk
   simp only [cmpN] at ht
   simp only [r88_7,SS,fC,reduceCtorEq,reduceIte,qQ,e5,h0,h1,h5,qY,g1,g2,zbj]
   refine ⟨⟨by omega,by omega⟩,by omega,⟨by omega,by omega⟩,by omega,rfl,fun hne=>?_,fun heq=>?_⟩
   ·have hne:m.getD k 0≠n.getD k 0:=by omega
    rw [if_neg hne] at ht
    simp only [r88_8,SS,fC,reduceCtorEq,reduceIte,qQ,h0,h1,h5,qY,g1,g2,zbj]
    refine ⟨⟨by omega,by omega⟩,by omega,⟨by omega,by omega⟩,by omega,rfl,fun hl=>?_,fun hl=>?_⟩
    ·rw [if_pos (by omega)] at ht
     rw [<-ht]
     simp only [r88_9,SS]
     exact ⟨.inl trivial,_,rfl,.drop _ _ rfl (by intro i cs h;omega)⟩
    ·rw [if_neg (by omega)] at ht
     rw [<-ht]
     simp only [r88_10,SS]
     exact ⟨.inl trivial,_,rfl,.drop _ _ rfl (by intro i cs h;omega)⟩
   ·have heq:m.getD k 0=n.getD k 0:=by omega
    rw [if_pos heq] at ht
    simp only [r88_11,SS,reduceIte,qQ,h5]
    refine ⟨k,_,_,by omega,⟨by omega,ht,?_,?_,?_,rfl⟩,.refl⟩
    ·simp only [UU,qQ, *]
    ·simp only [UU,qQ, *]
    ·simp only [UU,qQ,reduceIte]
     rw [w64 (by omega) (by omega)]
  ·have hk0:k=0:=by omega
   subst hk0
   rw [<-ht]
   simp only [r88_12,SS]
   exact ⟨.inl trivial,_,rfl,.drop _ _ rfl (by intro i cs h;omega)⟩
theorem zCmp {x y:Int} {a b:AV} (ha:zat x a) (hb:zat y b):Rt 121 [a,b] [] (.int .i64 (if x<y then -1 else if x=y then 0 else 1)) []:=by
 have s1:=ztv ha
 have s2:=ztv hb
 obtain ⟨l,c,hc,hl,hv,rfl⟩:=ha
 obtain ⟨r,d,hd,hlr,hw,rfl⟩:=hb
 obtain ⟨c1,t1⟩:=zlu l c (by omega)
 obtain ⟨c2,t2⟩:=zlu r d (by omega)
 have l1:(zbc l).length<=l.length:=by rw [zhd];exact zhz _ _
 have l2:(zbc r).length<=r.length:=by rw [zhd];exact zhz _ _
 have t3:=zcmp (zbc l) (zbc r) c1 c2 (by omega) (by omega)
 rw [zfr (zbi hc.1) (zbi hd.1),zci,zci,hv,hw] at t3
 refine oF o121 ?_
 simp only [c121,r121_0,r121_1,SS,reduceCtorEq,reduceIte,qZ,qQ,qX]
 refine zaa s1 ?_
 simp only [SS,reduceIte,qZ,qQ,qX]
 refine zaa s2 ?_
 simp only [SS,reduceIte,qQ]
 refine ⟨rfl,?_⟩
 simp only [r121_2,SS,reduceIte,qQ]
 refine ⟨fun hne=>?_,fun heq=>?_⟩
 ·simp only [r121_3,SS,reduceIte,qQ]
  refine ⟨fun hl=>?_,fun hl=>?_⟩
  ·rw [if_pos (by
    rcases qA x 0 with h | h | h<;>rcases qA y 0 with h' | h' | h'<;>
     simp [qR,xK,h,h'] at hl<;>omega)]
   simp only [r121_4,SS]
   exact ⟨.inl trivial,_,rfl,.drop _ _ rfl (by intro i cs h;omega)⟩
  ·rw [if_neg (by
    rcases qA x 0 with h | h | h<;>rcases qA y 0 with h' | h' | h'<;>
     simp [qR,xK,h,h'] at hl hne<;>omega),if_neg (by intro e;rw [e] at hne;exact hne rfl)]
   simp only [r121_5,SS]
   exact ⟨.inl trivial,_,rfl,.drop _ _ rfl (by intro i cs h;omega)⟩
 ·have heq:x.sign=y.sign:=by simpa using heq
  simp only [r121_6,SS,fC,reduceIte,qZ,qQ,qX]
  refine zaa t1 ?_
  simp only [SS,fC,reduceIte,qZ,qQ,qX]
  refine zaa t2 ?_
  simp only [SS,reduceIte,qQ]
  refine zaa t3 ?_
  have e:IntKind.i64.wrap (x.sign*sgn x.natAbs y.natAbs)=(if x<y then -1 else if x=y then 0 else 1):=by
   have e1:x.sign*sgn x.natAbs y.natAbs=(if x<y then -1 else if x=y then 0 else 1):=by
    unfold sgn
    rcases qA x 0 with h | h | h<;>rcases qA y 0 with h' | h' | h'<;>
     simp [qR,xK,h,h'] at heq ⊢ <;> (repeat' split)<;>omega
   rw [e1]
   split
   ·rfl
   ·split<;>rfl
  simp only [SS,reduceIte,qQ,e]
  refine ⟨rfl,?_⟩
  exact ⟨.inl trivial,_,rfl,.drop _ _ rfl (by intro i cs h;omega)⟩
def zws (B:Heap) (sz n:Nat) (cs:List AV) (a:AV) (H:Heap):Prop:=
 (n=0/\cs=[]/\a= .vec [] 0 (some 0)/\∃j,H=B++List.replicate j none)\/
 (0<n/\cs.length=n*sz/\∃j,a= .sl (B.length+j) 0 n sz none/\H=B++(List.replicate j none++[some cs]))
theorem zrl (j:Nat) (x:Option (List AV)) (r:Heap) (hx:x=none):List.replicate j (none:Option (List AV))++x::r=List.replicate (j+1) none++r:=by
 subst hx
 rw [List.replicate_succ',List.append_assoc];rfl
theorem zno {B:Heap} {sz n bytes:Nat} {cs xs:List AV} {a:AV} {H:Heap} (h:zws B sz n cs a H) (hx:xs.length=sz) (hs:AV.scalL xs=true) (hb:4*(n+1)*bytes<=281474976710656) (hn:n+1<4611686018427387904):
  ∃e rd H4 H5,(∀n0,zbf n0 (H.length+1) (H++[some xs]) sz bytes a (.sl H.length 0 1 sz (some 1))=some (.sl (H.length+1) 0 (n+1) sz none,e,rd))/\zad e (H++[some xs]++[none])=H4/\getB H4 (H.length+1)=some (cs++xs)/\
   (∀(Γ:Glob) (n0:Nat) (E:Env),n0<=B.length->Weak Γ n0 E H4 E H5)/\zws B sz (n+1) (cs++xs) (.sl (H.length+1) 0 (n+1) sz none) H5:=by
 have hg:getB (H++[some xs]) H.length=some xs:=by
  simp [getB]
 have b1:4*(n+1)*bytes<=2^48:=hb
 have b2:n+1<2^62:=hn
 have hxs:(xs.drop 0).take (1*sz)=xs:=by rw [xO,xH,qW (by omega)]
 have hel:zde (H++[some xs]) sz 1 (.sl H.length 0 1 sz (some 1))=some (xs,[H.length]):=by
  simp only [zde,hg,need,qG,xZ,xH,hx,and_self,if_true]
  rw [xO,qW (by omega)]
 rcases h with ⟨rfl,rfl,rfl,j,rfl⟩ | ⟨h0,hl,j,rfl,rfl⟩
 ·refine ⟨[((B++List.replicate j none).length+1,some xs)],[(B++List.replicate j none).length],_,B++(List.replicate (j+1) none++[some xs]),fun n0=>?_,rfl,?_,fun Γ n0 E hn0=>?_,?_⟩
  ·simp only [zbf,lenA,xR,hel]
   have b1':4*(0+1)*bytes<=2^48:=hb
   simp only [need,zJ,if_false,yO,yE,b1',b2,and_self,if_true,yG,yC]
  ·simp only [zad]
   have:B++List.replicate j none++[some xs]++[none]=(B++List.replicate j none)++[some xs,none]:=by simp
   rw [this,qL _ _ (by omega),xI]
   unfold getB
   rw [qB (by omega),xI]
   rfl
  ·have e1:zad [((B++List.replicate j none).length+1,some xs)] (B++List.replicate j none++[some xs]++[none])=(B++List.replicate j none)++[some xs,some xs]:=by
    simp only [zad]
    have:B++List.replicate j none++[some xs]++[none]=(B++List.replicate j none)++[some xs,none]:=by simp
    rw [this,qL _ _ (by omega),xI]
    rfl
   rw [e1]
   have e2:B++(List.replicate (j+1) none++[some xs])=(B++List.replicate j none)++[none,some xs]:=by
    rw [<-zrl j none _ rfl];simp
   rw [e2]
   refine ztq (by simp) (fun i=>?_)
   rcases qT i (B++List.replicate j (none:Option (List AV))).length with hi | hi
   ·left
    rw [qS hi,qS hi]
   ·rw [qB hi,qB hi]
    have:n0<=i:=by simp at hi;omega
    generalize i-(B++List.replicate j (none:Option (List AV))).length=k
    match k with
    | 0=>exact .inr ⟨this,rfl⟩
    | k+1=>exact .inl rfl
  ·refine .inr ⟨by omega,by simp;omega,j+1,?_,rfl⟩
   simp [Nat.add_assoc]
 ·have hj:getB (B++(List.replicate j none++[some cs])++[some xs]) (B.length+j)=some cs:=by
   have:B++(List.replicate j none++[some cs])++[some xs]=(B++List.replicate j none)++(some cs::[some xs]):=by simp
   rw [this]
   simp [getB]
  have hlen:(B++(List.replicate j none++[some cs])).length=B.length+j+1:=by simp;omega
  refine ⟨[(B.length+j,none),(B.length+j+1+1,some (cs++xs))],[B.length+j,B.length+j+1],_,B++(List.replicate (j+2) none++[some (cs++xs)]),fun n0=>?_,rfl,?_,fun Γ n0 E hn0=>?_,?_⟩
  ·simp only [zbf,lenA,xR,hel,hj]
   have e1:¬((none:Option Nat)=some n):=by simp
   have e2:B.length+j≠B.length+j+1+1:=by omega
   rw [hlen]
   simp only [need,zJ,if_false,hl,qG,b1,b2,and_self,if_true,e1,yE,hs,e2,ne_eq,not_false_eq_true]
   rw [qW (by omega)]
  ·simp only [zad]
   have:B++(List.replicate j none++[some cs])++[some xs]++[none]=(B++List.replicate j none)++[some cs,some xs,none]:=by simp
   rw [this,hlen,qL _ _ (by simp),qL _ _ (by simp;omega)]
   have k1:B.length+j-(B++List.replicate j (none:Option (List AV))).length=0:=by simp
   have k2:B.length+j+1+1-(B++List.replicate j (none:Option (List AV))).length=2:=by simp;omega
   rw [k1,k2]
   unfold getB
   rw [qB (by simp;omega),k2]
   rfl
  ·have e1:zad [(B.length+j,none),(B.length+j+1+1,some (cs++xs))] (B++(List.replicate j none++[some cs])++[some xs]++[none])=(B++List.replicate j none)++[none,some xs,some (cs++xs)]:=by
    simp only [zad]
    have:B++(List.replicate j none++[some cs])++[some xs]++[none]=(B++List.replicate j none)++[some cs,some xs,none]:=by simp
    rw [this,qL _ _ (by simp),qL _ _ (by simp;omega)]
    have k1:B.length+j-(B++List.replicate j (none:Option (List AV))).length=0:=by simp
    have k2:B.length+j+1+1-(B++List.replicate j (none:Option (List AV))).length=2:=by simp;omega
    rw [k1,k2]
    rfl
   rw [e1]
   have e2:B++(List.replicate (j+2) none++[some (cs++xs)])=(B++List.replicate j none)++[none,none,some (cs++xs)]:=by
    rw [<-zrl (j+1) none _ rfl,<-zrl j none _ rfl];simp
   rw [e2]
   refine ztq (by simp) (fun i=>?_)
   rcases qT i (B++List.replicate j (none:Option (List AV))).length with hi | hi
   ·left
    rw [qS hi,qS hi]
   ·rw [qB hi,qB hi]
    have:n0<=i:=by simp at hi;omega
    generalize i-(B++List.replicate j (none:Option (List AV))).length=k
    match k with
    | 0=>exact .inl rfl
    | 1=>exact .inr ⟨this,rfl⟩
    | k+2=>exact .inl rfl
  ·refine .inr ⟨by omega,by rw [List.length_append,hl,hx,Nat.add_mul,xH],j+2,?_,rfl⟩
   rw [hlen]
   rfl
theorem zwt {l:List Nat} {i:Nat} (h:l.length<=i):l.getD i 0=0:=by
 rw [qV,yD h];rfl
theorem zcu {α:Type} (H:List α) (x:α):(H++[x]).length=H.length+1:=by simp
theorem qny {x y:Nat} (hx:x<4294967296) (hy:y<=4294967296):IntKind.u32.wrap (IntKind.u64.wrap ((x:Int)-(y:Int)))=(((x+8589934592-y)%4294967296:Nat):Int):=by
 simp [IntKind.wrap,IntKind.bits,IntKind.signed];omega
theorem zsum (m n:List Nat) (c d:Option Nat) (hm:m.length<1048576) (hn:n.length<1048576) (dm:Dig m) (dn:Dig n):
  ∃c',Rt 208 [.vec (u32s m) m.length c,.vec (u32s n) n.length d] [] (.vec (u32s (sumL m n (max m.length n.length) 0 0 [])) (sumL m n (max m.length n.length) 0 0 []).length c') []:=by
 refine ⟨none,?_⟩
 refine oF o208 ?_
 generalize hfin:sumL m n (max m.length n.length) 0 0 []=fin
 simp only [c208,r208_0,r208_1,r208_2,r208_3,SS,reduceCtorEq]
 refine zai (fun k E H=>∃i cy out a,k+i=max m.length n.length/\out.length=i/\cy<=1/\sumL m n k i cy out=fin/\E 0= .vec (u32s m) m.length c/\E 1= .vec (u32s n) n.length d/\
  E 5=a/\E 6= .int .u64 (cy:Nat)/\E 7= .int .i64 (i:Nat)/\zws [] 1 i (u32s out) a H) (n:=max m.length n.length) ⟨0,0,[],_,by omega,rfl,by omega,hfin,?_,?_,rfl,?_,?_,.inl ⟨rfl,rfl,?_,0,rfl⟩⟩ ?_
 ·simp only [UU,qQ]
 ·simp only [UU,qQ]
 ·simp only [UU,qQ,reduceIte];rfl
 ·simp only [UU,qQ,reduceIte];rfl
 ·simp only [UU,qQ,reduceIte]
 rintro k E H ⟨i,cy,out,a,hki,hol,hcy,hf,h0,h1,h5,h6,h7,hO⟩
 have hx:∃t,decide ((i:Int)<(m.length:Nat))=t:=⟨_,rfl⟩
 have bm:=dm.getD i
 have bn:=dn.getD i
 cases k with
 | zero=>
  refine wM ?_
  have d1:decide ((i:Int)<(m.length:Nat))=false:=decide_eq_false (by omega)
  have d2:decide ((i:Int)<(n.length:Nat))=false:=decide_eq_false (by omega)
  simp only [l208_0,r208_4,SS,fC,reduceCtorEq,reduceIte,qQ,h0,h1,h7,d1,d2]
  simp only [sumL] at hf
  obtain ⟨e,rd,H4,H5,hap,hH4,hg,hw,hO'⟩:=zno (bytes:=4) (xs:=[.int .u32 ((cy%4294967296:Nat):Int)]) hO rfl rfl (by omega) (by omega)
  simp only [r208_12,SS,reduceIte,qQ,qX,h5,h6,wu32,zcu,hap]
  refine ⟨.inl trivial,_,rfl,?_⟩
  have e1:u32s out++[.int .u32 ((cy%4294967296:Nat):Int)]=u32s fin:=by rw [<-hf];simp [u32s]
  rw [e1] at hg
  have hfl:fin.length=i+1:=by rw [<-hf];simp [hol]
  rw [hfl]
  refine zrj ?_ hfl.symm
  rw [hH4]
  exact hg
 | succ k=>
  have step9:∀E':Env,E' 0= .vec (u32s m) m.length c->E' 1= .vec (u32s n) n.length d->E' 5=a->E' 6= .int .u64 ((cy+m.getD i 0+n.getD i 0:Nat):Int)->E' 7= .int .i64 (i:Nat)->
    Wg 0 54 (.seq (.reg r208_9 none) (.reg r208_10 none)) E' H (fun x E'' H''=>x= .normal/\E'' 0= .vec (u32s m) m.length c/\E'' 1= .vec (u32s n) n.length d/\E'' 7= .int .i64 (i:Nat)/\E'' 6= .int .u64 (((cy+m.getD i 0+n.getD i 0)/4294967296:Nat):Int)/\
     ∃H5,(∀E3,Weak G 0 E3 H'' E3 H5)/\zws [] 1 (i+1) (u32s (out++[(cy+m.getD i 0+n.getD i 0)%4294967296])) (E'' 5) H5):=by
   intro E' g0 g1 g5 g6 g7
   obtain ⟨e,rd,H4,H5,hap,hH4,hg,hw,hO'⟩:=zno (bytes:=4) (xs:=[.int .u32 (((cy+m.getD i 0+n.getD i 0)%4294967296:Nat):Int)]) hO rfl rfl (by omega) (by omega)
   refine wM ?_
   simp only [r208_9,SS,reduceIte,qQ,qX,g5,g6,wu32,zcu,hap]
   simp only [r208_10,SS,reduceCtorEq,reduceIte,qQ,qum,g0,g1,g7,g6]
   refine ⟨by omega,?_⟩
   rw [hH4]
   refine ⟨H5,fun E3=>hw _ _ _ (by simp),?_⟩
   have e1:u32s out++[.int .u32 (((cy+m.getD i 0+n.getD i 0)%4294967296:Nat):Int)]=u32s (out++[(cy+m.getD i 0+n.getD i 0)%4294967296]):=by simp [u32s]
   rw [e1] at hO'
   exact hO'
  have st1:∀E':Env,E' 0= .vec (u32s m) m.length c->E' 1= .vec (u32s n) n.length d->E' 5=a->E' 6= .int .u64 (cy:Nat)->E' 7= .int .i64 (i:Nat)->
    Wg 0 54 (.seq (.reg r208_5 none) (.cond (.t 23) (.reg r208_6 none) .skip)) E' H (fun x E'' H''=>x= .normal/\H''=H/\E'' 0= .vec (u32s m) m.length c/\E'' 1= .vec (u32s n) n.length d/\E'' 5=a/\E'' 6= .int .u64 ((cy+m.getD i 0:Nat):Int)/\E'' 7= .int .i64 (i:Nat)):=by
   intro E' g0 g1 g5 g6 g7
   refine wM ?_
   simp only [r208_5,SS,reduceCtorEq,reduceIte,qQ,g0,g7]
   refine ⟨fun hl=>?_,fun hl=>?_⟩
   ·have g:=zcj m i (by omega) AV.junk
    have w1:IntKind.u64.wrap ((cy:Int)+((m.getD i 0:Nat):Int))=((cy+m.getD i 0:Nat):Int):=by rw [<-qO];exact zgg (by omega)
    simp only [r208_6,SS,fC,reduceCtorEq,reduceIte,qQ,g0,g1,g5,g6,g7,qY,g,zbj,zgg (show m.getD i 0<18446744073709551616 by omega),w1]
    exact ⟨⟨by omega,hl⟩,by omega⟩
   ·simp only [g1,g5,g6,zwt (show m.length<=i by omega),xA,and_self]
  have st2:∀E':Env,E' 0= .vec (u32s m) m.length c->E' 1= .vec (u32s n) n.length d->E' 5=a->E' 6= .int .u64 ((cy+m.getD i 0:Nat):Int)->E' 7= .int .i64 (i:Nat)->
    Wg 0 54 (.seq (.reg r208_7 none) (.cond (.t 34) (.reg r208_8 none) .skip)) E' H (fun x E'' H''=>x= .normal/\H''=H/\E'' 0= .vec (u32s m) m.length c/\E'' 1= .vec (u32s n) n.length d/\E'' 5=a/\E'' 6= .int .u64 ((cy+m.getD i 0+n.getD i 0:Nat):Int)/\E'' 7= .int .i64 (i:Nat)):=by
   intro E' g0 g1 g5 g6 g7
   refine wM ?_
   simp only [r208_7,SS,reduceCtorEq,reduceIte,qQ,g1,g7]
   refine ⟨fun hl=>?_,fun hl=>?_⟩
   ·have g:=zcj n i (by omega) AV.junk
    have w1:IntKind.u64.wrap (((cy+m.getD i 0:Nat):Int)+((n.getD i 0:Nat):Int))=((cy+m.getD i 0+n.getD i 0:Nat):Int):=by rw [<-qO];exact zgg (by omega)
    simp only [r208_8,SS,fC,reduceCtorEq,reduceIte,qQ,g0,g1,g5,g6,g7,qY,g,zbj,zgg (show n.getD i 0<18446744073709551616 by omega),w1]
    exact ⟨⟨by omega,hl⟩,by omega⟩
   ·simp only [g0,g5,g6,zwt (show n.length<=i by omega),xA,and_self]
  have hor:(if decide ((i:Int)<(m.length:Nat))=true then AV.bool true else AV.bool (decide ((i:Int)<(n.length:Nat))))= .bool true:=by
   by_cases h:(i:Int)<(m.length:Nat)
   ·rw [if_pos (decide_eq_true h)]
   ·rw [if_neg (by simp at h ⊢;exact h),decide_eq_true (by omega)]
  have tail:∀E':Env,E' 0= .vec (u32s m) m.length c->E' 1= .vec (u32s n) n.length d->E' 5=a->E' 6= .int .u64 (cy:Nat)->E' 7= .int .i64 (i:Nat)->
    Wg 0 54 (.seq (.block 1 (.seq (.seq (.reg r208_5 none) (.cond (.t 23) (.reg r208_6 none) .skip)) (.seq (.seq (.reg r208_7 none) (.cond (.t 34) (.reg r208_8 none) .skip)) (.seq (.reg r208_9 none) (.reg r208_10 none))))) (.reg r208_11 none)) E' H
     (fun x E'' H''=>x= .normal/\E'' 0= .vec (u32s m) m.length c/\E'' 1= .vec (u32s n) n.length d/\E'' 7= .int .i64 ((i+1:Nat):Int)/\E'' 6= .int .u64 (((cy+m.getD i 0+n.getD i 0)/4294967296:Nat):Int)/\
     ∃H5,(∀E3,Weak G 0 E3 H'' E3 H5)/\zws [] 1 (i+1) (u32s (out++[(cy+m.getD i 0+n.getD i 0)%4294967296])) (E'' 5) H5):=by
   intro E' g0 g1 g5 g6 g7
   refine zlr (zna (zlr ((st1 E' g0 g1 g5 g6 g7).mono ?_)))
   rintro x E1 H1 ⟨rfl,rfl,a0,a1,a5,a6,a7⟩
   refine zlr ((st2 E1 a0 a1 a5 a6 a7).mono ?_)
   rintro x E2 H2 ⟨rfl,rfl,b0,b1,b5,b6,b7⟩
   refine (step9 E2 b0 b1 b5 b6 b7).mono ?_
   rintro x E3 H3 ⟨rfl,c0,c1,c7,c6,H5,hw,hO'⟩
   refine wM ?_
   have w1:=wS1 i (by omega)
   simp only [r208_11,SS,reduceCtorEq,reduceIte,qQ,c0,c1,c7,c6,w1]
   exact ⟨H5,hw,hO'⟩
  simp only [l208_0]
  refine wW ?_
  simp only [r208_4,SS,fC,reduceCtorEq,reduceIte,qQ,h0,h1,h7]
  refine ⟨fun hnm=>⟨fun hn=>?_,fun hnn=>absurd hnn (by omega)⟩,fun hm=>?_⟩
  all_goals
   refine (tail _ (by simp only [UU,qQ,h0]) (by simp only [UU,qQ,h1]) (by simp only [UU,qQ,h5]) (by simp only [UU,qQ,h6]) (by simp only [UU,qQ,h7])).mono ?_
   rintro x E3 H3 ⟨rfl,c0,c1,c7,c6,H5,hw,hO'⟩
   refine ⟨k,E3,H5,by omega,⟨i+1,_,_,_,by omega,by simp [hol],?_,hf,c0,c1,rfl,c6,c7,hO'⟩,hw E3⟩
   omega
theorem zja (m n:List Nat) (c d:Option Nat) (hm:m.length<1048576) (hn:n.length<=m.length) (dm:Dig m) (dn:Dig n):
  ∃c',Rt 209 [.vec (u32s m) m.length c,.vec (u32s n) n.length d] [] (.vec (u32s (difL m n m.length 0 0 [])) (difL m n m.length 0 0 []).length c') []:=by
 have hlen:∀k i b out,(difL m n k i b out).length=k+out.length:=by
  intro k
  induction k with
  | zero=>intro i b out;simp [difL]
  | succ k ih=>intro i b out;simp only [difL];rw [ih];simp;omega
 refine ⟨if m.length=0 then some 0 else none,?_⟩
 refine oF o209 ?_
 generalize hfin:difL m n m.length 0 0 []=fin
 have hfl:fin.length=m.length:=by rw [<-hfin,hlen];simp
 simp only [c209,r209_0,r209_1,r209_2,r209_3,SS,reduceCtorEq]
 refine zai (fun k E H=>∃i b out a,k+i=m.length/\out.length=i/\b<=1/\difL m n k i b out=fin/\E 0= .vec (u32s m) m.length c/\E 1= .vec (u32s n) n.length d/\
  E 5=a/\E 6= .int .u64 (b:Nat)/\E 7= .int .i64 (i:Nat)/\zws [] 1 i (u32s out) a H) (n:=m.length) ⟨0,0,[],_,by omega,rfl,by omega,hfin,?_,?_,rfl,?_,?_,.inl ⟨rfl,rfl,?_,0,rfl⟩⟩ ?_
 ·simp only [UU,qQ]
 ·simp only [UU,qQ]
 ·simp only [UU,qQ,reduceIte];rfl
 ·simp only [UU,qQ,reduceIte];rfl
 ·simp only [UU,qQ,reduceIte]
 rintro k E H ⟨i,b,out,a,hki,hol,hb,hf,h0,h1,h5,h6,h7,hO⟩
 have bm:=dm.getD i
 have bn:=dn.getD i
 cases k with
 | zero=>
  refine wM ?_
  have d1:decide ((i:Int)<(m.length:Nat))=false:=decide_eq_false (by omega)
  have hf:out=fin:=hf
  subst hf
  simp only [l209_0,r209_4,SS,fC,reduceCtorEq,reduceIte,qQ,h0,h7,d1]
  simp only [r209_13,SS,reduceIte,qQ,h5]
  refine ⟨.inl trivial,_,rfl,?_⟩
  rcases hO with ⟨rfl,h9,rfl,j,rfl⟩ | ⟨hi,hl,j,rfl,rfl⟩
  ·have:m.length=0:=by omega
   have:out=[]:=List.length_eq_zero_iff.1 hol
   subst this
   rw [if_pos (by omega)]
   exact .drop _ _ rfl (by intro i cs h;omega)
  ·rw [if_neg (by omega),hol]
   refine zrj ?_ hol.symm
   simp [getB]
 | succ k=>
  simp only [difL] at hf
  have st6:∀E':Env,E' 0= .vec (u32s m) m.length c->E' 1= .vec (u32s n) n.length d->E' 5=a->E' 8= .int .u64 (b:Nat)->E' 7= .int .i64 (i:Nat)->
    Wg 0 46 (.seq (.reg r209_6 none) (.cond (.t 19) (.reg r209_7 none) .skip)) E' H (fun x E'' H''=>x= .normal/\H''=H/\E'' 0= .vec (u32s m) m.length c/\E'' 1= .vec (u32s n) n.length d/\E'' 5=a/\E'' 8= .int .u64 ((b+n.getD i 0:Nat):Int)/\E'' 7= .int .i64 (i:Nat)):=by
   intro E' g0 g1 g5 g8 g7
   refine wM ?_
   simp only [r209_6,SS,reduceCtorEq,reduceIte,qQ,g1,g7]
   refine ⟨fun hl=>?_,fun hl=>?_⟩
   ·have g:=zcj n i (by omega) AV.junk
    have w1:IntKind.u64.wrap ((b:Int)+((n.getD i 0:Nat):Int))=((b+n.getD i 0:Nat):Int):=by rw [<-qO];exact zgg (by omega)
    simp only [r209_7,SS,fC,reduceCtorEq,reduceIte,qQ,g0,g1,g5,g8,g7,qY,g,zbj,zgg (show n.getD i 0<18446744073709551616 by omega),w1]
    exact ⟨⟨by omega,hl⟩,by omega⟩
   ·simp only [g0,g5,g8,zwt (show n.length<=i by omega),xA,and_self]
  have hi:i<m.length:=by omega
  have gm:=zcj m i hi AV.junk
  have wm:IntKind.u64.wrap ((m.getD i 0:Nat):Int)=((m.getD i 0:Nat):Int):=zgg (by omega)
  have wd:IntKind.u32.wrap (IntKind.u64.wrap (((m.getD i 0:Nat):Int)-((b+n.getD i 0:Nat):Int)))=(((m.getD i 0+8589934592-(b+n.getD i 0))%4294967296:Nat):Int):=by
   exact qny (by omega) (by omega)
  obtain ⟨e,rd,H4,H5,hap,hH4,hg,hw,hO'⟩:=zno (bytes:=4) (xs:=[.int .u32 (((m.getD i 0+8589934592-(b+n.getD i 0))%4294967296:Nat):Int)]) hO rfl rfl (by omega) (by omega)
  have e1:u32s out++[.int .u32 (((m.getD i 0+8589934592-(b+n.getD i 0))%4294967296:Nat):Int)]=u32s (out++[(m.getD i 0+8589934592-(b+n.getD i 0))%4294967296]):=by simp [u32s]
  rw [e1] at hO'
  have w1:=wS1 i (by omega)
  simp only [l209_0]
  refine wW ?_
  simp only [r209_4,SS,reduceCtorEq,reduceIte,qQ,h0,h7]
  refine ⟨fun _=>?_,fun h=>absurd h (by omega)⟩
  refine zlr (zna (wW ?_))
  simp only [r209_5,SS,reduceIte,qQ,h6]
  refine zlr ((st6 _ (by simp only [UU,qQ,h0]) (by simp only [UU,qQ,h1]) (by simp only [UU,qQ,h5]) (by simp only [UU,qQ,reduceIte]) (by simp only [UU,qQ,h7])).mono ?_)
  rintro x E2 H2 ⟨rfl,rfl,b0,b1,b5,b8,b7⟩
  refine wM ?_
  simp only [r209_8,SS,fC,reduceCtorEq,reduceIte,qQ,qX,b0,b5,b7,b8,qY,gm,zbj,wm,wd,zcu,hap]
  refine ⟨⟨by omega,by omega⟩,by omega,?_⟩
  simp only [r209_9,SS]
  simp only [r209_10,SS,fC,reduceCtorEq,reduceIte,qQ,b0,b7,b8,qY,gm,zbj,wm]
  refine ⟨⟨by omega,by omega⟩,by omega,fun hlt=>?_,fun hlt=>?_⟩
  ·have eb:brw (m.getD i 0) (b+n.getD i 0)=1:=by unfold brw;rw [if_pos (by omega)]
   rw [eb] at hf
   simp only [r209_11,SS]
   refine wM ?_
   simp only [r209_12,SS,reduceIte,qQ,b7,w1]
   rw [hH4]
   refine ⟨k,_,H5,by omega,⟨i+1,1,_,_,by omega,by simp [hol],by omega,hf,?_,?_,rfl,?_,?_,?_⟩,hw _ _ _ (by simp)⟩<;>simp only [UU,qQ,reduceIte,b0,b1]
   ·rfl
   ·exact hO'
  ·have eb:brw (m.getD i 0) (b+n.getD i 0)=0:=by unfold brw;rw [if_neg (by omega)]
   rw [eb] at hf
   refine wM ?_
   simp only [r209_12,SS,reduceIte,qQ,b7,w1]
   rw [hH4]
   refine ⟨k,_,H5,by omega,⟨i+1,0,_,_,by omega,by simp [hol],by omega,hf,?_,?_,rfl,?_,?_,?_⟩,hw _ _ _ (by simp)⟩<;>simp only [UU,qQ,reduceIte,b0,b1]
   ·rfl
   ·exact hO'
theorem zjq (l:List Nat):(zbc l).length<=l.length:=by rw [zhd];exact zhz _ _
theorem zat.closed {z:Int} {a:AV} (h:zat z a):a.closed=true:=by
 obtain ⟨l,c,_,_,_,rfl⟩:=h;rfl
theorem zat.fits {z:Int} {a:AV} (h:zat z a):z.natAbs<BIG:=by
 obtain ⟨l,c,hc,hl,hv,rfl⟩:=h
 rw [<-hv];exact zeo hc.1 hl
theorem zAdd {x y:Int} {a b:AV} (ha:zat x a) (hb:zat y b) (hf:(x+y).natAbs<BIG):∃v,zat (x+y) v/\Rt 190 [a,b] [] v []:=by
 obtain ⟨l,c,hc,hl,hv,rfl⟩:=ha
 obtain ⟨r,d,hd,hlr,hw,rfl⟩:=hb
 obtain ⟨c1,t1⟩:=zlu l c (by omega)
 obtain ⟨c2,t2⟩:=zlu r d (by omega)
 have l1:=zjq l
 have l2:=zjq r
 have k1:=zbi hc.1
 have k2:=zbi hd.1
 have v1:=(zci l).trans hv
 have v2:=(zci r).trans hw
 have t3:=zcmp (zbc l) (zbc r) c1 c2 (by omega) (by omega)
 rw [zfr k1 k2,v1,v2] at t3
 by_cases hs:decide (x<0)=decide (y<0)
 ·obtain ⟨c3,t4⟩:=zsum (zbc l) (zbc r) c1 c2 (by omega) (by omega) k1.1 k2.1
  obtain ⟨s1,s2,s3⟩:=qgw (zbc l) (zbc r) k1.1 k2.1 (max (zbc l).length (zbc r).length) 0 0 [] (by omega) rfl Dig.nil (by omega) (by omega) rfl
  rw [v1,v2] at s1
  have hx:x.natAbs+y.natAbs=(x+y).natAbs:=by
   rcases qA x 0 with h | h | h<;>rcases qA y 0 with h' | h' | h'<;>simp at hs<;>omega
  obtain ⟨v,hv1,t5⟩:=znn (decide (x<0)) _ c3 s2 (by rw [s3];omega) (by rw [s1,hx];exact hf)
  have e:sgnZ (decide (x<0)) (Limb.val (sumL (zbc l) (zbc r) (max (zbc l).length (zbc r).length) 0 0 []))=x+y:=by
   rw [s1];unfold sgnZ;simp only [decide_eq_true_eq]
   simp at hs
   split<;>omega
  rw [e] at hv1
  obtain ⟨l',c',_,_,_,rfl⟩:=hv1
  refine ⟨_,⟨l',c',by assumption,by assumption,by assumption,rfl⟩,?_⟩
  refine oF o190 ?_
  simp only [c190,r190_0,r190_1,SS,fC,reduceCtorEq,reduceIte,qZ,qQ,qX]
  refine zaa t1 ?_
  simp only [SS,fC,reduceIte,qZ,qQ,qX]
  refine zaa t2 ?_
  simp only [SS,reduceIte,qQ]
  refine ⟨rfl,?_⟩
  simp only [r190_2,SS,fC,reduceIte,qZ,qQ,qX,hs,beq_self_eq_true]
  simp only [r190_3,SS,fC,reduceIte,qZ,qQ,qX]
  refine zaa t4 ?_
  rw [hs] at t5
  simp only [SS,reduceIte,qQ]
  refine zaa t5 ?_
  simp only [SS,reduceIte,qZ,qQ,qX]
  refine ⟨rfl,?_⟩
  exact ⟨.inl trivial,_,rfl,.drop _ _ rfl (by intro i cs h;omega)⟩
 ·have hs':(decide (x<0) == decide (y<0))=false:=by simpa using hs
  by_cases hcmp:y.natAbs<=x.natAbs
  ·have hsg:decide ((0:Int)<=sgn x.natAbs y.natAbs)=true:=by
    unfold sgn
    rw [if_neg (by omega)]
    split<;>rfl
   have hlen:(zbc r).length<=(zbc l).length:=by
    rcases qT (zbc l).length (zbc r).length with h | h
    ·exfalso
     have:=zfr k1 k2
     unfold cmpL at this
     rw [if_neg (by omega),if_pos h,v1,v2] at this
     rw [<-this] at hsg
     simp at hsg
    ·exact h
   obtain ⟨c3,t4⟩:=zja (zbc l) (zbc r) c1 c2 (by omega) hlen k1.1 k2.1
   obtain ⟨s1,s2,s3⟩:=znl (zbc l) (zbc r) k1.1 k2.1 hlen (by omega) (zbc l).length 0 0 [] (by omega) rfl Dig.nil (by omega) rfl
   rw [v1,v2] at s1
   obtain ⟨v,hv1,t5⟩:=znn (decide (x<0)) _ c3 s2 (by rw [s3];omega) (zeo s2 (by rw [s3];omega))
   have e:sgnZ (decide (x<0)) (Limb.val (difL (zbc l) (zbc r) (zbc l).length 0 0 []))=x+y:=by
    unfold sgnZ;simp only [decide_eq_true_eq]
    simp at hs
    split<;>omega
   rw [e] at hv1
   obtain ⟨l',c',_,_,_,rfl⟩:=hv1
   refine ⟨_,⟨l',c',by assumption,by assumption,by assumption,rfl⟩,?_⟩
   refine oF o190 ?_
   simp only [c190,r190_0,r190_1,SS,fC,reduceCtorEq,reduceIte,qZ,qQ,qX]
   refine zaa t1 ?_
   simp only [SS,fC,reduceIte,qZ,qQ,qX]
   refine zaa t2 ?_
   simp only [SS,reduceIte,qQ]
   refine ⟨rfl,?_⟩
   simp only [r190_2,SS,fC,reduceIte,qZ,qQ,qX,hs']
   simp only [r190_4,SS,reduceIte,qQ]
   refine zaa t3 ?_
   simp only [SS,fC,reduceIte,qQ,hsg]
   simp only [r190_5,SS,fC,reduceIte,qZ,qQ,qX]
   refine zaa t4 ?_
   simp only [SS,reduceIte,qQ]
   refine zaa t5 ?_
   simp only [SS,reduceIte,qZ,qQ,qX]
   refine ⟨rfl,?_⟩
   exact ⟨.inl trivial,_,rfl,.drop _ _ rfl (by intro i cs h;omega)⟩
  ·have hsg:decide ((0:Int)<=sgn x.natAbs y.natAbs)=false:=by
    unfold sgn
    rw [if_pos (by omega)]
    rfl
   have hlen:(zbc l).length<=(zbc r).length:=by
    rcases qT (zbc r).length (zbc l).length with h | h
    ·exfalso
     have:=zfr k1 k2
     unfold cmpL at this
     rw [if_neg (by omega),if_neg (by omega),v1,v2] at this
     rw [<-this] at hsg
     simp at hsg
    ·exact h
   obtain ⟨c3,t4⟩:=zja (zbc r) (zbc l) c2 c1 (by omega) hlen k2.1 k1.1
   obtain ⟨s1,s2,s3⟩:=znl (zbc r) (zbc l) k2.1 k1.1 hlen (by omega) (zbc r).length 0 0 [] (by omega) rfl Dig.nil (by omega) rfl
   rw [v1,v2] at s1
   obtain ⟨v,hv1,t5⟩:=znn (decide (y<0)) _ c3 s2 (by rw [s3];omega) (zeo s2 (by rw [s3];omega))
   have e:sgnZ (decide (y<0)) (Limb.val (difL (zbc r) (zbc l) (zbc r).length 0 0 []))=x+y:=by
    unfold sgnZ;simp only [decide_eq_true_eq]
    simp at hs
    split<;>omega
   rw [e] at hv1
   obtain ⟨l',c',_,_,_,rfl⟩:=hv1
   refine ⟨_,⟨l',c',by assumption,by assumption,by assumption,rfl⟩,?_⟩
   refine oF o190 ?_
   simp only [c190,r190_0,r190_1,SS,fC,reduceCtorEq,reduceIte,qZ,qQ,qX]
   refine zaa t1 ?_
   simp only [SS,fC,reduceIte,qZ,qQ,qX]
   refine zaa t2 ?_
   simp only [SS,reduceIte,qQ]
   refine ⟨rfl,?_⟩
   simp only [r190_2,SS,fC,reduceIte,qZ,qQ,qX,hs']
   simp only [r190_4,SS,reduceIte,qQ]
   refine zaa t3 ?_
   simp only [SS,fC,reduceIte,qQ,hsg]
   simp only [r190_6,SS,fC,reduceIte,qZ,qQ,qX]
   refine zaa t4 ?_
   simp only [SS,reduceIte,qQ]
   refine zaa t5 ?_
   simp only [SS,reduceIte,qZ,qQ,qX]
   refine ⟨rfl,?_⟩
   exact ⟨.inl trivial,_,rfl,.drop _ _ rfl (by intro i cs h;omega)⟩
theorem zSub {x y:Int} {a b:AV} (ha:zat x a) (hb:zat y b) (hf:(x-y).natAbs<BIG):∃v,zat (x-y) v/\Rt 163 [a,b] [] v []:=by
 obtain ⟨n,hn,t1⟩:=zNeg hb
 obtain ⟨v,hv,t2⟩:=zAdd ha hn (by rwa [<-yN])
 rw [<-yN] at hv
 obtain ⟨l,c,_,_,_,rfl⟩:=ha
 obtain ⟨r,d,_,_,_,rfl⟩:=hb
 obtain ⟨l1,c1,_,_,_,rfl⟩:=hn
 obtain ⟨l',c',_,_,_,rfl⟩:=hv
 refine ⟨_,⟨l',c',by assumption,by assumption,by assumption,rfl⟩,?_⟩
 refine oF o163 ?_
 simp only [c163,r163_0,r163_1,SS,reduceCtorEq,reduceIte,qZ,qQ,qX]
 refine zaa t1 ?_
 simp only [SS,reduceIte,qQ]
 refine zaa t2 ?_
 simp only [SS,reduceIte,qZ,qQ,qX]
 refine ⟨rfl,?_⟩
 exact ⟨.inl trivial,_,rfl,.drop _ _ rfl (by intro i cs h;omega)⟩
structure MulE (m n:List Nat) (sa sb:Bool) (ca cb:Option Nat) (E:Env):Prop where
 e2:E 2= .ptr 0 0
 e3:E 3= .ptr 1 0
 e4:E 4= .ptr 2 0
 e5:E 5= .sl 3 0 (m.length+n.length) 1 (some (m.length+n.length))
 e20:E 20= .vec (u32s m) m.length ca
 e21:E 21= .int .i64 (m.length:Nat)
def mulH (m n out:List Nat) (sa sb:Bool) (ca cb:Option Nat):Heap:=
 [some [.bool sa,.vec (u32s m) m.length ca],some [.bool sb,.vec (u32s n) n.length cb],some [.bool false,.vec [] 0 (some 0)],some (u32s out)]
theorem qun (m n:List Nat) (sa sb:Bool) (ca cb:Option Nat) (i:Nat) (hi:i<m.length) (dm:Dig m) (dn:Dig n) (hm:m.length<=1100) (hn:n.length<=1100) (out0:List Nat) (ho0:out0.length=m.length+n.length) (do0:Dig out0) {E:Env} {Q:Post}
  (hE:MulE m n sa sb ca cb E) (h6:E 6= .int .i64 (i:Nat)) (h7:E 7= .int .u32 (m.getD i 0:Nat)) (h8:E 8= .int .u64 0) (h22:E 22= .int .i64 (i:Nat)) (h28:E 28= .vec (u32s n) n.length cb) (h29:E 29= .int .i64 (n.length:Nat)) (h30:E 30= .int .i64 0)
  (hQ:∀E',MulE m n sa sb ca cb E'->E' 6= .int .i64 (i:Nat)->E' 22= .int .i64 (i:Nat)->E' 8= .int .u64 ((mulR n (m.getD i 0) i n.length 0 0 out0).1:Nat)->Q (.exit 2) E' (mulH m n (mulR n (m.getD i 0) i n.length 0 0 out0).2 sa sb ca cb)):
  Wg 0 77 (.loop l164_1) E (mulH m n out0 sa sb ca cb) Q:=by
 have bx:=dm.getD i
 refine zai (fun k E H=>∃j c out,j+k=n.length/\c<4294967296/\out.length=m.length+n.length/\Dig out/\mulR n (m.getD i 0) i k j c out=mulR n (m.getD i 0) i n.length 0 0 out0/\MulE m n sa sb ca cb E/\E 6= .int .i64 (i:Nat)/\E 7= .int .u32 (m.getD i 0:Nat)/\
  E 8= .int .u64 (c:Nat)/\E 22= .int .i64 (i:Nat)/\E 28= .vec (u32s n) n.length cb/\E 29= .int .i64 (n.length:Nat)/\E 30= .int .i64 (j:Nat)/\H=mulH m n out sa sb ca cb) (n:=n.length) ⟨0,0,out0,by omega,by omega,ho0,do0,rfl,hE,h6,h7,h8,h22,h28,h29,h30,rfl⟩ ?_
 rintro k E H ⟨j,c,out,hjk,hc,ho,hd,hr,hE,h6,h7,h8,h22,h28,h29,h30,rfl⟩
 obtain ⟨e2,e3,e4,e5,e20,e21⟩:=hE
 refine wM ?_
 simp only [l164_1,r164_7,SS,reduceIte,h29,h30]
 refine ⟨fun hlt=>?_,fun hge=>?_⟩
 ·obtain ⟨k,rfl⟩:∃k',k=k'+1:=⟨k-1,by omega⟩
  have hj:j<n.length:=by omega
  have gn:=zcj n j hj AV.junk
  have go:=zcj out (i+j) (by omega) AV.junk
  have by1:=dn.getD j
  have bo:=hd.getD (i+j)
  have hxy:m.getD i 0*n.getD j 0<=4294967295*4294967295:=Nat.mul_le_mul (by omega) (by omega)
  simp only [mulR] at hr
  have w1:IntKind.u64.wrap (((m.getD i 0:Nat):Int)*((n.getD j 0:Nat):Int))=((m.getD i 0*n.getD j 0:Nat):Int):=by rw [<-Int.natCast_mul];exact zgg (by omega)
  have w2:IntKind.i64.wrap ((i:Int)+(j:Int))=((i+j:Nat):Int):=by rw [<-qO];exact w64 (by omega) (by omega)
  have w3:IntKind.u64.wrap (((m.getD i 0*n.getD j 0:Nat):Int)+((out.getD (i+j) 0:Nat):Int))=((m.getD i 0*n.getD j 0+out.getD (i+j) 0:Nat):Int):=by rw [<-qO];exact zgg (by omega)
  have w4:IntKind.u64.wrap ((c:Int)+((m.getD i 0*n.getD j 0+out.getD (i+j) 0:Nat):Int))=((c+(m.getD i 0*n.getD j 0+out.getD (i+j) 0):Nat):Int):=by rw [<-qO];exact zgg (by omega)
  have w5:=wS1 j (by omega)
  simp only [r164_8,r164_9,r164_10,r164_11,r164_12,SS,fC,reduceIte,qQ,mulH,h6,h7,h8,h28,h30,e5,qY,gn,go,zbj,ho,zgg (show m.getD i 0<18446744073709551616 by omega),zgg (show n.getD j 0<18446744073709551616 by omega),
   zgg (show out.getD (i+j) 0<18446744073709551616 by omega),w1,w2,w3,w4,w5,wu32,qum,zri]
  refine ⟨⟨by omega,by omega⟩,by omega,⟨by omega,by omega⟩,by omega,⟨by omega,by omega⟩,by omega,by omega,?_⟩
  refine ⟨k,_,_,by omega,⟨j+1,_,_,by omega,?_,?_,?_,hr,⟨?_,?_,?_,?_,?_,?_⟩,?_,?_,?_,?_,?_,?_,?_,rfl⟩,.refl⟩
  ·omega
  ·simpa using ho
  ·exact hd.set (xV _ (by decide))
  all_goals simp only [UU,qQ,reduceIte, *]
 ·have hk:k=0:=by omega
  subst hk
  simp only [mulR] at hr
  rw [<-hr] at hQ
  exact hQ _ ⟨by simp only [UU,qQ, *],by simp only [UU,qQ, *],by simp only [UU,qQ, *],by simp only [UU,qQ, *],by simp only [UU,qQ, *],by simp only [UU,qQ, *]⟩ (by simp only [UU,qQ, *]) (by simp only [UU,qQ, *]) (by simp only [UU,qQ, *])
theorem qha {l:List Nat} {n:Nat} {c:Option Nat} (hn:n=l.length):frzI 0 [some (u32s l)] 2 (.sl 0 0 n 1 c)=some (.vec (u32s l) n c):=by
 have e:=zyw l 0 0 [some (u32s l)]
 rw [frzI]
 simp only [zZ,if_false,zng,need,xZ,xG,hn,zbj,qG,if_true,xO]
 rw [qW (by rw [zbj];omega),e]
 rfl
theorem qnz {l:List Nat} {n:Nat} {c:Option Nat} {s:Bool} (hn:n=l.length):([.bool s,.sl 0 0 n 1 c]:List AV).mapM (frzI 0 [some (u32s l)] 2)=some [.bool s,.vec (u32s l) n c]:=by
 rw [xP,xP,qha hn]
 rfl
theorem zep {E:Env} {H:Heap} {t id:Nat} {u v:AV} (hE:E t= .ptr id 0) (hb:getB H id=some [u,v]):resA Tryz.prog [.cell t 40] E H=some (.agg [u,v]):=by
 have hs:ldSz Tryz.prog 40=some (true,2):=by kernel_rfl
 simp only [resA,zew,xP,yI,hE,hb,hs]
 rfl
theorem zMul {x y:Int} {a b:AV} (ha:zat x a) (hb:zat y b) (hf:(x*y).natAbs<BIG):∃v,zat (x*y) v/\Rt 164 [a,b] [] v []:=by
 obtain ⟨m,ca,hc,hl,hv,rfl⟩:=ha
 obtain ⟨n,cb,hd,hlr,hw,rfl⟩:=hb
 have hz:val (List.replicate (m.length+n.length) 0)=0/\Dig (List.replicate (m.length+n.length) 0):=by
  constructor
  ·generalize m.length+n.length=k
   induction k with
   | zero=>rfl
   | succ k ih=>rw [List.replicate_succ,Limb.val,ih]
  ·intro z hz;simp at hz;omega
 obtain ⟨s1,s2,s3⟩:=qgx n hd.1 m 0 (List.replicate (m.length+n.length) 0) hc.1 hz.2 (by simp) (by intro t _;simp [qV,List.getElem?_replicate];split<;>rfl)
 rw [hz.1,hv,hw,yR,xH,xZ,<-Int.natAbs_mul] at s3
 rw [List.length_replicate] at s1
 obtain ⟨v,hv1,t5⟩:=znn (decide (x<0) != decide (y<0)) (mulL n m 0 (List.replicate (m.length+n.length) 0)) (some (m.length+n.length)) s2 (by rw [s1];omega) (by rw [s3];exact hf)
 have e:sgnZ (decide (x<0) != decide (y<0)) (Limb.val (mulL n m 0 (List.replicate (m.length+n.length) 0)))=x*y:=by
  rw [s3]
  unfold sgnZ
  rcases qA x 0 with h | h | h
  ·rcases qA y 0 with h' | h' | h'
   ·have:=Int.mul_pos_of_neg_of_neg h h'
    rw [decide_eq_true h,decide_eq_true h']
    simp only [bne_self_eq_false,xW,if_false]
    omega
   ·subst h';simp
   ·have:=Int.mul_neg_of_neg_of_pos h h'
    rw [decide_eq_true h,decide_eq_false (by omega)]
    simp only [Bool.bne_false,if_true]
    omega
  ·subst h;simp
  ·rcases qA y 0 with h' | h' | h'
   ·have:=Int.mul_neg_of_pos_of_neg h h'
    rw [decide_eq_false (by omega),decide_eq_true h']
    simp only [Bool.bne_true,Bool.not_false,if_true]
    omega
   ·subst h';simp
   ·have:=Int.mul_pos h h'
    rw [decide_eq_false (by omega),decide_eq_false (by omega)]
    simp only [bne_self_eq_false,xW,if_false]
    omega
 rw [e] at hv1
 obtain ⟨l',c',_,_,_,rfl⟩:=hv1
 refine ⟨_,⟨l',c',by assumption,by assumption,by assumption,rfl⟩,?_⟩
 have w1:IntKind.i64.wrap ((m.length:Int)+(n.length:Int))=((m.length+n.length:Nat):Int):=by rw [<-qO];exact w64 (by omega) (by omega)
 refine oF o164 ?_
 simp only [c164,r164_0,r164_1,SS,fC,reduceCtorEq,reduceIte,qZ,qQ,qX,w1,qY]
 refine ⟨by omega,⟨by omega,by omega,by omega,by omega⟩,?_⟩
 simp only [r164_2,SS,fC,reduceIte,qZ,qQ,qX]
 have hrep:List.replicate (m.length+n.length) (AV.int IntKind.u32 0)=u32s (List.replicate (m.length+n.length) 0):=by simp [u32s]
 rw [hrep]
 refine zai (fun k E H=>∃i out,i+k=m.length/\out.length=m.length+n.length/\Dig out/\mulL n (m.drop i) i out=mulL n m 0 (List.replicate (m.length+n.length) 0)/\MulE m n (decide (x<0)) (decide (y<0)) ca cb E/\E 22= .int .i64 (i:Nat)/\
  H=mulH m n out (decide (x<0)) (decide (y<0)) ca cb) (n:=m.length) ⟨0,List.replicate (m.length+n.length) 0,by omega,by simp,hz.2,rfl,⟨by simp only [UU,qQ,reduceIte],by simp only [UU,qQ,reduceIte],by simp only [UU,qQ,reduceIte],by simp only [UU,qQ,reduceIte],by simp only [UU,qQ,reduceIte],by simp only [UU,qQ,reduceIte]⟩,by simp only [UU,qQ,reduceIte];rfl,rfl⟩ ?_
 rintro k E H ⟨i,out,hik,ho,hdo,hr,hE,h22,rfl⟩
 have hE':=hE
 obtain ⟨e2,e3,e4,e5,e20,e21⟩:=hE
 refine wM ?_
 simp only [l164_0,r164_3,SS,reduceCtorEq,reduceIte,e21,h22]
 refine ⟨fun hlt=>?_,fun hge=>?_⟩
 ·obtain ⟨k,rfl⟩:∃k',k=k'+1:=⟨k-1,by omega⟩
  have hi:i<m.length:=by omega
  have gm:=zcj m i hi AV.junk
  have hdrop:m.drop i=m.getD i 0::m.drop (i+1):=by
   rw [List.drop_eq_getElem_cons hi,qV,xD hi];rfl
  rw [hdrop,mulL] at hr
  have w5:=wS1 i (by omega)
  have w6:IntKind.i64.wrap ((i:Int)+(n.length:Int))=((i+n.length:Nat):Int):=by rw [<-qO];exact w64 (by omega) (by omega)
  obtain ⟨q1,q2,q3,q4,q5⟩:=ztt n hd.1 (m.getD i 0) i (hc.1.getD i) n.length 0 0 out (by decide) (by omega) (by omega) hdo
  simp only [r164_4,r164_5,r164_6,SS,fC,reduceIte,qZ,qQ,qX,e20,h22,qY,gm,zbj,mulH,e3]
  refine ⟨⟨by omega,hlt⟩,by omega,?_⟩
  refine qun m n (decide (x<0)) (decide (y<0)) ca cb i hi hc.1 hd.1 hl hlr out ho hdo ⟨?_,?_,?_,?_,?_,?_⟩ ?_ ?_ ?_ ?_ ?_ ?_ ?_ (fun E1 hE1 f6 f22 f8=>?rest)
  case rest=>
   have hE1':=hE1
   obtain ⟨f2,f3,f4,f5,f20,f21⟩:=hE1
   simp only [r164_13,r164_14,SS,fC,reduceCtorEq,reduceIte,qZ,qQ,qX,f3,f5,f6,f8,f22,mulH,qY,zbj,w5,w6,wu32,xQ q1,zri,q2,ho]
   refine ⟨⟨by omega,by omega⟩,by omega,?_⟩
   refine ⟨k,_,_,by omega,⟨i+1,_,by omega,?_,?_,hr,⟨?_,?_,?_,?_,?_,?_⟩,?_,rfl⟩,.refl⟩
   ·simpa using q2.trans ho
   ·exact q3.set q1
   all_goals simp only [UU,qQ,reduceIte, *]
  all_goals simp only [UU,qQ,reduceIte, *]
 ·have hk:i=m.length:=by omega
  subst hk
  rw [List.drop_length] at hr
  simp only [mulL] at hr
  simp only [r164_15,SS,fC,reduceIte,qZ,qQ,qX,e2,e3,e5,mulH]
  have hb:(!(decide (x<0) == decide (y<0)))=(decide (x<0) != decide (y<0)):=rfl
  rw [<-hr,ho] at t5
  rw [hb]
  refine zha (id:=3) (cs:=u32s out) (d:=2) (args0:=[.bool (decide (x<0) != decide (y<0)),.sl 0 0 (m.length+n.length) 1 (some (m.length+n.length))]) t5 ?_ ?_ ?_ ?_ rfl (znm _)
  ·rfl
  ·exact qnz ho.symm
  ·rfl
  simp only [zaj,zad,qU,qD,SS,reduceIte,qZ,qQ,qX,e4]
  refine ⟨.inl trivial,_,?_,.drop _ _ rfl (by intro i cs h;omega)⟩
  exact zep (id:=2) (by simp only [UU,qQ,e4]) rfl
theorem or64 {a b:Nat} (ha:a<4294967296) (hb:b<4294967296):IntKind.u64.wrap ((BitVec.ofInt IntKind.u64.bits (a:Int) ||| BitVec.ofInt IntKind.u64.bits ((b*4294967296:Nat):Int)).toNat:Int)=((a+4294967296*b:Nat):Int):=by
 have e1:(BitVec.ofInt IntKind.u64.bits (a:Int) ||| BitVec.ofInt IntKind.u64.bits ((b*4294967296:Nat):Int)).toNat=a+4294967296*b:=by
  rw [BitVec.toNat_or,BitVec.ofInt_natCast,BitVec.ofInt_natCast,BitVec.toNat_ofNat,BitVec.toNat_ofNat]
  show a%18446744073709551616 ||| b*4294967296%18446744073709551616=_
  rw [xQ (by omega),xQ (by omega),Nat.or_comm,yB b]
  have:=Nat.two_pow_add_eq_or_of_lt (i:=32) (b:=a) ha b
  rw [show (2:Nat)^32=4294967296 from rfl] at this
  rw [<-this];omega
 rw [e1]
 exact zgg (by omega)
theorem zlow (m:List Nat) (c:Option Nat) (dm:Dig m) (hm:m.length<1048576):Rt 162 [.vec (u32s m) m.length c] [] (.int .u64 (val (m.take 2):Nat)) []:=by
 refine oF o162 ?_
 simp only [c162,r162_0,r162_1,r162_2,SS,reduceCtorEq]
 refine zai (fun k E H=>∃i,i+k=min 2 m.length/\E 0= .vec (u32s m) m.length c/\E 3= .int .u64 (val (m.take i):Nat)/\E 4= .int .i64 (i:Nat)/\H=[]) (n:=min 2 m.length) ⟨0,by omega,by simp only [UU,qQ],by simp only [UU,qQ,reduceIte];rfl,by simp only [UU,qQ,reduceIte];rfl,rfl⟩ ?_
 rintro k E H ⟨i,hik,h0,h3,h4,rfl⟩
 refine wM ?_
 have bi:=dm.getD i
 have hv:val (m.take 2)=val (m.take (min 2 m.length)):=by
  rcases Nat.le_total 2 m.length with h | h
  ·rw [zX h]
  ·rw [Nat.min_eq_right h,qW h,xY]
 cases k with
 | zero=>
  have hi:i=min 2 m.length:=by omega
  rw [<-hi] at hv
  rw [hv]
  by_cases hl:i<m.length
  ·have d1:decide ((i:Int)<(m.length:Nat))=true:=decide_eq_true (by omega)
   have d2:decide ((i:Int)<2)=false:=decide_eq_false (by omega)
   simp only [l162_0,r162_3,SS,fC,reduceCtorEq,reduceIte,qQ,h0,h4,d1,d2]
   simp only [r162_6,SS,reduceIte,qQ,h3]
   exact ⟨.inl trivial,_,rfl,.drop _ _ rfl (by intro i cs h;omega)⟩
  ·have d1:decide ((i:Int)<(m.length:Nat))=false:=decide_eq_false (by omega)
   simp only [l162_0,r162_3,SS,fC,reduceCtorEq,reduceIte,qQ,h0,h4,d1]
   simp only [r162_6,SS,reduceIte,qQ,h3]
   exact ⟨.inl trivial,_,rfl,.drop _ _ rfl (by intro i cs h;omega)⟩
 | succ k=>
  have hi:i<m.length:=by omega
  have hi2:i<2:=by omega
  have d1:decide ((i:Int)<(m.length:Nat))=true:=decide_eq_true (by omega)
  have d2:decide ((i:Int)<2)=true:=decide_eq_true (by omega)
  have g:=zcj m i hi AV.junk
  have w5:=wS1 i (by omega)
  have w6:IntKind.i64.wrap (32*(i:Int))=((32*i:Nat):Int):=wQ (by omega)
  have w7:IntKind.u64.wrap ((BitVec.ofInt IntKind.u64.bits ((val (m.take i):Nat):Int) ||| BitVec.ofInt IntKind.u64.bits (IntKind.u64.wrap (((m.getD i 0:Nat):Int)*2^min (32*i) IntKind.u64.bits))).toNat:Int)=(val (m.take (i+1)):Nat):=by
   rw [zdi]
   rcases (by omega:i=0\/i=1) with rfl | rfl
   ·have e1:IntKind.u64.wrap (((m.getD 0 0:Nat):Int)*2^min (32*0) IntKind.u64.bits)=((m.getD 0 0:Nat):Int):=by
     show IntKind.u64.wrap (((m.getD 0 0:Nat):Int)*1)=_
     rw [yS];exact zgg (by omega)
    rw [e1]
    have e2:val (m.take 0)=0:=rfl
    rw [e2]
    have:=or64 (a:=m.getD 0 0) (b:=0) bi (by omega)
    rw [BitVec.or_comm]
    simpa using this
   ·have e1:IntKind.u64.wrap (((m.getD 1 0:Nat):Int)*2^min (32*1) IntKind.u64.bits)=((m.getD 1 0*4294967296:Nat):Int):=by
     show IntKind.u64.wrap (((m.getD 1 0:Nat):Int)*4294967296)=_
     rw [show ((m.getD 1 0:Nat):Int)*4294967296=((m.getD 1 0*4294967296:Nat):Int) by omega];exact zgg (by omega)
    rw [e1]
    have hlt:=zjp (dm.take 1)
    have hlen:(m.take 1).length=1:=by rw [xU];omega
    rw [hlen] at hlt
    have:=or64 (a:=val (m.take 1)) (b:=m.getD 1 0) (by omega) bi
    rw [this]
  simp only [l162_0,r162_3,SS,fC,reduceCtorEq,reduceIte,qQ,h0,h4,d1,d2]
  simp only [r162_4,r162_5,SS,fC,reduceCtorEq,reduceIte,qQ,h0,h3,h4,qY,g,zbj,w5,w6,zgg (show m.getD i 0<18446744073709551616 by omega),w7]
  refine ⟨⟨by omega,by omega⟩,by omega,by omega,?_⟩
  refine ⟨k,_,_,by omega,⟨i+1,by omega,?_,?_,?_,rfl⟩,.refl⟩<;>simp only [UU,qQ,reduceIte, *]
theorem zjb {l:List Nat} (h:zcc l) (hv:val l<18446744073709551616):l.length<=2:=by
 rcases qT 2 l.length with h1 | h1
 ·exfalso
  have h2:=zkx h.2 (by intro e;rw [e] at h1;simp at h1)
  have h3:4294967296^2<=4294967296^(l.length-1):=qH (by decide) (by omega)
  omega
 ·exact h1
theorem zrm (m n:List Nat) (c d:Option Nat) (cm:zcc m) (cn:zcc n) (hm:val m<18446744073709551616) (hn:val n<18446744073709551616) (hn0:val n≠0):
  ∃q r c1 c2,zcc q/\zcc r/\q.length<=1100/\r.length<=1100/\val q=val m/val n/\val r=val m%val n/\
   Rt 211 [.vec (u32s m) m.length c,.vec (u32s n) n.length d] [] (.tup [.vec (u32s q) q.length c1,.vec (u32s r) r.length c2]) []:=by
 have lm:=zjb cm hm
 have ln:=zjb cn hn
 have t1:=zlow m c cm.1 (by omega)
 have t2:=zlow n d cn.1 (by omega)
 rw [qW lm] at t1
 rw [qW ln] at t2
 have hq:val m/val n<18446744073709551616:=qM (qC _ _) hm
 have hr:val m%val n<18446744073709551616:=qM (Nat.mod_le _ _) hm
 obtain ⟨vq,hq1,t3⟩:=qnx false (val m/val n) hq
 obtain ⟨vr,hr1,t4⟩:=qnx false (val m%val n) hr
 obtain ⟨q,c1,q1,q2,q3,rfl⟩:=hq1
 obtain ⟨r,c2,r1,r2,r3,rfl⟩:=hr1
 refine ⟨q,r,c1,c2,q1,r1,q2,r2,q3.trans (zrk _ _),r3.trans (zrk _ _),?_⟩
 have d1:decide ((m.length:Int)<=2)=true:=decide_eq_true (by omega)
 have d2:decide ((n.length:Int)<=2)=true:=decide_eq_true (by omega)
 have w1:IntKind.u64.wrap (Int.tdiv (val m:Nat) (val n:Nat))=((val m/val n:Nat):Int):=by
  show IntKind.u64.wrap ((val m/val n:Nat):Int)=_
  exact zgg hq
 have w2:Int.tmod (val m:Nat) (val n:Nat)=((val m%val n:Nat):Int):=rfl
 refine oF o211 ?_
 simp only [c211,r211_0,r211_1,SS,fC,reduceCtorEq,reduceIte,qQ,d1,d2]
 simp only [r211_2,SS,reduceCtorEq,reduceIte,qQ]
 refine zaa t1 ?_
 simp only [SS,reduceIte,qQ]
 refine zaa t2 ?_
 simp only [SS,reduceIte,qQ]
 simp only [r211_3,SS,reduceIte,qQ,w1]
 refine ⟨by omega,?_⟩
 refine zaa t3 ?_
 simp only [SS,fC,reduceIte,qZ,qQ,qX]
 refine ⟨by omega,?_⟩
 refine zaa t4 ?_
 simp only [SS,fC,reduceIte,qZ,qQ,qX]
 refine ⟨rfl,?_⟩
 exact ⟨.inl trivial,_,rfl,.drop _ _ rfl (by intro i cs h;omega)⟩
theorem qcm {x y:Int} (hy:y≠0):x/y=(if x.natAbs%y.natAbs≠0/\x<0 then (if y<0 then sgnZ (decide (x<0) != decide (y<0)) (x.natAbs/y.natAbs)+1 else sgnZ (decide (x<0) != decide (y<0)) (x.natAbs/y.natAbs)-1) else sgnZ (decide (x<0) != decide (y<0)) (x.natAbs/y.natAbs))/\
  x%y=(if x.natAbs%y.natAbs≠0/\x<0 then sgnZ (decide (x<0)) (x.natAbs%y.natAbs)+(y.natAbs:Int) else sgnZ (decide (x<0)) (x.natAbs%y.natAbs)):=by
 have h:=Nat.div_add_mod x.natAbs y.natAbs
 have hR:=xV x.natAbs (show 0<y.natAbs by omega)
 generalize x.natAbs/y.natAbs=Q at*
 generalize x.natAbs%y.natAbs=R at*
 have h':(y.natAbs:Int)*Q+R=x.natAbs:=by exact_mod_cast h
 rcases Int.lt_or_lt_of_ne hy with hy1 | hy1
 ·rw [Int.ediv_emod_unique' hy1]
  have ey:(y.natAbs:Int)= -y:=by omega
  rw [ey] at h' ⊢
  unfold sgnZ
  rw [decide_eq_true hy1]
  by_cases hx:x<0
  ·have ex:(x.natAbs:Int)= -x:=by omega
   rw [ex] at h'
   rw [decide_eq_true hx]
   simp only [bne_self_eq_false,xW,if_false,if_true,hy1,hx,and_true]
   rw [Int.neg_mul] at h'
   by_cases h0:R=0
   ·subst h0
    simp only [ne_eq,not_true_eq_false,if_false]
    refine ⟨by omega,by omega,by omega⟩
   ·simp only [ne_eq,h0,not_false_eq_true,if_true]
    rw [Int.mul_add,yS]
    refine ⟨by omega,by omega,by omega⟩
  ·have ex:(x.natAbs:Int)=x:=by omega
   rw [ex] at h'
   rw [decide_eq_false hx]
   simp only [Bool.bne_true,Bool.not_false,if_true,hx,and_false,if_false,xW]
   rw [Int.neg_mul] at h'
   rw [yT]
   refine ⟨by omega,by omega,by omega⟩
 ·rw [Int.ediv_emod_unique hy1]
  have ey:(y.natAbs:Int)=y:=by omega
  rw [ey] at h' ⊢
  unfold sgnZ
  rw [decide_eq_false (show ¬y<0 by omega)]
  by_cases hx:x<0
  ·have ex:(x.natAbs:Int)= -x:=by omega
   rw [ex] at h'
   rw [decide_eq_true hx]
   simp only [Bool.bne_false,if_true,hx,and_true,show ¬y<0 by omega,if_false]
   by_cases h0:R=0
   ·subst h0
    simp only [ne_eq,not_true_eq_false,if_false]
    rw [yT]
    refine ⟨by omega,by omega,by omega⟩
   ·simp only [ne_eq,h0,not_false_eq_true,if_true]
    rw [Int.mul_sub,yT,yS]
    refine ⟨by omega,by omega,by omega⟩
  ·have ex:(x.natAbs:Int)=x:=by omega
   rw [ex] at h'
   rw [decide_eq_false hx]
   simp only [bne_self_eq_false,xW,if_false,hx,and_false]
   refine ⟨by omega,by omega,by omega⟩
def DivC (m n:List Nat) (c d:Option Nat):Prop:= ∃q r c1 c2,zcc q/\zcc r/\q.length<=1100/\r.length<=1100/\val q=val m/val n/\val r=val m%val n/\
   Rt 211 [.vec (u32s m) m.length c,.vec (u32s n) n.length d] [] (.tup [.vec (u32s q) q.length c1,.vec (u32s r) r.length c2]) []
theorem qhb {x y:Int} {a b:AV} (ha:zat x a) (hb:zat y b) (hy:y≠0) (hdiv:∀m n c d,zcc m->zcc n->m.length<=1100->n.length<=1100->val m=x.natAbs->val n=y.natAbs->DivC m n c d) (hf:(x/y).natAbs<BIG):
  ∃v w,zat (x/y) v/\zat (x%y) w/\Rt 198 [a,b] [] (.tup [v,w,.bool true]) []:=by
 have hb0:=hb
 obtain ⟨hq0,hr0⟩:=qcm (x:=x) hy
 obtain ⟨l,ca,hc,hl,hv,rfl⟩:=ha
 obtain ⟨n,cb,hd,hlr,hw,rfl⟩:=hb
 obtain ⟨c1,t1⟩:=zlu l ca (by omega)
 obtain ⟨c2,t2⟩:=zlu n cb (by omega)
 have l1:=zjq l
 have l2:=zjq n
 have k1:=zbi hc.1
 have k2:=zbi hd.1
 have v1:=(zci l).trans hv
 have v2:=(zci n).trans hw
 have hn0:(zbc n).length≠0:=by
  intro e
  have:=List.length_eq_zero_iff.1 e
  rw [this] at v2
  have:Limb.val []=0:=rfl
  omega
 obtain ⟨q,r,cq,cr,q1,r1,q2,r2,q3,r3,t3⟩:=hdiv (zbc l) (zbc n) c1 c2 k1 k2 (by omega) (by omega) v1 v2
 rw [v1,v2] at q3 r3
 obtain ⟨vq,hvq,t4⟩:=znn (decide (x<0) != decide (y<0)) q cq q1.1 (by omega) (zeo q1.1 q2)
 obtain ⟨vr,hvr,t5⟩:=znn (decide (x<0)) r cr r1.1 (by omega) (zeo r1.1 r2)
 rw [q3] at hvq
 rw [r3] at hvr
 have s1:=ztv hvr
 have hneg:decide ((sgnZ (decide (x<0)) (x.natAbs%y.natAbs)).sign<0)=decide (x.natAbs%y.natAbs≠0/\x<0):=by
  have:(sgnZ (decide (x<0)) (x.natAbs%y.natAbs)).sign<0↔sgnZ (decide (x<0)) (x.natAbs%y.natAbs)<0:=Int.sign_neg_iff
  rw [decide_eq_decide,this]
  unfold sgnZ
  simp only [decide_eq_true_eq]
  split<;>omega
 have hclo:vq.closed=true/\vr.closed=true:=⟨hvq.closed,hvr.closed⟩
 have hvq0:=hvq
 have hvr0:=hvr
 obtain ⟨lq,dq,iq1,iq2,iq3,rfl⟩:=hvq
 obtain ⟨lr,dr,ir1,ir2,ir3,rfl⟩:=hvr
 have hb3:(!(decide (x<0) == decide (y<0)))=(decide (x<0) != decide (y<0)):=rfl
 by_cases hcase:x.natAbs%y.natAbs≠0/\x<0
 ·rw [if_pos hcase] at hq0 hr0
  rw [decide_eq_true hcase] at hneg
  obtain ⟨vn,hvn,t6⟩:=znn false (zbc n) c2 k2.1 (by omega) (zeo k2.1 (by omega))
  have en:sgnZ false (Limb.val (zbc n))=(y.natAbs:Int):=by rw [v2];rfl
  rw [en] at hvn
  have hrf:(x%y).natAbs<BIG:=by
   have h1:=Int.emod_nonneg x hy
   have h2:=Int.emod_lt x hy
   have h3:=hb0.fits
   omega
  obtain ⟨vs,hvs,t7⟩:=zAdd hvr0 hvn (by rw [<-hr0];exact hrf)
  rw [<-hr0] at hvs
  obtain ⟨v1',hv1',t8⟩:=zey 1 (by omega) (by omega)
  have s2:=ztv hb0
  obtain ⟨ln,dn,_,_,_,rfl⟩:=hvn
  have hvs0:=hvs
  obtain ⟨ls,ds,_,_,_,rfl⟩:=hvs
  by_cases hyn:y<0
  ·rw [if_pos hyn] at hq0
   obtain ⟨vt,hvt,t9⟩:=zAdd hvq0 hv1' (by rw [<-hq0];exact hf)
   rw [<-hq0] at hvt
   have hvt0:=hvt
   obtain ⟨lt,dt,_,_,_,rfl⟩:=hvt
   obtain ⟨lo,dO,_,_,_,rfl⟩:=hv1'
   refine ⟨_,_,hvt0,hvs0,?_⟩
   have hsy:decide (y.sign<0)=true:=decide_eq_true (Int.sign_neg_iff.2 hyn)
   refine oF o198 ?_
   simp only [c198,r198_0,r198_1,SS,fC,reduceCtorEq,reduceIte,qZ,qQ,qX]
   refine zaa t1 ?_
   simp only [SS,fC,reduceIte,qZ,qQ,qX]
   refine zaa t2 ?_
   simp only [SS,reduceIte,qQ]
   refine ⟨rfl,?_⟩
   simp only [r198_2,SS,reduceIte,qQ]
   refine ⟨fun h=>absurd h (by omega),fun _=>?_⟩
   simp only [r198_4,SS,reduceIte,qQ]
   refine zaa t3 ?_
   simp only [SS,reduceIte,qQ,qJ,qK]
   simp only [r198_5,SS,fC,reduceIte,qZ,qQ,qX,hb3]
   refine zaa t4 ?_
   simp only [SS,fC,reduceIte,qZ,qQ,qX]
   refine zaa t5 ?_
   simp only [SS,reduceIte,qZ,qQ,qX]
   refine ⟨rfl,?_⟩
   simp only [r198_6,SS,reduceIte,qZ,qQ,qX]
   refine zaa s1 ?_
   simp only [SS,fC,reduceIte,qQ,hneg]
   simp only [r198_7,SS,reduceIte,qZ,qQ,qX]
   refine zaa t6 ?_
   simp only [SS,reduceIte,qQ]
   refine zaa t7 ?_
   simp only [SS,reduceIte,qZ,qQ,qX]
   refine ⟨rfl,?_⟩
   simp only [r198_8,SS,reduceIte,qZ,qQ,qX]
   refine zaa s2 ?_
   simp only [SS,fC,reduceIte,qQ,hsy]
   simp only [r198_9,SS,reduceIte,qZ,qQ,qX]
   refine zaa t8 ?_
   simp only [SS,reduceIte,qQ]
   refine zaa t9 ?_
   simp only [SS,reduceIte,qZ,qQ,qX]
   refine ⟨rfl,?_⟩
   exact ⟨.inl trivial,_,rfl,.drop _ _ rfl (by intro i cs h;omega)⟩
  ·rw [if_neg hyn] at hq0
   obtain ⟨vt,hvt,t9⟩:=zSub hvq0 hv1' (by rw [<-hq0];exact hf)
   rw [<-hq0] at hvt
   have hvt0:=hvt
   obtain ⟨lt,dt,_,_,_,rfl⟩:=hvt
   obtain ⟨lo,dO,_,_,_,rfl⟩:=hv1'
   refine ⟨_,_,hvt0,hvs0,?_⟩
   have hsy:decide (y.sign<0)=false:=decide_eq_false (fun h=>hyn (Int.sign_neg_iff.1 h))
   refine oF o198 ?_
   simp only [c198,r198_0,r198_1,SS,fC,reduceCtorEq,reduceIte,qZ,qQ,qX]
   refine zaa t1 ?_
   simp only [SS,fC,reduceIte,qZ,qQ,qX]
   refine zaa t2 ?_
   simp only [SS,reduceIte,qQ]
   refine ⟨rfl,?_⟩
   simp only [r198_2,SS,reduceIte,qQ]
   refine ⟨fun h=>absurd h (by omega),fun _=>?_⟩
   simp only [r198_4,SS,reduceIte,qQ]
   refine zaa t3 ?_
   simp only [SS,reduceIte,qQ,qJ,qK]
   simp only [r198_5,SS,fC,reduceIte,qZ,qQ,qX,hb3]
   refine zaa t4 ?_
   simp only [SS,fC,reduceIte,qZ,qQ,qX]
   refine zaa t5 ?_
   simp only [SS,reduceIte,qZ,qQ,qX]
   refine ⟨rfl,?_⟩
   simp only [r198_6,SS,reduceIte,qZ,qQ,qX]
   refine zaa s1 ?_
   simp only [SS,fC,reduceIte,qQ,hneg]
   simp only [r198_7,SS,reduceIte,qZ,qQ,qX]
   refine zaa t6 ?_
   simp only [SS,reduceIte,qQ]
   refine zaa t7 ?_
   simp only [SS,reduceIte,qZ,qQ,qX]
   refine ⟨rfl,?_⟩
   simp only [r198_8,SS,reduceIte,qZ,qQ,qX]
   refine zaa s2 ?_
   simp only [SS,fC,reduceIte,qQ,hsy]
   simp only [r198_10,SS,reduceIte,qZ,qQ,qX]
   refine zaa t8 ?_
   simp only [SS,reduceIte,qQ]
   refine zaa t9 ?_
   simp only [SS,reduceIte,qZ,qQ,qX]
   refine ⟨rfl,?_⟩
   exact ⟨.inl trivial,_,rfl,.drop _ _ rfl (by intro i cs h;omega)⟩
 ·rw [if_neg hcase] at hq0 hr0
  rw [decide_eq_false hcase] at hneg
  rw [<-hq0] at hvq0
  rw [<-hr0] at hvr0
  refine ⟨_,_,hvq0,hvr0,?_⟩
  rw [hq0,hr0]
  refine oF o198 ?_
  simp only [c198,r198_0,r198_1,SS,fC,reduceCtorEq,reduceIte,qZ,qQ,qX]
  refine zaa t1 ?_
  simp only [SS,fC,reduceIte,qZ,qQ,qX]
  refine zaa t2 ?_
  simp only [SS,reduceIte,qQ]
  refine ⟨rfl,?_⟩
  simp only [r198_2,SS,reduceIte,qQ]
  refine ⟨fun h=>absurd h (by omega),fun _=>?_⟩
  simp only [r198_4,SS,reduceIte,qQ]
  refine zaa t3 ?_
  simp only [SS,reduceIte,qQ,qJ,qK]
  simp only [r198_5,SS,fC,reduceIte,qZ,qQ,qX,hb3]
  refine zaa t4 ?_
  simp only [SS,fC,reduceIte,qZ,qQ,qX]
  refine zaa t5 ?_
  simp only [SS,reduceIte,qZ,qQ,qX]
  refine ⟨rfl,?_⟩
  simp only [r198_6,SS,reduceIte,qZ,qQ,qX]
  refine zaa s1 ?_
  simp only [SS,fC,reduceIte,qQ,hneg]
  simp only [r198_11,SS,reduceIte,qZ,qQ,qX]
  refine ⟨rfl,?_⟩
  exact ⟨.inl trivial,_,rfl,.drop _ _ rfl (by intro i cs h;omega)⟩
theorem zQuo {x y:Int} {a b:AV} (ha:zat x a) (hb:zat y b) (hy:y≠0) (hdiv:∀m n c d,zcc m->zcc n->m.length<=1100->n.length<=1100->val m=x.natAbs->val n=y.natAbs->DivC m n c d) (hf:(x/y).natAbs<BIG):
  ∃v,zat (x/y) v/\Rt 151 [a,b] [] v []:=by
 obtain ⟨v,w,hv,hw,t⟩:=qhb ha hb hy hdiv hf
 obtain ⟨l,ca,_,_,_,rfl⟩:=ha
 obtain ⟨n,cb,_,_,_,rfl⟩:=hb
 have hv0:=hv
 obtain ⟨lv,cv,_,_,_,rfl⟩:=hv
 obtain ⟨lw,cw,_,_,_,rfl⟩:=hw
 refine ⟨_,hv0,?_⟩
 refine oF o151 ?_
 simp only [c151,r151_0,r151_1,SS,reduceCtorEq,reduceIte,qZ,qQ,qX]
 refine zaa t ?_
 simp only [SS,reduceIte,qZ,qQ,qX,qJ,qK]
 simp only [r151_2,SS,reduceIte,qZ,qQ,qX]
 exact ⟨.inl trivial,_,rfl,.drop _ _ rfl (by intro i cs h;omega)⟩
def RowC:List Int->List AV->Prop
 | [],[]=>True
 | z::r,u::v::cs=>zat z (.agg [u,v])/\RowC r cs
 | _,_=>False
theorem zcv:∀{r:List Int} {cs:List AV},RowC r cs->cs.length=r.length*2
 | [],[],_=>rfl
 | _::_,_::_::_,h=>by have:=zcv h.2;simp [this];omega
 | [],_::_,h=>h.elim
 | _::_,[],h=>h.elim
 | _::_,[_],h=>h.elim
theorem zeh:∀{r:List Int} {cs:List AV},RowC r cs->∀j,j<r.length->∃u v,(cs.drop (j*2)).take 2=[u,v]/\zat (r.getD j 0) (.agg [u,v])
 | [],[],_,j,hj=>absurd hj (by simp)
 | z::r,u::v::cs,h,0,_=>⟨u,v,rfl,h.1⟩
 | z::r,u::v::cs,h,j+1,hj=>by
  obtain ⟨a,b,h1,h2⟩:=zeh h.2 j (by simpa using hj)
  refine ⟨a,b,?_,by simpa using h2⟩
  rw [show (j+1)*2=j*2+2 by omega]
  exact h1
 | [],_::_,h,_,_=>h.elim
 | _::_,[],h,_,_=>h.elim
 | _::_,[_],h,_,_=>h.elim
theorem zyy:∀{r:List Int} {cs:List AV},RowC r cs->∀j z u v,j<r.length->zat z (.agg [u,v])->RowC (r.set j z) (setL cs (j*2) [u,v])
 | [],[],_,j,_,_,_,hj,_=>absurd hj (by simp)
 | z::r,u::v::cs,h,0,y,a,b,_,hy=>⟨hy,h.2⟩
 | z::r,u::v::cs,h,j+1,y,a,b,hj,hy=>by
  have:=zyy h.2 j y a b (by simpa using hj) hy
  rw [show (j+1)*2=j*2+2 by omega]
  exact ⟨h.1,this⟩
 | [],_::_,h,_,_,_,_,_,_=>h.elim
 | _::_,[],h,_,_,_,_,_,_=>h.elim
 | _::_,[_],h,_,_,_,_,_,_=>h.elim
theorem zjr:∀{r:List Int} {cs:List AV},RowC r cs->∀z u v,zat z (.agg [u,v])->RowC (r++[z]) (cs++[u,v])
 | [],[],_,z,u,v,h=>⟨h,trivial⟩
 | _::_,_::_::_,h,z,u,v,hz=>⟨h.1,zjr h.2 z u v hz⟩
 | [],_::_,h,_,_,_,_=>h.elim
 | _::_,[],h,_,_,_,_=>h.elim
 | _::_,[_],h,_,_,_,_=>h.elim
theorem zyz:∀{r:List Int} {cs:List AV},RowC r cs->∀m d H,cs.mapM (frzI m H (d+1))=some cs:=by
 intro r cs h m d H
 refine zmc (fun a ha=>?_)
 induction r generalizing cs with
 | nil=>
  cases cs with
  | nil=>simp at ha
  | cons _ _=>exact h.elim
 | cons z r ih=>
  match cs,h with
  | u::v::cs,h=>
   obtain ⟨⟨l,c,_,_,_,e⟩,h2⟩:=h
   injection e with e
   injection e with e1 e2
   injection e2 with e2 _
   rcases List.mem_cons.1 ha with h | h
   ·rw [h,e1];rfl
   ·rcases List.mem_cons.1 h with h | h
    ·rw [h,e2];rfl
    ·exact ih h2 h
theorem zwu:∀{r:List Int} {cs:List AV},RowC r cs->yV cs=true:=by
 intro r
 induction r with
 | nil=>
  intro cs h
  cases cs with
  | nil=>rfl
  | cons _ _=>exact h.elim
 | cons z r ih=>
  intro cs h
  match cs,h with
  | u::v::cs,h=>
   obtain ⟨⟨l,c,_,_,_,e⟩,h2⟩:=h
   injection e with e
   injection e with e1 e2
   injection e2 with e2 _
   rw [e1,e2]
   show yV cs=true
   exact ih h2
theorem zjs:∀{r:List Int} {cs:List AV},RowC r cs->AV.scalL cs=true:=by
 intro r
 induction r with
 | nil=>
  intro cs h
  cases cs with
  | nil=>rfl
  | cons _ _=>exact h.elim
 | cons z r ih=>
  intro cs h
  match cs,h with
  | u::v::cs,h=>
   obtain ⟨⟨l,c,_,_,_,e⟩,h2⟩:=h
   injection e with e
   injection e with e1 e2
   injection e2 with e2 _
   rw [e1,e2]
   show AV.scalL cs=true
   exact ih h2
def zfs (r:List Int) (a:AV):Prop:= ∃cs c,a= .vec cs r.length c/\RowC r cs
def MatV (M:List (List Int)) (a:AV):Prop:= ∃rows c,a= .vec rows M.length c/\rows.length=M.length/\∀i,i<M.length->zfs (M.getD i []) (rows.getD i .junk)
def zrn (M:List (List Int)):Prop:=1<=M.length/\M.length<=16/\∀i,i<M.length->1<=(M.getD i []).length/\(M.getD i []).length<=16/\(M.getD i []).length=(M.getD 0 []).length
theorem ztw {M:List (List Int)} {a:AV} (h:MatV M a) (hs:zrn M):Rt 132 [a] [] (.tup [.int .i64 (M.length:Nat),.int .i64 ((M.getD 0 []).length:Nat),.bool true]) []:=by
 obtain ⟨rows,c,rfl,hl,hr⟩:=h
 obtain ⟨h1,h2,h3⟩:=hs
 have d1:decide ((M.length:Int)<1)=false:=decide_eq_false (by omega)
 have d2:decide ((16:Int)<(M.length:Nat))=false:=decide_eq_false (by omega)
 obtain ⟨cs0,c0,e0,r0⟩:=hr 0 (by omega)
 refine oF o132 ?_
 simp only [c132,r132_0,r132_1,SS,fC,reduceCtorEq,reduceIte,qQ,d1,d2]
 simp only [r132_3,SS,reduceCtorEq,reduceIte,qQ]
 refine zai (fun k E H=>∃i,i+k=M.length/\E 0= .vec rows M.length c/\E 15= .vec rows M.length c/\E 16= .int .i64 (M.length:Nat)/\E 17= .int .i64 (i:Nat)/\H=[]) (n:=M.length) ⟨0,by omega,by simp only [UU,qQ],by simp only [UU,qQ,reduceIte],by simp only [UU,qQ,reduceIte],by simp only [UU,qQ,reduceIte];rfl,rfl⟩ ?_
 rintro k E H ⟨i,hik,h0,h15,h16,h17,rfl⟩
 refine wM ?_
 simp only [l132_0,r132_4,SS,reduceCtorEq,reduceIte,h16,h17]
 refine ⟨fun hlt=>?_,fun hge=>?_⟩
 ·obtain ⟨k,rfl⟩:∃k',k=k'+1:=⟨k-1,by omega⟩
  obtain ⟨csi,ci,ei,ri⟩:=hr i (by omega)
  obtain ⟨g1,g2,g3⟩:=h3 i (by omega)
  have d3:decide (((M.getD i []).length:Int)<1)=false:=decide_eq_false (by omega)
  have d4:decide ((16:Int)<((M.getD i []).length:Nat))=false:=decide_eq_false (by omega)
  have d5:decide (((M.getD i []).length:Int)≠((M.getD 0 []).length:Nat))=false:=decide_eq_false (by omega)
  have w5:=wS1 i (by omega)
  simp only [r132_5,r132_6,r132_8,SS,fC,reduceCtorEq,reduceIte,qQ,h0,h15,h17,qY,Int.toNat_zero,ei,e0,hl,d3,d4,d5,w5]
  refine ⟨⟨by omega,by omega⟩,by omega,⟨by omega,by omega⟩,by omega,?_⟩
  refine ⟨k,_,_,by omega,⟨i+1,by omega,?_,?_,?_,?_,rfl⟩,.refl⟩<;>simp only [UU,qQ,reduceIte, *]
 ·simp only [r132_9,SS,fC,reduceCtorEq,reduceIte,qQ,h0,Int.toNat_zero,e0,hl]
  refine ⟨⟨by omega,by omega⟩,by omega,rfl,?_⟩
  exact ⟨.inl trivial,_,rfl,.drop _ _ rfl (by intro i cs h;omega)⟩
end Go.Proofs.YtpflahgcdgdkjaaGreatDoor
