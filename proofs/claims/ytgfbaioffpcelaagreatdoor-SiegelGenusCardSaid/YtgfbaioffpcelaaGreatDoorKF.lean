/- A part of the proof. -/
import Derived.Test.YtgfbaioffpcelaaGreatDoorKE
import Derived.Test.YtgfbaioffpcelaaGreatDoorEVB
set_option linter.all false
set_option maxRecDepth 1000000
namespace Go.Proofs.YtgfbaioffpcelaaGreatDoor
open Go Go.AL Go.Proofs Go.Count
def I3:AV:= .vec [.vec (ints [1,0,0]) 3 (some 3),.vec (ints [0,1,0]) 3 (some 3),.vec (ints [0,0,1]) 3 (some 3)] 3 (some 3)
def G3:List (List Nat):=[[1,0,0],[0,1,0],[0,0,1]]
theorem z3:endB G3 3 8 10000 [0,0,0,0,0,0,0,0] 0 [0,0,0] [0,0,0] [32,96,96,64,32,96,96,0]=true:=by kernel_rfl
theorem res3I:Rt 207 [I3,.int .i64 (8:Nat)] [] (.tup [I3,.int .i64 0]) []:=zag mem0 (by kernel_rfl)
theorem jji:Rt 151 [I3,.int .i64 (8:Nat)] [] (.vec (ints [32,96,96,64,32,96,96,0]) 8 (some 8)) []:=by
 refine zqy (g:=G3) (n:=3) (M:=8) (F:=10000) (by decide) (by decide) (by decide) (by decide) res3I rfl (λi hi=>?_) (λi hi=>?_) (λi hi=>?_) (qoj _ _ _ z3) rfl
 all_goals rcases(by omega:i=0\/i=1\/i=2)with rfl | rfl | rfl
 all_goals first | exact⟨_,rfl⟩ | rfl | (intro a ha;simp[G3]at ha;omega)
def I4:AV:= .vec [.vec (ints [1,0,0,0]) 4 (some 4),.vec (ints [0,1,0,0]) 4 (some 4),.vec (ints [0,0,1,0]) 4 (some 4),.vec (ints [0,0,0,1]) 4 (some 4)] 4 (some 4)
def G4:List (List Nat):=[[1,0,0,0],[0,1,0,0],[0,0,1,0],[0,0,0,1]]
theorem z4:endB G4 4 8 10000 [0,0,0,0,0,0,0,0] 0 [0,0,0,0] [0,0,0,0] [128,512,768,512,384,512,768,512]=true:=by kernel_rfl
theorem res4I:Rt 207 [I4,.int .i64 (8:Nat)] [] (.tup [I4,.int .i64 0]) []:=zag mem0 (by kernel_rfl)
theorem jjj:Rt 151 [I4,.int .i64 (8:Nat)] [] (.vec (ints [128,512,768,512,384,512,768,512]) 8 (some 8)) []:=by
 refine zqy (g:=G4) (n:=4) (M:=8) (F:=10000) (by decide) (by decide) (by decide) (by decide) res4I rfl (λi hi=>?_) (λi hi=>?_) (λi hi=>?_) (qoj _ _ _ z4) rfl
 all_goals rcases(by omega:i=0\/i=1\/i=2\/i=3)with rfl | rfl | rfl | rfl
 all_goals first | exact⟨_,rfl⟩ | rfl | (intro a ha;simp[G4]at ha;omega)
