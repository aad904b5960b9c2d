/- A part of the proof. -/
import Derived.Test.YtpflahgcdgdkjaaGreatDoorPD
import Derived.Test.YtpflahgcdgdkjaaGreatDoorPA
import Derived.Test.YtpflahgcdgdkjaaGreatDoorPB
import Derived.Test.YtpflahgcdgdkjaaGreatDoorPC
import Derived.Test.YtpflahgcdgdkjaaGreatDoorAL1
set_option linter.all false
set_option maxRecDepth 100000
namespace Go.Proofs.YtpflahgcdgdkjaaGreatDoor
open Nat renaming reduceEqDiff -> qQ, reduceLeDiff -> qZ, reduceAdd -> qJ, le_of_dvd -> yH
open List renaming getElem?_cons_succ -> qA, getElem?_cons_zero -> qB
open Go Go.AL Go.Proofs Go.Limb
def zfw (n d:Int) (v:AV):Prop:= ∃a1 a2 b1 b2,v= .agg [a1,a2,b1,b2]/\zat n (.agg [a1,a2])/\zat d (.agg [b1,b2])
theorem qNew {n d:Int} {a b:AV} (ha:zat n a) (hb:zat d b) (hd:0<d):∃v,zfw (numR n d) (denR n d) v/\Rt 86 [a,b] [] (.tup [v,.bool true]) []:=by
 have t1:=ztv hb
 have s1:d.sign=1:=Int.sign_eq_one_of_pos hd
 rw [s1] at t1
 have t2:=zGcd ha hb
 have hg:=zod (n:=n) hd
 have hgf:((Int.gcd n d:Nat):Int).natAbs<BIG:=by
  have h1:Int.gcd n d<=d.natAbs:=yH (by omega) (Int.gcd_dvd_natAbs_right n d)
  have:=hb.fits
  omega
 have hgi:=zbo hgf
 obtain ⟨v1,hv1,t3⟩:=qvb ha hgi (by omega)
 obtain ⟨v2,hv2,t4⟩:=qvb hb hgi (by omega)
 obtain ⟨lg,cg,_,_,_,heg⟩:=hgi
 rw [heg] at t2 t3 t4
 obtain ⟨l,ca,_,_,_,rfl⟩:=ha
 obtain ⟨m,cb,_,_,_,rfl⟩:=hb
 obtain ⟨l1,c1,_,_,_,he1⟩:=id hv1
 obtain ⟨l2,c2,_,_,_,he2⟩:=id hv2
 subst he1 he2
 refine ⟨_,⟨_,_,_,_,rfl,hv1,hv2⟩,?_⟩
 refine oF o86 ?_
 simp only [c86,r86_0,r86_1,SS,reduceCtorEq,reduceIte,qJ,qQ,qZ]
 refine zaa t1 ?_
 simp only [SS,reduceIte,qQ]
 refine ⟨fun h=>absurd h (by decide),fun _=>?_⟩
 simp only [r86_3,SS,reduceIte,qJ,qQ,qZ]
 refine zaa t1 ?_
 simp only [SS,reduceIte,qQ]
 refine ⟨fun h=>absurd h (by decide),fun _=>?_⟩
 simp only [r86_5,SS,reduceIte,qJ,qQ,qZ]
 refine zaa t2 ?_
 simp only [SS,reduceIte,qJ,qQ,qZ]
 simp only [r86_6,SS,reduceIte,qJ,qQ,qZ]
 refine zaa t3 ?_
 simp only [SS,reduceIte,qJ,qQ,qZ]
 refine zaa t4 ?_
 simp only [SS,reduceIte,qJ,qQ,qZ]
 refine ⟨rfl,?_⟩
 exact ⟨.inl trivial,_,rfl,.drop _ _ rfl (by intro i cs h;omega)⟩
theorem zif {n d:Int} {v:AV} (h:zfw n d v) (hd:0<d):∃w,zfw (numR n d) (denR n d) w/\Rt 168 [v] [] w []:=by
 obtain ⟨a1,a2,b1,b2,rfl,h1,h2⟩:=h
 obtain ⟨w,hw,t1⟩:=qNew h1 h2 hd
 obtain ⟨l1,c1,e1,e2⟩:=zam h1
 obtain ⟨l2,c2,e3,e4⟩:=zam h2
 subst e1 e2 e3 e4
 obtain ⟨w1,w2,w3,w4,rfl,k1,k2⟩:=id hw
 obtain ⟨m1,d1,f1,f2⟩:=zam k1
 obtain ⟨m2,d2,f3,f4⟩:=zam k2
 subst f1 f2 f3 f4
 refine ⟨_,hw,?_⟩
 refine oF o168 ?_
 simp only [c168,r168_0,r168_1,SS,reduceCtorEq,reduceIte,qJ,qQ,qZ]
 refine zaa t1 ?_
 simp only [SS,reduceIte,qJ,qQ,qZ,qB,qA]
 simp only [r168_2,SS,fC,reduceIte,qQ]
 simp only [r168_4,SS,reduceIte,qJ,qQ,qZ]
 exact ⟨.inl trivial,_,rfl,.drop _ _ rfl (by intro i cs h;omega)⟩
theorem qin {n d:Int} {a b:AV} (ha:zat n a) (hb:zat d b) (hd:0<d):∃v,zfw (numR n d) (denR n d) v/\Rt 128 [a,b] [] v []:=by
 obtain ⟨l,ca,q1,q2,q3,rfl⟩:=ha
 obtain ⟨m,cb,q4,q5,q6,rfl⟩:=hb
 obtain ⟨w,hw,t1⟩:=zif (v:= .agg [.bool (decide (n<0)),.vec (u32s l) l.length ca,.bool (decide (d<0)),.vec (u32s m) m.length cb]) ⟨_,_,_,_,rfl,⟨l,ca,q1,q2,q3,rfl⟩,⟨m,cb,q4,q5,q6,rfl⟩⟩ hd
 obtain ⟨w1,w2,w3,w4,rfl,k1,k2⟩:=id hw
 obtain ⟨m1,d1,f1,f2⟩:=zam k1
 obtain ⟨m2,d2,f3,f4⟩:=zam k2
 subst f1 f2 f3 f4
 refine ⟨_,hw,?_⟩
 refine oF o128 ?_
 simp only [c128,r128_0,r128_1,SS,reduceCtorEq,reduceIte,qJ,qQ,qZ]
 refine zaa t1 ?_
 simp only [SS,reduceIte,qJ,qQ,qZ]
 exact ⟨.inl trivial,_,rfl,.drop _ _ rfl (by intro i cs h;omega)⟩
theorem jbl:∃v,zfw 1 2 v/\Rt 189 [] [] v []:=by
 obtain ⟨v1,hv1,t1⟩:=zey 1 (by omega) (by omega)
 obtain ⟨v2,hv2,t2⟩:=zey 2 (by omega) (by omega)
 obtain ⟨l1,c1,_,_,_,he1⟩:=id hv1
 obtain ⟨l2,c2,_,_,_,he2⟩:=id hv2
 subst he1 he2
 refine ⟨_,⟨_,_,_,_,rfl,hv1,hv2⟩,?_⟩
 refine oF o189 ?_
 simp only [c189,r189_0,r189_1,SS,reduceCtorEq]
 refine zaa t1 ?_
 simp only [SS]
 refine zaa t2 ?_
 simp only [SS,reduceCtorEq,reduceIte,qJ,qQ,qZ]
 exact ⟨.inl trivial,_,rfl,.drop _ _ rfl (by intro i cs h;omega)⟩
theorem qov {l d:Int} {v h:AV} (hv:zfw (numR l d) (denR l d) v) (hh:zfw 1 2 h) (hd:0<d) (hf:2*(l.natAbs+d.natAbs)<BIG):
  ∃w,zfw (numR (numR l d*2+1*denR l d) (denR l d*2)) (denR (numR l d*2+1*denR l d) (denR l d*2)) w/\Rt 165 [v,h] [] w []:=by
 have hdp:=zsf (n:=l) hd
 have hnl:=qzj l d
 have hdl:=qzk l d
 obtain ⟨x,hx,t1⟩:=zif hv hdp
 rw [qvw hd,qvx hd] at hx
 obtain ⟨y,hy,t2⟩:=zif hh (by decide)
 rw [qot,qou] at hy
 obtain ⟨a1,a2,a3,a4,rfl,p1,p2⟩:=hv
 obtain ⟨b1,b2,b3,b4,rfl,p3,p4⟩:=hh
 obtain ⟨x1,x2,x3,x4,rfl,k1,k2⟩:=hx
 obtain ⟨y1,y2,y3,y4,rfl,k3,k4⟩:=hy
 obtain ⟨m1,hm1,t3⟩:=zMul k1 k4 (by omega)
 obtain ⟨m2,hm2,t4⟩:=zMul k3 k2 (by omega)
 obtain ⟨s,hs,t5⟩:=zAdd hm1 hm2 (by omega)
 obtain ⟨m3,hm3,t6⟩:=zMul k2 k4 (by omega)
 obtain ⟨w,hw,t7⟩:=qNew hs hm3 (by omega)
 obtain ⟨_,_,e1,e2⟩:=zam p1
 obtain ⟨_,_,e3,e4⟩:=zam p2
 obtain ⟨_,_,e5,e6⟩:=zam p3
 obtain ⟨_,_,e7,e8⟩:=zam p4
 subst e1 e2 e3 e4 e5 e6 e7 e8
 obtain ⟨_,_,e1,e2⟩:=zam k1
 obtain ⟨_,_,e3,e4⟩:=zam k2
 obtain ⟨_,_,e5,e6⟩:=zam k3
 obtain ⟨_,_,e7,e8⟩:=zam k4
 subst e1 e2 e3 e4 e5 e6 e7 e8
 obtain ⟨_,_,_,_,_,rfl⟩:=id hm1
 obtain ⟨_,_,_,_,_,rfl⟩:=id hm2
 obtain ⟨_,_,_,_,_,rfl⟩:=id hm3
 obtain ⟨_,_,_,_,_,rfl⟩:=id hs
 obtain ⟨w1,w2,w3,w4,rfl,j1,j2⟩:=id hw
 obtain ⟨_,_,e1,e2⟩:=zam j1
 obtain ⟨_,_,e3,e4⟩:=zam j2
 subst e1 e2 e3 e4
 refine ⟨_,hw,?_⟩
 refine oF o165 ?_
 simp only [c165,r165_0,r165_1,SS,reduceCtorEq,reduceIte,qJ,qQ,qZ]
 refine zaa t1 ?_
 simp only [SS,reduceIte,qJ,qQ,qZ]
 refine zaa t2 ?_
 simp only [SS,reduceIte,qJ,qQ,qZ]
 refine ⟨rfl,?_⟩
 simp only [r165_2,SS,reduceIte,qJ,qQ,qZ]
 refine zaa t3 ?_
 simp only [SS,reduceIte,qJ,qQ,qZ]
 refine zaa t4 ?_
 simp only [SS,reduceIte,qQ]
 refine zaa t5 ?_
 simp only [SS,reduceIte,qJ,qQ,qZ]
 refine zaa t6 ?_
 simp only [SS,reduceIte,qQ]
 refine zaa t7 ?_
 simp only [SS,reduceIte,qJ,qQ,qZ,qB,qA]
 refine ⟨rfl,?_⟩
 simp only [r165_3,SS,reduceIte,qJ,qQ,qZ]
 exact ⟨.inl trivial,_,rfl,.drop _ _ rfl (by intro i cs h;omega)⟩
theorem qzl {n d:Int} {v:AV} (h:zfw n d v) (hd:0<d):∃w,zat (n/d) w/\Rt 188 [v] [] w []:=by
 obtain ⟨x,hx,t1⟩:=zif h hd
 have hdp:=zsf (n:=n) hd
 obtain ⟨a1,a2,a3,a4,rfl,p1,p2⟩:=h
 obtain ⟨x1,x2,x3,x4,rfl,k1,k2⟩:=hx
 obtain ⟨w,hw,t2⟩:=qvb k1 k2 (by omega)
 rw [qim hd] at hw
 obtain ⟨_,_,e1,e2⟩:=zam p1
 obtain ⟨_,_,e3,e4⟩:=zam p2
 subst e1 e2 e3 e4
 obtain ⟨_,_,e1,e2⟩:=zam k1
 obtain ⟨_,_,e3,e4⟩:=zam k2
 subst e1 e2 e3 e4
 obtain ⟨_,_,_,_,_,rfl⟩:=id hw
 refine ⟨_,hw,?_⟩
 refine oF o188 ?_
 simp only [c188,r188_0,r188_1,SS,reduceCtorEq,reduceIte,qJ,qQ,qZ]
 refine zaa t1 ?_
 simp only [SS,reduceIte,qJ,qQ,qZ]
 simp only [r188_2,SS,reduceIte,qJ,qQ,qZ]
 refine zaa t2 ?_
 simp only [SS,reduceIte,qJ,qQ,qZ]
 exact ⟨.inl trivial,_,rfl,.drop _ _ rfl (by intro i cs h;omega)⟩
theorem qow {l d:Int} {v:AV} (hv:zfw (numR l d) (denR l d) v) (hd:0<d) (hf:2*(l.natAbs+d.natAbs)<BIG):∃w,zat (zfv l d) w/\Rt 127 [v] [] w []:=by
 obtain ⟨h,hh,t1⟩:=jbl
 obtain ⟨s,hs,t2⟩:=qov hv hh hd hf
 have hdp:=zsf (n:=l) hd
 have hd2:0<denR l d*2:=by omega
 obtain ⟨w,hw,t3⟩:=qzl hs (zsf hd2)
 rw [qim hd2,qos hd] at hw
 obtain ⟨a1,a2,a3,a4,rfl,p1,p2⟩:=hv
 obtain ⟨b1,b2,b3,b4,rfl,p3,p4⟩:=hh
 obtain ⟨s1,s2,s3,s4,rfl,p5,p6⟩:=hs
 obtain ⟨_,_,e1,e2⟩:=zam p1
 obtain ⟨_,_,e3,e4⟩:=zam p2
 obtain ⟨_,_,e5,e6⟩:=zam p3
 obtain ⟨_,_,e7,e8⟩:=zam p4
 subst e1 e2 e3 e4 e5 e6 e7 e8
 obtain ⟨_,_,e1,e2⟩:=zam p5
 obtain ⟨_,_,e3,e4⟩:=zam p6
 subst e1 e2 e3 e4
 obtain ⟨_,_,_,_,_,rfl⟩:=id hw
 refine ⟨_,hw,?_⟩
 refine oF o127 ?_
 simp only [c127,r127_0,r127_1,SS,reduceCtorEq,reduceIte,qJ,qQ,qZ]
 refine zaa t1 ?_
 simp only [SS,reduceIte,qQ]
 refine zaa t2 ?_
 simp only [SS,reduceIte,qQ]
 refine zaa t3 ?_
 simp only [SS,reduceIte,qJ,qQ,qZ]
 refine ⟨rfl,?_⟩
 exact ⟨.inl trivial,_,rfl,.drop _ _ rfl (by intro i cs h;omega)⟩
end Go.Proofs.YtpflahgcdgdkjaaGreatDoor
namespace Go.Proofs.YtpflahgcdgdkjaaGreatDoor
open Nat renaming reduceEqDiff -> qQ, reduceLeDiff -> qZ, reduceAdd -> qJ
open List renaming getD_eq_getElem?_getD -> qX, getElem?_eq_getElem -> qK, replicate_zero -> qV, append_nil -> qU, getElem_of_mem -> yE
open Go.AL.AV.closed renaming closedL -> qY
open Bool renaming and_self -> xY
open Option renaming getD_some -> xS
open Go Go.AL Go.Proofs
def r4_0:RL:=[oP 9 (.box (.t 1)),oP 16 (.mov (.k (.bool false)))]
def r4_1:RL:=[mV 24 0,cL 25 6 [.t 24]]
def r4_2:RL:=[cL 26 7 [],mV 16 26]
def r4_3:RL:=[mV 27 6]
def r4_4:RL:=[ldO 28 true 4 9,cL 29 8 [.t 28,(kI 3)],mV 0 29]
def r4_5:RL:=[mV 30 2,cL 31 9 [.t 30],mV 17 31]
def r4_6:RL:=[mV 32 5]
def r4_7:RL:=[mV 33 3,mV 17 33]
def r4_8:RL:=[mV 34 7]
def r4_9:RL:=[mV 35 4,bK 36 .rem 35 40,bK 37 .add 36 40,bK 38 .rem 37 40,bK 39 .sub 38 1,mV 4 39]
def r4_10:RL:=[mV 40 17,bK 41 .gtr 40 1,mV 42 41,gU 43 42 true (.mov (.t 4)),gU 44 42 true (.bin .geq (.t 43) (kI 1)),oP 45 (.pick (.t 42) (.t 44) (.k (.bool false))),mV 46 45,gU 47 46 true (.mov (.t 4)),gU 48 46 true (.bin .leq (.t 47) (kI 1000)),oP 49 (.pick (.t 46) (.t 48) (.k (.bool false)))]
def r4_11:RL:=[mV 50 4,oP 51 (.bin .mul (kI 2) (.t 50)),mV 52 17,cL 53 14 [.t 51,.t 52],oP 54 (.bin .mul (kI 2) (.t 53)),bK 55 .add 54 1,mV 18 55]
def r4_12:RL:=[mV 56 17,mV 57 18,mV 58 0,lN 59 58,bT 60 .mul 57 59,cL 61 10 [.t 56,.t 60,(kI 2097152)],mV 19 61]
def r4_13:RL:=[mV 62 19,bK 63 .gtr 62 40000,mV 64 63,gU 65 64 true (.mov (.t 19)),gU 66 64 true (.bin .leq (.t 65) (kI 2097152)),oP 67 (.pick (.t 64) (.t 66) (.k (.bool false)))]
def r4_14:RL:=[cL 68 7 [],mV 16 68]
def r4_15:RL:=[mV 70 0,mV 71 17,mV 72 4,cL 73 15 [.t 70,.t 71,.t 72],mV 69 73,eX 74 69 0,eX 75 69 1,oP 20 (.box (.k (.agg [(.bool false),(.vec [] 0 (some 0)),(.bool false),(.vec [] 0 (some 0))]))),sT (.store 4 (.t 20) (.t 74)),mV 21 75]
def r4_16:RL:=[mV 77 0,mV 78 17,mV 79 4,cL 80 16 [.t 77,.t 78,.t 79],mV 76 80,eX 81 76 0,eX 82 76 1,oP 22 (.box (.k (.agg [(.bool false),(.vec [] 0 (some 0)),(.bool false),(.vec [] 0 (some 0))]))),sT (.store 4 (.t 22) (.t 81)),mV 23 82]
def r4_17:RL:=[mV 83 21,mV 84 23,bT 85 .eql 83 84,mV 86 85,gU 87 86 true (.load true 4 (.t 20)),gU 88 86 true (.load true 4 (.t 22)),gU 89 86 true (.call 17 [.t 87,.t 88]),oP 90 (.pick (.t 86) (.t 89) (.k (.bool false))),mV 91 90,gU 92 91 true (.call 7 []),oP 93 (.pick (.t 91) (.t 92) (.k (.bool false))),mV 16 93]
def c4:CC:=(.seq (rN r4_0) (.seq (.seq (rN r4_1) (.cond (.t 25) (.seq (rN r4_2) .ret) .skip)) (.seq (.seq (rN r4_3) (.cond (.t 27) (rN r4_4) .skip)) (.seq (rN r4_5) (.seq (.seq (rN r4_6) (.cond (.t 32) (rN r4_7) .skip)) (.seq (.seq (rN r4_8) (.cond (.t 34) (rN r4_9) .skip)) (.seq (.seq (rN r4_10) (.cond (.t 49) (.seq (rN r4_11) (.seq (rN r4_12) (.seq (rN r4_13) (.cond (.t 67) (.seq (rN r4_14) .ret) .skip)))) .skip)) (.seq (rN r4_15) (.seq (rN r4_16) (.seq (rN r4_17) .ret))))))))))
theorem o4:FnI 4 94 Tryz.f4 c4 [(.tmp 16)]:=⟨Tryz.func4,by kernel_rfl⟩
def r16_0:RL:=[oP 6 (.box (.k (.agg [(.bool false),(.vec [] 0 (some 0)),(.bool false),(.vec [] 0 (some 0))]))),oP 7 (.mov (kI 0))]
def r16_1:RL:=[mV 12 0,cL 13 29 [.t 12],oP 14 (.un .not (.t 13)),mV 11 14]
def r16_2:RL:=[oP 15 (.build [(.bool false),(.vec [] 0 (some 0)),(.bool false),(.vec [] 0 (some 0))] []),sT (.store 4 (.t 6) (.t 15)),oP 7 (.mov (kI 6))]
def r16_3:RL:=[mV 17 1,cL 18 30 [.t 17],oP 19 (.un .not (.t 18)),mV 16 19]
def r16_4:RL:=[oP 20 (.build [(.bool false),(.vec [] 0 (some 0)),(.bool false),(.vec [] 0 (some 0))] []),sT (.store 4 (.t 6) (.t 20)),oP 7 (.mov (kI 20))]
def r16_5:RL:=[mV 22 2,cL 23 39 [.t 22],oP 24 (.un .not (.t 23)),mV 21 24]
def r16_6:RL:=[oP 25 (.build [(.bool false),(.vec [] 0 (some 0)),(.bool false),(.vec [] 0 (some 0))] []),sT (.store 4 (.t 6) (.t 25)),oP 7 (.mov (kI 1))]
def r16_7:RL:=[mV 26 2,oP 27 (.bin .mul (kI 2) (.t 26)),mV 28 1,cL 29 14 [.t 27,.t 28],oP 30 (.bin .mul (kI 2) (.t 29)),bK 31 .add 30 1,mV 8 31]
def r16_8:RL:=[mV 33 0,mV 34 1,mV 35 8,cL 36 12 [.t 33,.t 34,.t 35],mV 32 36,eX 37 32 0,eX 38 32 1,mV 9 37,mV 10 38]
def r16_9:RL:=[mV 39 10,bK 40 .neq 39 0]
def r16_10:RL:=[oP 41 (.build [(.bool false),(.vec [] 0 (some 0)),(.bool false),(.vec [] 0 (some 0))] []),mV 42 10,sT (.store 4 (.t 6) (.t 41)),mV 7 42]
def r16_11:RL:=[mV 43 9,mV 44 2,mV 45 9,lN 46 45,bT 47 .rem 44 46,iX 48 1 43 47,ldO 49 false 1 48,mV 50 1,mV 51 8,mV 52 0,lN 53 52,bK 54 .sub 53 1,bT 55 .mul 51 54,cL 56 33 [.t 50,.t 55],cL 57 40 [.t 49,.t 56],sT (.store 4 (.t 6) (.t 57)),oP 7 (.mov (kI 0))]
def c16:CC:=(.seq (rN r16_0) (.seq (.block 0 (.seq (rN r16_1) (.cond (.t 11) (.seq (rN r16_2) .ret) (.seq (rN r16_3) (.cond (.t 16) (.seq (rN r16_4) .ret) (.seq (rN r16_5) (.cond (.t 21) (.seq (rN r16_6) .ret) .skip))))))) (.seq (rN r16_7) (.seq (rN r16_8) (.seq (.seq (rN r16_9) (.cond (.t 40) (.seq (rN r16_10) .ret) .skip)) (.seq (.reg r16_11 (some [(6,13)])) .ret))))))
theorem o16:FnI 16 58 Tryz.f16 c16 [(.cell 6 42),(.tmp 7)]:=⟨Tryz.func16,by kernel_rfl⟩
def r17_0:RL:=[oP 2 (.box (.t 0)),oP 3 (.box (.t 1)),oP 4 (.mov (.k (.bool false)))]
def r17_1:RL:=[oP 5 (.fld 0 (.t 2)),ldO 6 true 2 5,oP 7 (.fld 0 (.t 3)),ldO 8 true 2 7,cL 9 41 [.t 6,.t 8],mV 10 9,gU 11 10 true (.fld 2 (.t 2)),gU 12 10 true (.load true 2 (.t 11)),gU 13 10 true (.fld 2 (.t 3)),gU 14 10 true (.load true 2 (.t 13)),gU 15 10 true (.call 41 [.t 12,.t 14]),oP 16 (.pick (.t 10) (.t 15) (.k (.bool false))),mV 4 16]
def c17:CC:=(.seq (rN r17_0) (.seq (rN r17_1) .ret))
theorem o17:FnI 17 17 Tryz.f17 c17 [(.tmp 4)]:=⟨Tryz.func17,by kernel_rfl⟩
def r39_0:RL:=[oP 2 (.mov (.k (.bool false)))]
def r39_1:RL:=[mV 3 0,bK 4 .geq 3 1,mV 5 4,gU 6 5 true (.mov (.t 0)),gU 7 5 true (.bin .leq (.t 6) (kI 1000)),oP 8 (.pick (.t 5) (.t 7) (.k (.bool false))),mV 2 8]
def c39:CC:=(.seq (rN r39_0) (.seq (rN r39_1) .ret))
theorem o39:FnI 39 9 Tryz.f39 c39 [(.tmp 2)]:=⟨Tryz.func39,by kernel_rfl⟩
def r41_0:RL:=[oP 2 (.box (.t 0)),oP 3 (.box (.t 1)),oP 4 (.mov (.k (.bool false)))]
def r41_1:RL:=[oP 5 (.fld 0 (.t 2)),ldO 6 false 1 5,oP 7 (.fld 0 (.t 3)),ldO 8 false 1 7,oP 9 (.beq false (.t 6) (.t 8)),mV 10 9,gU 11 10 true (.fld 1 (.t 2)),gU 12 10 true (.load false 1 (.t 11)),gU 13 10 true (.len false (.t 12)),gU 14 10 true (.fld 1 (.t 3)),gU 15 10 true (.load false 1 (.t 14)),gU 16 10 true (.len false (.t 15)),gU 17 10 true (.bin .eql (.t 13) (.t 16)),oP 18 (.pick (.t 10) (.t 17) (.k (.bool false))),mV 19 18,gU 20 19 true (.fld 1 (.t 2)),gU 21 19 true (.load false 1 (.t 20)),gU 22 19 true (.fld 1 (.t 3)),gU 23 19 true (.load false 1 (.t 22)),gU 24 19 true (.call 88 [.t 21,.t 23]),gU 25 19 true (.bin .eql (.t 24) (kI 0)),oP 26 (.pick (.t 19) (.t 25) (.k (.bool false))),mV 4 26]
def c41:CC:=(.seq (rN r41_0) (.seq (rN r41_1) .ret))
theorem o41:FnI 41 27 Tryz.f41 c41 [(.tmp 4)]:=⟨Tryz.func41,by kernel_rfl⟩
def r78_0:RL:=[oP 4 (.box (.t 0)),oP 6 (.mov (.k (.bool false)))]
def r78_1:RL:=[ldO 11 true 2 2,ldO 12 true 2 4,cL 13 79 [.t 11,.t 12],mV 10 13,eX 14 10 0,eX 15 10 1,eX 16 10 2,oP 7 (.box (.k (.agg [(.bool false),(.vec [] 0 (some 0))]))),oP 8 (.box (.k (.agg [(.bool false),(.vec [] 0 (some 0))]))),sT (.store 2 (.t 7) (.t 14)),sT (.store 2 (.t 8) (.t 15)),mV 9 16]
def r78_2:RL:=[ldO 17 true 2 8,cL 18 76 [.t 17],bK 19 .neq 18 0]
def r78_3:RL:=[oP 6 (.mov (.k (.bool false)))]
def r78_4:RL:=[ldO 20 true 2 7,sT (.store 2 (.t 2) (.t 20))]
def r78_5:RL:=[ldO 21 false 1 3,mV 22 1,bT 23 .add 21 22,sT (.store 1 (.t 3) (.t 23))]
def r78_6:RL:=[oP 6 (.mov (.k (.bool true)))]
def c78:CC:=(.seq (rN r78_0) (.seq (rN r78_1) (.seq (.seq (rN r78_2) (.cond (.t 19) (.seq (rN r78_3) .ret) .skip)) (.seq (rN r78_4) (.seq (rN r78_5) (.seq (rN r78_6) .ret))))))
theorem o78:FnI 78 24 Tryz.f78 c78 [(.tmp 6)]:=⟨Tryz.func78,by kernel_rfl⟩
open Go.Limb
theorem zxh {x:Int} {a b:AV} (ha:zat x a) (hb:zat x b):∃l c d,zcc l/\l.length<=1100/\a= .agg [.bool (decide (x<0)),.vec (u32s l) l.length c]/\b= .agg [.bool (decide (x<0)),.vec (u32s l) l.length d]:=by
 obtain ⟨l,c,h1,h2,h3,rfl⟩:=ha
 obtain ⟨l',d,g1,g2,g3,rfl⟩:=hb
 have:l'=l:=zhc g1 h1 (g3.trans h3.symm)
 subst this
 exact ⟨l',c,d,h1,h2,rfl,rfl⟩
theorem qzm {x:Int} {a b:AV} (ha:zat x a) (hb:zat x b):Rt 41 [a,b] [] (.bool true) []:=by
 obtain ⟨l,c,d,hc,hl,rfl,rfl⟩:=zxh ha hb
 have tc:=zcmp l l c d (by omega) (by omega)
 have e0:cmpL l l=0:=by rw [zfr hc hc];unfold sgn;rw [if_neg (Nat.lt_irrefl _),if_pos rfl]
 rw [e0] at tc
 generalize decide (x<0)=s at*
 have db:(s == s)=true:=by cases s<;>rfl
 refine oF o41 ?_
 have d0:decide ((0:Int)=0)=true:=rfl
 simp only [c41,r41_0,r41_1,↓ziz,SS,fC,reduceCtorEq,reduceIte,qJ,qQ,qZ,decide_true,db]
 refine zaa tc ?_
 simp only [zaj,zad,qV,qU,↓ziz,SS,reduceIte,qQ]
 exact ⟨.inl trivial,_,rfl,.drop _ _ rfl (by intro i cs h;omega)⟩
theorem jbm {x y:Int} {a b:AV} (ha:zfw x y a) (hb:zfw x y b):Rt 17 [a,b] [] (.bool true) []:=by
 obtain ⟨a1,a2,a3,a4,rfl,h1,h2⟩:=ha
 obtain ⟨b1,b2,b3,b4,rfl,h3,h4⟩:=hb
 have t1:=qzm h1 h3
 have t2:=qzm h2 h4
 have c1:qY [.agg [a1,a2],.agg [b1,b2]]=true:=by have:=h1.closed;have:=h3.closed;simp only [qY, *,xY]
 have c2:qY [.agg [a3,a4],.agg [b3,b4]]=true:=by have:=h2.closed;have:=h4.closed;simp only [qY, *,xY]
 refine oF o17 ?_
 simp only [c17,r17_0,r17_1,SS,reduceCtorEq,reduceIte,qJ,qQ,qZ]
 refine zaa t1 ?_ c1
 simp only [zaj,zad,qV,qU,↓ziz,SS,reduceIte,qJ,qQ,qZ]
 refine zaa t2 ?_ c2
 simp only [zaj,zad,qV,qU,SS,reduceIte,qQ]
 exact ⟨.inl trivial,_,rfl,.drop _ _ rfl (by intro i cs h;omega)⟩
open Go.Det
theorem zsg {A0:Nat} {M:List (List Int)} (hb:Bnd A0 M) (hA:A0<BIG):qus M:=by
 intro r hr z hz
 obtain ⟨i,hi,rfl⟩:=yE hr
 obtain ⟨j,hj,rfl⟩:=yE hz
 have:=hb i j
 unfold ent at this
 rw [qX (l:=M),qK hi,xS,qX,qK hj,xS] at this
 omega
theorem zsh {n A0:Nat} {M:List (List Int)} (hS:Shp n M) (hn:1<=n/\n<=8) (hb:Bnd A0 M) (hA:A0<BIG):Sq n M (matC M):=⟨znt (zsg hb hA),hS.len,hS.row,hn.1,hn.2⟩
end Go.Proofs.YtpflahgcdgdkjaaGreatDoor
namespace Go.Proofs.YtpflahgcdgdkjaaGreatDoor
open Nat renaming reduceEqDiff -> qQ, reduceLeDiff -> qZ, reduceAdd -> qJ, le_refl -> qH, zero_add -> qN, sub_self -> xQ, mul_one -> yA, not_lt_zero -> zE
open List renaming getD_eq_getElem?_getD -> qX, getElem?_eq_getElem -> qK, replicate_zero -> qV, append_nil -> qU, getElem?_cons_succ -> qA, getElem?_cons_zero -> qB, take_of_length_le -> qC, getElem?_set_self -> qE, set_append_right -> qG, getElem?_append_right -> qL, getElem?_append_left -> qM, length_set -> qT, ext_getElem -> xX, getElem?_set_ne -> xU, drop_zero -> xG, mapM_cons -> xH, getElem?_map -> xM, map_set -> yS, set_set -> yT, take_add_one -> zQ, getElem_set -> zV, length_take -> zY, range_succ -> zD
open Int renaming toNat_natCast -> qW
open Go.AL.AV.closed renaming closedL -> qY
open Bool renaming and_self -> xY
open Option renaming getD_some -> xS, map_some -> zG
open Go Go.AL Go.Proofs Go.Limb
def zoe (n i:Nat):List AV:=(List.range i).map fun k=> .sl (k+1) 0 n 1 (some n)
def outS (N n i:Nat):List AV:=zoe n i++List.replicate (N-i) nilV
def bH (N n:Nat) (rows:List (List Int)):Heap:=some (outS N n rows.length)::rows.map fun r=>some (i64z r)
theorem zhk (n i:Nat):(zoe n i).length=i:=by simp [zoe]
theorem zej {N n i:Nat} (h:i<=N):(outS N n i).length=N:=by simp [outS,zhk];omega
theorem zek {N n i k:Nat} (h:k<i):(outS N n i).getD k .junk= .sl (k+1) 0 n 1 (some n):=by
 unfold outS zoe
 rw [qX,qM (by simpa using h),xM,List.getElem?_range h]
 rfl
theorem zzx (N n:Nat) (rows:List (List Int)):(bH N n rows).length=rows.length+1:=by simp [bH]
theorem zds (N n:Nat) (rows:List (List Int)):getB (bH N n rows) 0=some (outS N n rows.length):=rfl
theorem zfi {N n i:Nat} {rows:List (List Int)} (h:i<rows.length):getB (bH N n rows) (i+1)=some (i64z (rows.getD i [])):=by
 unfold getB bH
 rw [qA,xM,qX,qK h]
 rfl
theorem zgq {N n i:Nat} {rows:List (List Int)} (r:List Int):(bH N n rows).set (i+1) (some (i64z r))=bH N n (rows.set i r):=by
 unfold bH
 rw [List.set_cons_succ,qT,yS]
theorem qio {N n i:Nat} (h:i<N):(outS N n i).set i (.sl (i+1) 0 n 1 (some n))=outS N n (i+1):=by
 unfold outS
 have e:List.replicate (N-i) nilV=nilV::List.replicate (N-(i+1)) nilV:=by rw [<-List.replicate_succ];congr 1;omega
 have ez:zoe n (i+1)=zoe n i++[.sl (i+1) 0 n 1 (some n)]:=by simp [zoe,zD]
 rw [e,ez,qG _ _ (by rw [zhk];omega),zhk,xQ]
 simp
theorem zzy {N n:Nat} {rows:List (List Int)} (r:List Int) (h:rows.length<N):(bH N n rows++[some (i64z r)]).set 0 (some ((outS N n rows.length).set rows.length (.sl (rows.length+1) 0 n 1 (some n))))=bH N n (rows++[r]):=by
 rw [qio h]
 unfold bH
 simp
theorem zdn (r:List Int) (j:Nat) (z:Int):(i64z r).set j (.int .i64 z)=i64z (r.set j z):=by simp [i64z,yS]
theorem zke (n:Nat) (z:Int):List.replicate n (AV.int .i64 z)=i64z (List.replicate n z):=by simp [i64z]
theorem zsi (r:List Int) (m d:Nat) (H:Heap):(i64z r).mapM (frzI m H (d+1))=some (i64z r):=by
 refine zmc (fun a ha=>?_)
 unfold i64z at ha
 obtain ⟨z,_,rfl⟩:=List.mem_map.1 ha
 rfl
def zco (n:Nat) (rows:List (List Int)):List AV:=rows.map fun r=> .vec (i64z r) n (some n)
theorem qip {N n:Nat} {rows:List (List Int)} (hN:rows.length=N) (hn:∀i,i<N->(rows.getD i []).length=n):frzI 0 (bH N n rows) 3 (.sl 0 0 N 1 (some N))=some (.vec (zco n rows) N (some N)):=by
 have e0:outS N n rows.length=zoe n N:=by
  unfold outS
  rw [hN,xQ,qV,qU]
 have key:(zoe n N).mapM (frzI 0 (bH N n rows) 2)=some (zco n rows):=by
  have:zco n rows=(List.range N).map fun k=>AV.vec (i64z (rows.getD k [])) n (some n):=by
   refine xX (by simp [zco,hN]) fun k h1 h2=>?_
   simp only [zco,List.getElem_map,List.getElem_range]
   have hk:k<rows.length:=by simpa [zco] using h1
   rw [qX,qK hk]
   rfl
  rw [this]
  unfold zoe
  rw [List.mapM_map]
  have:∀l:List Nat,(∀k∈l,k<N)->l.mapM (fun k=>frzI 0 (bH N n rows) 2 (.sl (k+1) 0 n 1 (some n)))=some (l.map fun k=>AV.vec (i64z (rows.getD k [])) n (some n)):=by
   intro l
   induction l with
   | nil=>intro _;rfl
   | cons k l ih=>
    intro h
    have hk:=h k (by simp)
    have e:frzI 0 (bH N n rows) 2 (.sl (k+1) 0 n 1 (some n))=some (.vec (i64z (rows.getD k [])) n (some n)):=by
     rw [frzI]
     have hl:=hn k hk
     simp only [zE,if_false,zfi (show k<rows.length by omega),need,qN,yA,zav,hl,qH,if_true,xG]
     rw [qC (by rw [zav];omega),zsi]
     rfl
    rw [xH,e,ih (fun x hx=>h x (by simp [hx]))]
    rfl
  exact this _ (fun k hk=>List.mem_range.1 hk)
 rw [frzI]
 simp only [zE,if_false,zds,e0,need,qN,yA,zhk,qH,if_true,xG]
 rw [qC (by rw [zhk];omega),key]
 rfl
theorem zmg {N n:Nat} {rows:List (List Int)} {c:Option Nat} (hN:rows.length=N) (hn:∀i,i<N->(rows.getD i []).length=n) (hf:∀i j,In64 (ent rows i j)):ImV rows (.vec (zco n rows) N c):=by
 refine ⟨⟨zco n rows,c,by rw [hN],by simp [zco],fun i hi=>⟨some n,?_⟩⟩,hf⟩
 have hl:=hn i (by omega)
 unfold zco
 rw [qX,xM,qK hi]
 rw [qX,qK hi] at hl ⊢
 simp only [zG,xS] at hl ⊢
 rw [hl]
theorem qzn {z:Int} {a:AV} (ha:zat z a) (hz:In64 z):Rt 97 [a] [] (.tup [.int .i64 z,.bool true]) []:=by
 obtain ⟨z1,z2⟩:=hz
 obtain ⟨l,ca,hc,hl,hv,rfl⟩:=ha
 obtain ⟨c1,t1⟩:=zlu l ca (by omega)
 have k1:=zbi hc.1
 have kv:=(zci l).trans hv
 generalize zbc l=m at*
 have hm2:=zjb k1 (by omega)
 have t2:=zlow m c1 k1.1 (by omega)
 rw [qC hm2,kv] at t2
 have d1:decide ((2:Int)<(m.length:Nat))=false:=decide_eq_false (by omega)
 by_cases hn:z<0
 ·have e1:decide (z<0)=true:=decide_eq_true hn
  have d2:decide ((z.natAbs:Int)<=9223372036854775808)=true:=decide_eq_true (by omega)
  have w1:IntKind.i64.wrap (IntKind.u64.wrap (0-(z.natAbs:Int)))=z:=by
   simp [IntKind.wrap,IntKind.bits,IntKind.signed];omega
  refine oF o97 ?_
  simp only [c97,r97_0,r97_1,SS,fC,reduceCtorEq,reduceIte,qJ,qQ,qZ,e1]
  refine zaa t1 ?_
  simp only [SS,reduceIte,qQ]
  simp only [r97_2,SS,reduceIte,qQ]
  refine zaa t2 ?_
  simp only [SS,reduceIte,qQ]
  simp only [r97_3,SS,fC,reduceIte,qQ,d1]
  simp only [r97_5,SS,fC,reduceIte,qJ,qQ,qZ,d2]
  simp only [r97_6,SS,reduceIte,qQ,w1]
  exact ⟨.inl trivial,_,rfl,.drop _ _ rfl (by intro i cs h;omega)⟩
 ·have e1:decide (z<0)=false:=decide_eq_false hn
  have d2:decide ((z.natAbs:Int)<9223372036854775808)=true:=decide_eq_true (by omega)
  have w1:IntKind.i64.wrap (z.natAbs:Int)=z:=by
   rw [show (z.natAbs:Int)=z by omega];exact w64 z1 z2
  refine oF o97 ?_
  simp only [c97,r97_0,r97_1,SS,fC,reduceCtorEq,reduceIte,qJ,qQ,qZ,e1]
  refine zaa t1 ?_
  simp only [SS,reduceIte,qQ]
  simp only [r97_2,SS,reduceIte,qQ]
  refine zaa t2 ?_
  simp only [SS,reduceIte,qQ]
  simp only [r97_3,SS,fC,reduceIte,qQ,d1]
  simp only [r97_5,SS,fC,reduceIte,qJ,qQ,qZ]
  simp only [r97_7,SS,fC,reduceIte,qJ,qQ,qZ,d2]
  simp only [r97_8,SS,reduceIte,qQ,w1]
  exact ⟨.inl trivial,_,rfl,.drop _ _ rfl (by intro i cs h;omega)⟩
theorem qzo {n:Nat} {M:List (List Int)} {rows:List AV} {c:Option Nat} (hn:1<=n/\n<=8) (hS:Shp n M) (hl:rows.length=n) (hr:∀i,i<n->zfs (M.getD i []) (rows.getD i .junk)) (hf:∀i j,In64 (ent M i j)) {i:Nat} (hi:i<n) {rs:List (List Int)} (hrl:rs.length=i+1) (hr0:(rs.getD i []).length=n) {E:Env} {Q:Post}
  (e0:E 0= .vec rows n c) (e5:E 5= .int .i64 (n:Nat)) (e7:E 7= .sl 0 0 n 1 (some n)) (e8:E 8= .int .i64 (i:Nat)) (e23:E 23= .int .i64 (n:Nat)) (e24:E 24= .int .i64 (i:Nat)) (e36:E 36= .int .i64 (n:Nat)) (e37:E 37= .int .i64 0)
  (hQ:∀E' r,r.length=n->(∀j,j<n->r.getD j 0=ent M i j)->E' 0= .vec rows n c->E' 5= .int .i64 (n:Nat)->E' 7= .sl 0 0 n 1 (some n)->E' 23= .int .i64 (n:Nat)->E' 24= .int .i64 (i:Nat)->Q (.exit 2) E' (bH n n (rs.set i r))):
  Wg 0 63 (.loop l61_1) E (bH n n rs) Q:=by
 refine zai (fun k E H=>∃j r,j+k=n/\r.length=n/\(∀t,t<j->r.getD t 0=ent M i t)/\H=bH n n (rs.set i r)/\E 0= .vec rows n c/\E 5= .int .i64 (n:Nat)/\E 7= .sl 0 0 n 1 (some n)/\E 8= .int .i64 (i:Nat)/\E 23= .int .i64 (n:Nat)/\E 24= .int .i64 (i:Nat)/\
  E 36= .int .i64 (n:Nat)/\E 37= .int .i64 (j:Nat)) (n:=n)
  ⟨0,rs.getD i [],by omega,hr0,fun t ht=>absurd ht (by omega),?_,e0,e5,e7,e8,e23,e24,e36,e37⟩ ?_
 ·congr 1
  refine xX (by simp) fun t h1 h2=>?_
  rw [zV]
  split
  ·rename_i e;subst e;rw [qX,qK h1];rfl
  ·rfl
 clear e0 e5 e7 e8 e23 e24 e36 e37 E
 rintro k E H ⟨j,r,hjk,hrm,hr',rfl,e0,e5,e7,e8,e23,e24,e36,e37⟩
 refine wM ?_
 simp only [l61_1,r61_10,SS,reduceIte,e36,e37]
 refine ⟨fun hlt=>?_,fun hge=>?_⟩
 ·obtain ⟨k,rfl⟩:∃k',k=k'+1:=⟨k-1,by omega⟩
  have hj:j<n:=by omega
  have lM:=hS.row i hi
  obtain ⟨csi,ci,hei,hci⟩:=hr i hi
  have hcl:=zcv hci
  obtain ⟨u,v,hu,hz⟩:=zeh hci j (by omega)
  obtain ⟨lz,cz,hz1,hz2⟩:=zam hz
  subst hz1 hz2
  have ts:=qzn hz (hf i j)
  have w5:=wS1 j (by omega)
  have hset:(rs.set i r).length=i+1:=by simp [hrl]
  have gr:=zfi (N:=n) (n:=n) (i:=i) (rows:=rs.set i r) (by omega)
  have gri:(rs.set i r).getD i []=r:=by rw [qX,qE (by omega)];rfl
  rw [gri] at gr
  have go:getB (bH n n (rs.set i r)) 0=some (outS n n (i+1)):=by rw [zds,hset]
  have gol:=zej (N:=n) (n:=n) (i:=i+1) (by omega)
  have gog:=zek (N:=n) (n:=n) (i:=i+1) (k:=i) (by omega)
  have hent:(M.getD i []).getD j 0=ent M i j:=rfl
  rw [hent] at ts
  simp only [r61_11,r61_12,SS,fC,reduceCtorEq,reduceIte,qQ,e0,e8,e37,qW,hl,hei,hcl,lM,hu]
  refine ⟨⟨by omega,by omega⟩,by omega,⟨by omega,by omega⟩,by omega,?_⟩
  refine zaa ts ?_
  simp only [SS,reduceIte,qQ,qB,qA]
  simp only [r61_13,SS,fC,reduceIte,qQ]
  simp only [r61_15,SS,fC,reduceIte,qQ,e7,e8,qW,go,gol,gog,gr,hrm,zav,zdn]
  refine ⟨⟨by omega,by omega⟩,by omega,⟨by omega,by omega⟩,by omega,?_⟩
  simp only [r61_16,SS,reduceIte,qQ,e37,w5,zgq]
  refine ⟨k,_,_,by omega,⟨j+1,r.set j (ent M i j),by omega,by simp [hrm],fun t ht=>?_,?_,?_,?_,?_,?_,?_,?_,?_,?_⟩,.refl⟩
  ·rw [qX]
   rcases (by omega:t<j\/t=j) with e | e
   ·rw [xU (by omega),<-qX];exact hr' t e
   ·rw [e,qE (by omega)];rfl
  ·rw [yT]
  all_goals simp only [UU,qQ,reduceIte, *]
 ·have hjm:j=n:=by omega
  subst hjm
  exact hQ _ r hrm hr' (by simp only [UU,qQ,e0]) (by simp only [UU,qQ,e5]) (by simp only [UU,qQ,e7]) (by simp only [UU,qQ,e23]) (by simp only [UU,qQ,e24])
theorem qvy {n:Nat} {M:List (List Int)} {a:AV} (h:Sq n M a) (hf:∀i j,In64 (ent M i j)):Rt 61 [a] [] (.tup [.vec (zco n M) n (some n),.bool true]) []:=by
 have hn:1<=n/\n<=8:=⟨h.lo,h.hi⟩
 have hS:Shp n M:=⟨h.len,h.cols⟩
 have t1:=ztw h.mat h.shape
 rw [h.cols 0 (by omega),h.len] at t1
 have c1:qY [a]=true:=by simp only [qY,h.closed,xY]
 obtain ⟨rows,c,hae,hl,hr⟩:=h.mat
 subst hae
 rw [h.len] at hl hr t1 c1 ⊢
 have hTl:=hS.len
 refine oF o61 ?_
 simp only [c61,r61_0,r61_1,SS,reduceCtorEq,reduceIte]
 refine zaa t1 ?_ c1
 simp only [SS,reduceIte,qQ,qB,qA]
 simp only [r61_2,SS,fC,reduceIte,qQ]
 simp only [r61_4,SS,reduceIte,qQ,qW]
 refine ⟨by decide,⟨by omega,by omega,by omega,by omega⟩,?_⟩
 simp only [r61_5,SS,reduceIte,qQ]
 have hb0:[some (List.replicate n (AV.vec [] 0 (some 0)))]=bH n n []:=rfl
 rw [hb0]
 refine zai (fun k E H=>∃i,i+k=n/\H=bH n n (M.take i)/\E 0= .vec rows n c/\E 5= .int .i64 (n:Nat)/\E 7= .sl 0 0 n 1 (some n)/\E 23= .int .i64 (n:Nat)/\E 24= .int .i64 (i:Nat)) (n:=n)
  ⟨0,by omega,rfl,by simp only [UU,qQ],by simp only [UU,qQ,reduceIte],by simp only [UU,qQ,reduceIte],by simp only [UU,qQ,reduceIte],by simp only [UU,qQ,reduceIte];rfl⟩ ?_
 rintro k E H ⟨i,hik,rfl,e0,e5,e7,e23,e24⟩
 refine wM ?_
 simp only [l61_0,r61_6,SS,reduceCtorEq,reduceIte,e23,e24]
 refine ⟨fun hlt=>?_,fun hge=>?_⟩
 ·obtain ⟨k,rfl⟩:∃k',k=k'+1:=⟨k-1,by omega⟩
  have hi:i<n:=by omega
  have htl:(M.take i).length=i:=by rw [zY];omega
  have w5:=wS1 i (by omega)
  have hbl:(bH n n (M.take i)).length=i+1:=by rw [zzx,htl]
  have go:getB (bH n n (M.take i)++[some (i64z (List.replicate n 0))]) 0=some (outS n n i):=by
   have:getB (bH n n (M.take i)) 0=some (outS n n i):=by rw [zds,htl]
   exact this
  have gol:=zej (N:=n) (n:=n) (i:=i) (by omega)
  have hnew:=zzy (N:=n) (n:=n) (rows:=M.take i) (List.replicate n 0) (by omega)
  rw [htl] at hnew
  simp only [r61_7,r61_8,SS,reduceIte,qQ,e5,e7,e24,qW,hbl,zke,go,gol]
  refine ⟨by decide,⟨by omega,by omega,by omega,by omega⟩,⟨by omega,by omega⟩,by omega,?_⟩
  rw [hnew]
  have hrl:(M.take i++[List.replicate n 0]).length=i+1:=by simp;omega
  have hg0:getB (bH n n (M.take i++[List.replicate n 0])) 0=some (outS n n (i+1)):=by rw [zds,hrl]
  have hgl:=zej (N:=n) (n:=n) (i:=i+1) (by omega)
  have hgg:=zek (N:=n) (n:=n) (i:=i+1) (k:=i) (by omega)
  simp only [r61_9,SS,fC,reduceIte,qQ,e7,qW,hg0,hgl,hgg]
  refine ⟨⟨by omega,by omega⟩,by omega,?_⟩
  refine qzo (rows:=rows) (c:=c) hn hS hl hr hf hi (rs:=M.take i++[List.replicate n 0]) hrl ?_ (by simp only [UU,qQ,e0]) (by simp only [UU,qQ,e5]) (by simp only [UU,qQ,e7]) (by simp only [UU,qQ,reduceIte]) (by simp only [UU,qQ,e23]) (by simp only [UU,qQ,e24]) (by simp only [UU,qQ,reduceIte]) (by simp only [UU,qQ,reduceIte]) ?_
  ·rw [qX,qL (by omega),htl,xQ]
   simp
  intro E' r hrm hr' f0 f5 f7 f23 f24
  have er:r=M.getD i []:=by
   have hTi:=hS.row i hi
   refine xX (by omega) fun t h1 h2=>?_
   have h3:=hr' t (by omega)
   unfold ent at h3
   rw [qX,qK h1,qX (l:=M.getD i []),qK h2] at h3
   exact h3
  have eset:(M.take i++[List.replicate n 0]).set i r=M.take (i+1):=by
   rw [qG _ _ (by omega),htl,xQ,er]
   rw [zQ,qX,qK (by omega)]
   rfl
  rw [eset]
  simp only [r61_17,SS,reduceCtorEq,reduceIte,qQ,f24,w5]
  refine ⟨k,_,_,by omega,⟨i+1,by omega,rfl,?_,?_,?_,?_,?_⟩,.refl⟩
  all_goals simp only [UU,qQ,reduceIte, *]
 ·have hin:i=n:=by omega
  have htl:M.take i=M:=qC (by omega)
  rw [htl]
  simp only [r61_18,SS,reduceIte,qQ,e7]
  have this:=qip (N:=n) (n:=n) (rows:=M) hS.len hS.row
  have key:frzI 0 (bH n n M) 4 (.tup [.sl 0 0 n 1 (some n),.bool true])=some (.tup [.vec (zco n M) n (some n),.bool true]):=by
   rw [frzI]
   simp only [xH,List.mapM_nil,this]
   rfl
  exact ⟨.inl trivial,.tup [.sl 0 0 n 1 (some n),.bool true],rfl,.freeze 4 _ _ _ key (by intro i cs h;omega)⟩
theorem zxi {x:Nat} {c:Option Nat} (hx:x≠0) (hx':x<4294967296):zat (x:Int) (pz x c):=by
 refine ⟨[x],c,⟨Dig.cons hx' Dig.nil,by simpa [Top] using hx⟩,by show 1<=1100;decide,?_,?_⟩
 ·rw [Int.natAbs_natCast];show x+4294967296*0=x;omega
 ·rw [decide_eq_false (by omega)];rfl
theorem zxj:zat 0 zi:=⟨[],some 0,⟨Dig.nil,by simp [Top]⟩,by decide,rfl,rfl⟩
theorem qzp {a b:Nat} (ha':a<4294967296) (hb:b≠0) (hb':b<4294967296):∃v,zfw (numR (a:Int) (b:Int)) (denR (a:Int) (b:Int)) v/\Rt 40 [.int .i64 (a:Int),.int .i64 (b:Int)] [] v []:=by
 obtain ⟨va,ia,t1⟩:=zey (a:Int) (by omega) (by omega)
 obtain ⟨vb,ib,t2⟩:=zey (b:Int) (by omega) (by omega)
 obtain ⟨v,hv,t3⟩:=qNew ia ib (by omega)
 have hv0:=hv
 obtain ⟨a1,a2,b1,b2,rfl,h1,h2⟩:=hv0
 refine ⟨_,hv,?_⟩
 obtain ⟨l1,k1,_,_,_,e1⟩:=h1
 obtain ⟨l2,k2,_,_,_,e2⟩:=h2
 simp only [AV.agg.injEq,List.cons.injEq,and_true] at e1 e2
 obtain ⟨rfl,rfl⟩:=e1
 obtain ⟨rfl,rfl⟩:=e2
 have ca:=ia.closed
 have cb:=ib.closed
 have cab:qY [va,vb]=true:=by simp only [qY,ca,cb,xY]
 refine oF o40 ?_
 simp only [c40,r40_0,SS,reduceCtorEq]
 simp only [r40_1,SS,reduceCtorEq,reduceIte,qQ]
 refine zaa t1 ?_ rfl ca
 simp only [SS,reduceIte,qQ]
 refine zaa t2 ?_ rfl cb
 simp only [SS,reduceIte,qQ]
 refine zaa t3 ?_ cab
 simp only [SS,reduceIte,qJ,qQ,qZ,qB,qA]
 simp only [r40_2,SS,reduceIte,qJ,qQ,qZ]
 exact ⟨.inl trivial,_,rfl,.drop _ _ rfl (by intro i cs h;omega)⟩
end Go.Proofs.YtpflahgcdgdkjaaGreatDoor
namespace Go.Proofs.YtpflahgcdgdkjaaGreatDoor
open Nat renaming reduceEqDiff -> qQ, reduceLeDiff -> qZ, reduceAdd -> qJ, le_refl -> qH, pow_succ -> qI, zero_add -> qN, eq_zero_or_pos -> qP, mod_eq_zero_of_dvd -> qR, mul_zero -> xZ, pow_zero -> xJ, dvd_of_mod_eq_zero -> xK, lt_or_ge -> xW, div_add_mod -> xB, dvd_of_mul_dvd_mul_left -> xE, pow_one -> xN, mul_dvd_mul_left -> yB, le_of_dvd -> yH, dvd_trans -> yI, lt_trichotomy -> zX, div_lt_self -> zI, pow_dvd_pow -> zL
open List renaming replicate_zero -> qV, append_nil -> qU, getElem?_cons_succ -> qA, getElem?_cons_zero -> qB, getElem?_append_left -> qM
open Int renaming natCast_add -> xC
open Go.AL.AV.closed renaming closedL -> qY
open Bool renaming and_self -> xY
open Go Go.AL Go.Proofs
def expo (p:Nat):Nat->Nat->Nat
 | 0,_=>0
 | f+1,n=>if n%p=0 then expo p f (n/p)+1 else 0
theorem zup {p:Nat} (hp:2<=p):∀f n,1<=n->n<=f->p^expo p f n∣n/\¬p^(expo p f n+1)∣n:=by
 intro f
 induction f with
 | zero=>intro n h1 h2;omega
 | succ f ih=>
  intro n h1 h2
  unfold expo
  by_cases h:n%p=0
  ·rw [if_pos h]
   have hd:p*(n/p)=n:=by have:=xB n p;omega
   have hlt:n/p<n:=zI (by omega) (by omega)
   have h0:1<=n/p:=by
    rcases qP (n/p) with e | e
    ·rw [e,xZ] at hd;omega
    ·exact e
   obtain ⟨a,b⟩:=ih (n/p) h0 (by omega)
   generalize expo p f (n/p)=e at*
   constructor
   ·rw [<-hd,qI,Nat.mul_comm]
    exact yB p a
   ·intro hh
    rw [<-hd,qI,Nat.mul_comm] at hh
    exact b (xE (by omega) hh)
  ·rw [if_neg h]
   refine ⟨by rw [xJ];exact Nat.one_dvd _,fun hh=>h ?_⟩
   rw [qN,xN] at hh
   exact qR hh
theorem qiq {p n e e':Nat} (h1:p^e∣n) (h2:¬p^(e+1)∣n) (h3:p^e'∣n) (h4:¬p^(e'+1)∣n):e=e':=by
 rcases zX e e' with h | h | h
 ·exact absurd (yI (zL p h) h3) h2
 ·exact h
 ·exact absurd (yI (zL p h) h1) h4
theorem zxk {p n:Nat} (hp:2<=p) (hn:1<=n):p^expo p n n<=n:=yH hn (zup hp n n hn (qH n)).1
theorem zof {p n:Nat} (hp:2<=p) (hp2:p<9223372036854775808) (hn:1<=n) (hn2:n<9223372036854775808):Rt 14 [.int .i64 (n:Int),.int .i64 (p:Int)] [] (.int .i64 ((expo p n n:Nat):Int)) []:=by
 refine oF o14 ?_
 simp only [c14,r14_0,r14_1,SS,reduceCtorEq]
 refine zai (fun f E H=>∃x e:Nat,1<=x/\x<=f/\x+e<=n/\e+expo p f x=expo p n n/\H=[]/\E 0= .int .i64 (x:Int)/\E 1= .int .i64 (p:Int)/\E 5= .int .i64 (e:Int)) (n:=n)
  ⟨n,0,hn,qH n,by omega,by omega,rfl,by simp only [UU,qQ],by simp only [UU,qQ],by simp only [UU,qQ,reduceIte];rfl⟩ ?_
 rintro f E H ⟨x,e,hx,hxf,hxe,he,rfl,e0,e1,e5⟩
 refine wM ?_
 obtain ⟨f,rfl⟩:∃f',f=f'+1:=⟨f-1,by omega⟩
 have er:Int.tmod (x:Int) (p:Int)=((x%p:Nat):Int):=rfl
 have d1:decide ((x:Int)≠0)=true:=decide_eq_true (by omega)
 have hp0:(p:Int)≠0:=by omega
 have eX:expo p (f+1) x=if x%p=0 then expo p f (x/p)+1 else 0:=rfl
 rw [eX] at he
 by_cases h:x%p=0
 ·rw [if_pos h] at he
  have d2:decide (((x%p:Nat):Int)=0)=true:=decide_eq_true (by omega)
  have hd:p*(x/p)=x:=by have:=xB x p;omega
  have hlt:x/p<x:=zI (by omega) (by omega)
  have h0:1<=x/p:=by
   rcases qP (x/p) with e | e
   ·rw [e,xZ] at hd;omega
   ·exact e
  have w1:IntKind.i64.wrap (Int.tdiv (x:Int) (p:Int))=((x/p:Nat):Int):=by
   rw [show Int.tdiv (x:Int) (p:Int)=((x/p:Nat):Int) from rfl]
   generalize x/p=y at*
   exact w64 (by omega) (by omega)
  have w2:=wS1 e (by omega)
  simp only [l14_0,r14_2,SS,fC,reduceCtorEq,reduceIte,qQ,e0,e1,er,d1,d2]
  refine ⟨hp0,?_⟩
  simp only [r14_3,r14_4,SS,reduceCtorEq,reduceIte,qQ,e0,e1,e5,w1,w2]
  refine ⟨hp0,f,_,_,by omega,⟨x/p,e+1,h0,by omega,by omega,by omega,rfl,?_,?_,?_⟩,.refl⟩
  ·simp only [UU,qQ,reduceIte]
  ·simp only [UU,qQ,e1]
  ·simp only [UU,qQ,reduceIte]
 ·rw [if_neg h] at he
  have d2:decide (((x%p:Nat):Int)=0)=false:=decide_eq_false (by omega)
  simp only [l14_0,r14_2,SS,fC,reduceCtorEq,reduceIte,qQ,e0,e1,er,d1,d2]
  refine ⟨hp0,?_⟩
  simp only [r14_5,SS,reduceIte,qQ,e5]
  rw [<-he]
  exact ⟨.inl trivial,_,rfl,.keep _ _⟩
theorem zuq {r d e s:Nat} {cr cd:Option Nat} (hr:r≠0) (hr':r<4294967296) (hd:d≠0) (hd':d<4294967296) (h:r%d=0) (hs:e+s<9223372036854775808):
  Rt 78 [pz d cd,.int .i64 (s:Int),.ptr 0 0,.ptr 1 0] [some [.bool false,.vec [.int .u32 (r:Int)] 1 cr],some [.int .i64 (e:Int)]] (.bool true) [some [.bool false,.vec [.int .u32 ((r/d:Nat):Int)] 1 s2],some [.int .i64 ((e+s:Nat):Int)]]:=by
 have hdr:d<=r:=yH (by omega) (xK h)
 have t1:=zts false r d cr cd hr hr' hd hdr h
 have ws:IntKind.i64.wrap ((e:Int)+(s:Int))=((e+s:Nat):Int):=by rw [<-xC];exact w64 (by omega) (by omega)
 refine oF o78 ?_
 simp only [c78,r78_0,r78_1,SS,reduceCtorEq,reduceIte,qJ,qQ,qZ]
 refine zaa t1 ?_
 simp only [zaj,zad,qV,qU,SS,reduceIte,qJ,qQ,qZ,qB,qA]
 simp only [r78_2,SS,reduceIte,qJ,qQ,qZ]
 refine zaa (jay false (some 0)) ?_
 have d1:decide ((0:Int)≠0)=false:=by decide
 simp only [zaj,zad,qV,qU,SS,fC,reduceIte,qQ,d1]
 simp only [r78_4,r78_5,r78_6,SS,fC,reduceIte,qJ,qQ,qZ,ws]
 exact ⟨.inl trivial,_,rfl,.drop _ _ rfl (by
  intro i cs hi hc
  rcases (by omega:i=0\/i=1) with rfl | rfl
  ·cases hc;rfl
  ·cases hc;rfl)⟩
theorem zzz {r d e s:Nat} {cr cd:Option Nat} (hr:r≠0) (hr':r<4294967296) (hd:d≠0) (hd':d<4294967296) (h:r%d≠0):
  Rt 78 [pz d cd,.int .i64 (s:Int),.ptr 0 0,.ptr 1 0] [some [.bool false,.vec [.int .u32 (r:Int)] 1 cr],some [.int .i64 (e:Int)]] (.bool false) [some [.bool false,.vec [.int .u32 (r:Int)] 1 cr],some [.int .i64 (e:Int)]]:=by
 obtain ⟨q1,q2,q3,r2,hq,t1⟩:∃(q1:List AV) (q2:Nat) (q3 r2:Option Nat),qY q1=true/\Rt 79 [pz r cr,pz d cd] [] (.tup [.agg [.bool false,.vec q1 q2 q3],pz (r%d) r2,.bool true]) []:=by
  rcases xW r d with hl | hl
  ·refine ⟨[],0,some 0,none,rfl,?_⟩
   rw [Nat.mod_eq_of_lt hl]
   exact qnr false r d cr cd hr hd hl
  ·exact ⟨_,_,_,_,rfl,qgs false r d cr cd hr hr' hd hl h⟩
 have hrd:r%d<4294967296:=Nat.lt_of_le_of_lt (Nat.mod_le r d) hr'
 have cV:AV.closed (.tup [.agg [.bool false,.vec q1 q2 q3],pz (r%d) r2,.bool true])=true:=by simp only [AV.closed,qY,xY]
 refine oF o78 ?_
 simp only [c78,r78_0,r78_1,SS,reduceCtorEq,reduceIte,qJ,qQ,qZ]
 refine zaa t1 ?_ rfl cV
 simp only [zaj,zad,qV,qU,SS,reduceIte,qJ,qQ,qZ,qB,qA]
 simp only [r78_2,SS,reduceIte,qJ,qQ,qZ]
 refine zaa (znj (r%d) r2 h hrd) ?_
 have d1:decide ((1:Int)≠0)=true:=by decide
 simp only [zaj,zad,qV,qU,SS,fC,reduceIte,qQ,d1]
 simp only [r78_3,SS]
 exact ⟨.inl trivial,_,rfl,.drop _ _ rfl (by
  intro i cs hi hc
  rcases (by omega:i=0\/i=1) with rfl | rfl
  ·cases hc;rfl
  ·cases hc;rfl)⟩
open Go.Limb
theorem qir {id k i:Nat}:zak [id] k (i+1)=k+i:=by simp [zak]
theorem zpu {id k:Nat}:zak [id] k 0=id:=by simp [zak]
theorem callA_one {f:FuncId} {args args0:List AV} {id:Nat} {cs cs':List AV} {v:AV} {H L:Heap} {K:AV->Eff->List Nat->Nat->Prop} (h:Rt f args0 [some cs] v (some cs'::L)) (hid:getB H id=some cs)
  (hargs:args=args0.map (AV.ren (zak [id] H.length))) (hu:AV.under.underL 1 args0=true) (hcs:qY cs=true) (hcs':qY cs'=true)
  (hk:K (v.ren (zak [id] H.length)) ((id,some cs')::effs (zak [id] H.length) 1 L) [id] L.length):zlt Tryz.prog G f args H K:=by
 have hlt:=zag hid
 have hid2:H[id]?=some (some cs):=zch hid
 have:=CallR0.mk (P:= Tryz.prog) (Γ:=G) (f:=f) (args:=args) (k:=H.length) (H:=H++List.replicate L.length none) [id] args0 [some cs] v (some cs'::L) h rfl (by simp) (by simpa using hlt) hargs hu (by
  intro i c hi
  cases i with
  | zero=>
   simp at hi
   subst hi
   refine ⟨cs,rfl,zbd _ _ hcs,?_⟩
   rw [zpu,qM hlt,hid2]
   simp only [renB]
   rw [zar _ _ hcs]
  | succ i=>simp at hi)
 refine ⟨_,_,_,_,.base this,?_⟩
 have e:effs (zak [id] H.length) 0 (some cs'::L)=(id,some cs')::effs (zak [id] H.length) 1 L:=by
  simp only [effs,zpu,renB]
  rw [zar _ _ hcs']
 rw [e]
 simpa using hk
theorem zfx {f:FuncId} {args args0:List AV} {id:Nat} {cs cs':List AV} {v:AV} {H:Heap} {K:AV->Eff->List Nat->Nat->Prop} (h:Rt f args0 [some cs] v [some cs']) (hid:getB H id=some cs)
  (hargs:args=args0.map (AV.ren (zak [id] H.length))) (hk:K v [(id,some cs')] [id] 0) (hu:AV.under.underL 1 args0=true:=by rfl) (hcs:qY cs=true:=by rfl) (hcs':qY cs'=true:=by rfl) (hv:v.closed=true:=by rfl):zlt Tryz.prog G f args H K:=by
 refine callA_one h hid hargs hu hcs hcs' ?_
 rw [zec _ _ hv]
 exact hk
end Go.Proofs.YtpflahgcdgdkjaaGreatDoor
namespace Go.Proofs.YtpflahgcdgdkjaaGreatDoor
open Nat renaming reduceEqDiff -> qQ, reduceLeDiff -> qZ, reduceAdd -> qJ, pow_le_pow_right -> qD, le_refl -> qH, pow_succ -> qI, zero_add -> qN, mul_le_mul -> qO, eq_zero_or_pos -> qP, mod_eq_zero_of_dvd -> qR, one_le_two_pow -> qS, sub_self -> xQ, mul_zero -> xZ, pow_zero -> xJ, dvd_of_mod_eq_zero -> xK, lt_or_ge -> xW, pow_pos -> xA, div_add_mod -> xB, dvd_of_mul_dvd_mul_left -> xE, pow_one -> xN, le_mul_of_pos_right -> yQ, le_mul_of_pos_left -> yK, div_lt_iff_lt_mul -> yU, mul_dvd_mul_left -> yB, pow_le_pow_left -> yG, dvd_trans -> yI, lt_trichotomy -> zX, le_trans -> zZ, pow_add -> zB, one_ne_zero -> zM, min_eq_left -> zN
open List renaming getD_eq_getElem?_getD -> qX, getElem?_eq_getElem -> qK, replicate_zero -> qV, append_nil -> qU, take_of_length_le -> qC, getElem?_set_self -> qE, set_append_right -> qG, getElem?_append_right -> qL, getElem?_append_left -> qM, length_set -> qT, ext_getElem -> xX, append_assoc -> xV, getElem?_set_ne -> xU, drop_zero -> xG, mapM_cons -> xH, length_cons -> xT, nil_append -> yV, length_append -> yL, set_set -> yT, take_add_one -> zQ, getElem_set -> zV, length_take -> zY
open Int renaming toNat_natCast -> qW, natCast_mul -> xD, tmod_eq_emod_of_nonneg -> xI, emod_lt_of_pos -> yM, tmod_lt_of_pos -> yN, lt_tmod_of_pos -> yO, emod_nonneg -> zO
open Go.AL.AV.closed renaming closedL -> qY
open Option renaming bind_some -> zU
open Go Go.AL Go.Proofs
theorem zpv {i j k:Nat}:zak [i,j] k 0=i:=by simp [zak]
theorem zpw {i j k:Nat}:zak [i,j] k 1=j:=by simp [zak]
theorem zkf {f:FuncId} {args args0:List AV} {i j:Nat} {cs ds cs' ds':List AV} {v:AV} {H:Heap} {K:AV->Eff->List Nat->Nat->Prop} (h:Rt f args0 [some cs,some ds] v [some cs',some ds']) (hi:getB H i=some cs) (hj:getB H j=some ds) (hij:i≠j)
  (hargs:args=args0.map (AV.ren (zak [i,j] H.length))) (hk:K v [(i,some cs'),(j,some ds')] [i,j] 0) (hu:AV.under.underL 2 args0=true:=by rfl) (hcs:qY cs=true:=by rfl) (hds:qY ds=true:=by rfl) (hcs':qY cs'=true:=by rfl) (hds':qY ds'=true:=by rfl) (hv:v.closed=true:=by rfl):zlt Tryz.prog G f args H K:=by
 have li:=zag hi
 have lj:=zag hj
 have gi:=zch hi
 have gj:=zch hj
 have:=CallR0.mk (P:= Tryz.prog) (Γ:=G) (f:=f) (args:=args) (k:=H.length) (H:=H++List.replicate 0 none) [i,j] args0 [some cs,some ds] v [some cs',some ds'] h rfl (by simpa using hij) (by
  intro x hx
  rcases List.mem_cons.1 hx with e | e
  ·omega
  ·have:=List.mem_singleton.1 e;omega) hargs hu (by
  intro t c ht
  match t,ht with
  | 0,ht=>
   simp at ht
   subst ht
   refine ⟨cs,rfl,zbd _ _ hcs,?_⟩
   rw [zpv,qM li,gi]
   simp only [renB]
   rw [zar _ _ hcs]
  | 1,ht=>
   simp at ht
   subst ht
   refine ⟨ds,rfl,zbd _ _ hds,?_⟩
   rw [zpw,qM lj,gj]
   simp only [renB]
   rw [zar _ _ hds]
  | t+2,ht=>simp at ht)
 refine ⟨_,_,_,_,.base this,?_⟩
 have e:effs (zak [i,j] H.length) 0 [some cs',some ds']=[(i,some cs'),(j,some ds')]:=by
  simp only [effs,zpv,qN,zpw,renB]
  rw [zar _ _ hcs',zar _ _ hds']
 rw [e,zec _ _ hv]
 simpa using hk
theorem qvz {H:Heap} {n id:Nat} {cs xs:List AV} {c:Option Nat} (hid:getB H id=some cs) (hl:cs.length=n*2) (hn:n<1100) (hx:xs.length=2) (hs:AV.scalL xs=true) (hc:c=none\/c=some n):
  ∃e rd,(∀n0,zbf n0 (H.length+1) (H++[some xs]) 2 32 (.sl id 0 n 2 c) (.sl H.length 0 1 2 (some 1))=some (.sl (H.length+1) 0 (n+1) 2 none,e,rd))/\getB (zad e (H++[some xs]++[none])) (H.length+1)=some (cs++xs)/\
   (zad e (H++[some xs]++[none])).length=H.length+2/\∀i,i<H.length->i≠id->getB (zad e (H++[some xs]++[none])) i=getB H i:=by
 have hg:getB (H++[some xs]) H.length=some xs:=zbz
 have hlt:=zag hid
 have hc2:getB (H++[some xs]) id=some cs:=by rw [zcb hlt];exact hid
 have b1:4*(n+1)*32<=2^48:=by
  have:(2:Nat)^48=281474976710656:=rfl
  omega
 have b2:n+1<2^62:=by
  have:(2:Nat)^62=4611686018427387904:=rfl
  omega
 have hel:zde (H++[some xs]) 2 1 (.sl H.length 0 1 2 (some 1))=some (xs,[H.length]):=by
  simp only [zde,hg,need,qH,qN,Nat.one_mul,hx,and_self,if_true]
  rw [xG,qC (by omega)]
 have ht:cs.take (n*2)=cs:=qC (by omega)
 rcases hc with rfl | rfl
 ·refine ⟨[(id,none),(H.length+1,some (cs++xs))],[id,H.length],fun n0=>?_,?_,by simp [zad],?_⟩
  ·have e1:¬((none:Option Nat)=some n):=by simp
   have e2:id≠H.length+1:=by omega
   simp only [zbf,lenA,zU,hel,hc2,need,zM,if_false,true_and,hl,qH,b1,b2,and_self,if_true,e1,Nat.zero_le,hs,e2,ne_eq,not_false_eq_true,ht]
  ·simp only [zad]
   rw [zan (by simp)]
  ·intro i hi hne
   simp only [zad]
   rw [zae (by omega),zae (fun e=>hne e.symm),xV,zcb hi]
 ·refine ⟨[(H.length+1,some (cs++xs))],[id,H.length],fun n0=>?_,?_,by simp [zad],?_⟩
  ·simp only [zbf,lenA,zU,hel,hc2,need,zM,if_false,true_and,hl,qH,b1,b2,and_self,if_true,ht]
  ·simp only [zad]
   rw [zan (by simp)]
  ·intro i hi _
   simp only [zad]
   rw [zae (by omega),xV,zcb hi]
def pw (p:Nat):Nat->List AV
 | 0=>[]
 | k+1=>pw p k++[.bool false,.vec [.int .u32 ((p^2^k:Nat):Int)] 1 s2]
theorem zpx (p:Nat):∀k,(pw p k).length=k*2:=by
 intro k
 induction k with
 | zero=>rfl
 | succ k ih=>simp only [pw,yL,ih,xT,List.length_nil];omega
theorem qro (p:Nat):∀{k i:Nat},i<k->((pw p k).drop (i*2)).take 2=[.bool false,.vec [.int .u32 ((p^2^i:Nat):Int)] 1 s2]:=by
 intro k
 induction k with
 | zero=>intro i h;omega
 | succ k ih=>
  intro i h
  simp only [pw]
  rw [List.drop_append_of_le_length (by rw [zpx];omega)]
  rcases (by omega:i<k\/i=k) with e | rfl
  ·rw [List.take_append_of_le_length (by rw [List.length_drop,zpx];omega)]
   exact ih e
  ·rw [List.drop_of_length_le (by rw [zpx];omega)]
   rfl
theorem zmh (k:Nat):2^(k+1)-1=(2^k-1)+2^k:=by
 have h1:1<=2^k:=qS
 rw [qI]
 omega
theorem qrp {p x r k:Nat} (hp:2<=p) (hx:x<=2000) (hr:1<=r) (h:x=p^(2^k-1)*r):p^(2^k-1)<=2000/\k<=3:=by
 have h1:p^(2^k-1)<=2000:=by
  have:=yQ (p^(2^k-1)) hr
  omega
 refine ⟨h1,?_⟩
 rcases xW 3 k with hk | hk
 ·have a1:2^4<=2^k:=qD (by decide) hk
  have a2:2^11<=p^11:=yG hp 11
  have a3:p^11<=p^(2^k-1):=qD (by omega) (by omega)
  omega
 ·exact hk
theorem qzq {p k:Nat} (hp:2<=p) (hp2:p<=9973) (h:p^(2^k-1)<=2000):p^2^k<=4000000:=by
 cases k with
 | zero=>simp only [xJ,xN];omega
 | succ k=>
  have h1:1<=2^k:=qS
  have h2:p^1<=p^(2^(k+1)-1):=qD (by omega) (by rw [zmh];omega)
  rw [xN] at h2
  have h3:p^2^(k+1)=p*p^(2^(k+1)-1):=by
   rw [<-Nat.pow_succ']
   congr 1
   have:1<=2^(k+1):=qS
   omega
  rw [h3]
  have:=qO (zZ h2 h) h
  omega
theorem qwa (p k:Nat):p^2^k*p^2^k=p^2^(k+1):=by
 rw [<-zB]
 congr 1
 rw [qI]
 omega
def r3_0:RL:=[oP 9 (.box (.t 1)),oP 16 (.mov (.k (.bool false)))]
def r3_1:RL:=[mV 22 0,cL 23 6 [.t 22]]
def r3_2:RL:=[cL 24 7 [],mV 16 24]
def r3_3:RL:=[mV 25 6]
def r3_4:RL:=[ldO 26 true 4 9,cL 27 8 [.t 26,(kI 4)],mV 0 27]
def r3_5:RL:=[mV 28 2,cL 29 9 [.t 28],mV 17 29]
def r3_6:RL:=[mV 30 5]
def r3_7:RL:=[mV 31 3,mV 17 31]
def r3_8:RL:=[mV 32 7]
def r3_9:RL:=[mV 33 4,bK 34 .rem 33 5,bK 35 .add 34 5,bK 36 .rem 35 5,mV 4 36]
def r3_10:RL:=[mV 37 4,bK 38 .gtr 37 0,mV 39 38,gU 40 39 true (.mov (.t 17)),gU 41 39 true (.bin .gtr (.t 40) (kI 1)),oP 42 (.pick (.t 39) (.t 41) (.k (.bool false))),mV 43 42,gU 44 43 true (.mov (.t 4)),gU 45 43 true (.mov (.t 0)),gU 46 43 true (.len false (.t 45)),gU 47 43 true (.bin .mul (.t 44) (.t 46)),gU 48 43 true (.bin .lss (.t 47) (kI 64)),oP 49 (.pick (.t 43) (.t 48) (.k (.bool false))),mV 50 49,gU 51 50 true (.mov (.t 17)),gU 52 50 true (.mov (.t 4)),gU 53 50 true (.mov (.t 0)),gU 54 50 true (.len false (.t 53)),gU 55 50 true (.bin .mul (.t 52) (.t 54)),gU 56 50 true (.call 10 [.t 51,.t 55,(kI 2097152)]),gU 57 50 true (.bin .gtr (.t 56) (kI 20000)),oP 58 (.pick (.t 50) (.t 57) (.k (.bool false))),mV 59 58,gU 60 59 true (.mov (.t 17)),gU 61 59 true (.mov (.t 4)),gU 62 59 true (.mov (.t 0)),gU 63 59 true (.len false (.t 62)),gU 64 59 true (.bin .mul (.t 61) (.t 63)),gU 65 59 true (.call 10 [.t 60,.t 64,(kI 2097152)]),gU 66 59 true (.bin .leq (.t 65) (kI 2097152)),oP 67 (.pick (.t 59) (.t 66) (.k (.bool false)))]
def r3_11:RL:=[cL 68 7 [],mV 16 68]
def r3_12:RL:=[mV 70 0,mV 71 17,mV 72 4,cL 73 11 [.t 70,.t 71,.t 72],mV 69 73,eX 74 69 0,eX 75 69 1,mV 18 74,mV 19 75]
def r3_13:RL:=[mV 77 0,mV 78 17,mV 79 4,cL 80 12 [.t 77,.t 78,.t 79],mV 76 80,eX 81 76 0,eX 82 76 1,mV 20 81,mV 21 82]
def r3_14:RL:=[mV 83 19,mV 84 21,bT 85 .eql 83 84,mV 86 85,gU 87 86 true (.mov (.t 18)),gU 88 86 true (.mov (.t 20)),gU 89 86 true (.call 13 [.t 87,.t 88]),oP 90 (.pick (.t 86) (.t 89) (.k (.bool false))),mV 91 90,gU 92 91 true (.call 7 []),oP 93 (.pick (.t 91) (.t 92) (.k (.bool false))),mV 16 93]
def c3:CC:=(.seq (rN r3_0) (.seq (.seq (rN r3_1) (.cond (.t 23) (.seq (rN r3_2) .ret) .skip)) (.seq (.seq (rN r3_3) (.cond (.t 25) (rN r3_4) .skip)) (.seq (rN r3_5) (.seq (.seq (rN r3_6) (.cond (.t 30) (rN r3_7) .skip)) (.seq (.seq (rN r3_8) (.cond (.t 32) (rN r3_9) .skip)) (.seq (.seq (rN r3_10) (.cond (.t 67) (.seq (rN r3_11) .ret) .skip)) (.seq (rN r3_12) (.seq (rN r3_13) (.seq (rN r3_14) .ret))))))))))
theorem o3:FnI 3 94 Tryz.f3 c3 [(.tmp 16)]:=⟨Tryz.func3,by kernel_rfl⟩
def r6_0:RL:=[oP 2 (.mov (.k (.bool false)))]
def r6_1:RL:=[mV 5 0,lN 6 5,bK 7 .gtr 6 8]
def r6_2:RL:=[oP 2 (.mov (.k (.bool true)))]
def r6_3:RL:=[mV 8 0,lN 9 8,oP 10 (.mov (kI 0))]
def r6_4:RL:=[bT 11 .lss 10 9]
def r6_5:RL:=[iX 12 1 8 10,ldO 13 false 1 12,mV 4 13]
def r6_6:RL:=[mV 14 4,lN 15 14,bK 16 .gtr 15 8]
def r6_7:RL:=[oP 2 (.mov (.k (.bool true)))]
def r6_8:RL:=[bK 17 .add 10 1,mV 10 17]
def l6_0:CC:=(.seq (rN r6_4) (.seq (.cond (.t 11) .skip (.exit 0)) (.seq (.block 1 (.seq (rN r6_5) (.seq (rN r6_6) (.cond (.t 16) (.seq (rN r6_7) .ret) .skip)))) (rN r6_8))))
def r6_9:RL:=[oP 2 (.mov (.k (.bool false)))]
def c6:CC:=(.seq (rN r6_0) (.seq (.seq (rN r6_1) (.cond (.t 7) (.seq (rN r6_2) .ret) .skip)) (.seq (.seq (rN r6_3) (.block 0 (.loop l6_0))) (.seq (rN r6_9) .ret))))
theorem o6:FnI 6 18 Tryz.f6 c6 [(.tmp 2)]:=⟨Tryz.func6,by kernel_rfl⟩
def r9_0:RL:=[oP 2 (.mov (kI 0))]
def r9_1:RL:=[oP 4 (.bsl 20 1 [(.int .i64 0),(.int .i64 0),(.int .i64 0),(.int .i64 0),(.int .i64 0),(.int .i64 0),(.int .i64 0),(.int .i64 0),(.int .i64 0),(.int .i64 0),(.int .i64 0),(.int .i64 0),(.int .i64 0),(.int .i64 0),(.int .i64 0),(.int .i64 0),(.int .i64 0),(.int .i64 0),(.int .i64 0),(.int .i64 0)] [(0,(1,(kI 2))),(1,(1,(kI 3))),(2,(1,(kI 5))),(3,(1,(kI 7))),(4,(1,(kI 2))),(5,(1,(kI 3))),(6,(1,(kI 5))),(7,(1,(kI 11))),(8,(1,(kI 13))),(9,(1,(kI 17))),(10,(1,(kI 19))),(11,(1,(kI 23))),(12,(1,(kI 3))),(13,(1,(kI 2))),(14,(1,(kI 9973))),(15,(1,(kI 10007))),(16,(1,(kI 1))),(17,(1,(kI 4))),(18,(1,(kI 9))),(19,(1,(.k (.int .i64 (-3)))))]),mV 3 4]
def r9_2:RL:=[mV 5 3,mV 6 0,oP 7 (.conv .i64 (.t 6)),mV 8 3,lN 9 8,bT 10 .rem 7 9,iX 11 1 5 10,ldO 12 false 1 11,mV 2 12]
def c9:CC:=(.seq (rN r9_0) (.seq (rN r9_1) (.seq (rN r9_2) .ret)))
theorem o9:FnI 9 13 Tryz.f9 c9 [(.tmp 2)]:=⟨Tryz.func9,by kernel_rfl⟩
def r12_0:RL:=[oP 6 (.mov (.k (.vec [] 0 (some 0)))),oP 7 (.mov (kI 0))]
def r12_1:RL:=[mV 9 0,cL 10 29 [.t 9],oP 11 (.un .not (.t 10)),mV 8 11]
def r12_2:RL:=[oP 6 (.mov (.k (.vec [] 0 (some 0)))),oP 7 (.mov (kI 6))]
def r12_3:RL:=[mV 13 1,cL 14 30 [.t 13],oP 15 (.un .not (.t 14)),mV 12 15]
def r12_4:RL:=[oP 6 (.mov (.k (.vec [] 0 (some 0)))),oP 7 (.mov (kI 20))]
def r12_5:RL:=[mV 17 2,bK 18 .lss 17 1,mV 16 18]
def r12_6:RL:=[oP 6 (.mov (.k (.vec [] 0 (some 0)))),oP 7 (.mov (kI 1))]
def r12_7:RL:=[mV 20 2,bK 21 .gtr 20 64,mV 22 21,gU 23 22 false (.mov (.t 1)),gU 24 22 false (.mov (.t 2)),gU 25 22 false (.mov (.t 0)),gU 26 22 false (.len false (.t 25)),gU 27 22 false (.bin .mul (.t 24) (.t 26)),gU 28 22 false (.call 31 [.t 23,.t 27]),gU 29 22 false (.un .not (.t 28)),oP 30 (.pick (.t 22) (.k (.bool true)) (.t 29)),mV 19 30]
def r12_8:RL:=[oP 6 (.mov (.k (.vec [] 0 (some 0)))),oP 7 (.mov (kI 7))]
def r12_9:RL:=[mV 31 0,mV 32 1,mV 33 2,cL 34 33 [.t 32,.t 33],cL 35 32 [.t 31,.t 34],mV 6 35,oP 7 (.mov (kI 0))]
def c12:CC:=(.seq (rN r12_0) (.seq (.block 0 (.seq (rN r12_1) (.cond (.t 8) (.seq (rN r12_2) .ret) (.seq (rN r12_3) (.cond (.t 12) (.seq (rN r12_4) .ret) (.seq (rN r12_5) (.cond (.t 16) (.seq (rN r12_6) .ret) (.seq (rN r12_7) (.cond (.t 19) (.seq (rN r12_8) .ret) .skip))))))))) (.seq (rN r12_9) .ret)))
theorem o12:FnI 12 36 Tryz.f12 c12 [(.tmp 6),(.tmp 7)]:=⟨Tryz.func12,by kernel_rfl⟩
def r30_0:RL:=[oP 2 (.mov (.k (.bool false)))]
def r30_1:RL:=[mV 3 0,bK 4 .leq 3 9973,mV 5 4,gU 6 5 true (.mov (.t 0)),gU 7 5 true (.call 74 [.t 6]),oP 8 (.pick (.t 5) (.t 7) (.k (.bool false))),mV 2 8]
def c30:CC:=(.seq (rN r30_0) (.seq (rN r30_1) .ret))
theorem o30:FnI 30 9 Tryz.f30 c30 [(.tmp 2)]:=⟨Tryz.func30,by kernel_rfl⟩
def r31_0:RL:=[oP 4 (.mov (.k (.bool false)))]
def r31_1:RL:=[oP 5 (.mov (kI 1))]
def r31_2:RL:=[oP 6 (.mov (kI 0))]
def r31_3:RL:=[mV 7 6,mV 8 1,bT 9 .lss 7 8]
def r31_4:RL:=[mV 12 5,mV 13 0,oP 14 (.bin .quo (kI 2097152) (.t 13)),bT 15 .gtr 12 14]
def r31_5:RL:=[oP 4 (.mov (.k (.bool false)))]
def r31_6:RL:=[mV 16 5,mV 17 0,bT 18 .mul 16 17,mV 5 18]
def r31_7:RL:=[mV 10 6,bK 11 .add 10 1,mV 6 11]
def l31_0:CC:=(.seq (.seq (rN r31_3) (.cond (.t 9) .skip (.exit 0))) (.seq (.block 1 (.seq (.seq (rN r31_4) (.cond (.t 15) (.seq (rN r31_5) .ret) .skip)) (rN r31_6))) (rN r31_7)))
def r31_8:RL:=[oP 4 (.mov (.k (.bool true)))]
def c31:CC:=(.seq (rN r31_0) (.seq (rN r31_1) (.seq (.seq (rN r31_2) (.block 0 (.loop l31_0))) (.seq (rN r31_8) .ret))))
theorem o31:FnI 31 19 Tryz.f31 c31 [(.tmp 4)]:=⟨Tryz.func31,by kernel_rfl⟩
def r32_0:RL:=[oP 4 (.mov (.k (.vec [] 0 (some 0))))]
def r32_1:RL:=[mV 12 1,oP 13 (.mksl 1 8 [(.int .i64 0)] (.t 12) (.t 12)),mV 5 13]
def r32_2:RL:=[mV 14 0,lN 15 14,mV 6 15]
def r32_3:RL:=[mV 16 6,oP 17 (.mksl 1 8 [(.int .i64 0)] (.t 16) (.t 16)),mV 7 17]
def r32_4:RL:=[oP 8 (.mov (kI 0))]
def r32_5:RL:=[mV 18 0,lN 19 18,oP 20 (.mov (kI 0))]
def r32_6:RL:=[bT 21 .lss 20 19]
def r32_7:RL:=[mV 22 20,mV 9 22]
def r32_8:RL:=[mV 23 0,lN 24 23,oP 25 (.mov (kI 0))]
def r32_9:RL:=[bT 26 .lss 25 24]
def r32_10:RL:=[mV 27 25,mV 10 27]
def r32_11:RL:=[mV 28 8,mV 29 0,mV 30 9,iX 31 1 29 30,ldO 32 false 1 31,mV 33 10,iX 34 1 32 33,ldO 35 false 1 34,mV 36 1,cL 37 75 [.t 35,.t 36],mV 38 7,mV 39 9,iX 40 1 38 39,ldO 41 false 1 40,bT 42 .mul 37 41,mV 43 1,bT 44 .rem 42 43,mV 45 7,mV 46 10,iX 47 1 45 46,ldO 48 false 1 47,bT 49 .mul 44 48,bT 50 .add 28 49,mV 51 1,bT 52 .rem 50 51,mV 8 52]
def r32_12:RL:=[bK 53 .add 25 1,mV 25 53]
def l32_2:CC:=(.seq (rN r32_9) (.seq (.cond (.t 26) .skip (.exit 4)) (.seq (.block 5 (.seq (rN r32_10) (.reg r32_11 (some [(4,13),(7,13),(9,13),(4,20),(7,20),(9,20),(13,20)])))) (rN r32_12))))
def r32_13:RL:=[bK 54 .add 20 1,mV 20 54]
def l32_1:CC:=(.seq (rN r32_6) (.seq (.cond (.t 21) .skip (.exit 2)) (.seq (.block 3 (.seq (rN r32_7) (.seq (rN r32_8) (.block 4 (.loop l32_2))))) (rN r32_13))))
def r32_14:RL:=[mV 55 5,mV 56 8,iX 57 1 55 56,ldO 58 false 1 57,bK 59 .add 58 1,iX 60 1 55 56,sT (.store 1 (.t 60) (.t 59))]
def r32_15:RL:=[mV 61 6,bK 62 .sub 61 1,mV 11 62]
def r32_16:RL:=[mV 63 11,bK 64 .geq 63 0,mV 65 64,gU 66 65 true (.mov (.t 7)),gU 67 65 true (.mov (.t 11)),gU 68 65 true (.idx 1 (.t 66) (.t 67)),gU 69 65 true (.load false 1 (.t 68)),gU 70 65 true (.mov (.t 1)),gU 71 65 true (.bin .sub (.t 70) (kI 1)),gU 72 65 true (.bin .eql (.t 69) (.t 71)),oP 73 (.pick (.t 65) (.t 72) (.k (.bool false)))]
def r32_17:RL:=[mV 74 7,mV 75 11,iX 76 1 74 75,sT (.store 1 (.t 76) (kI 0))]
def r32_18:RL:=[mV 77 11,bK 78 .sub 77 1,mV 11 78]
def l32_3:CC:=(.seq (.seq (rN r32_16) (.cond (.t 73) .skip (.exit 6))) (.block 7 (.seq (rN r32_17) (rN r32_18))))
def r32_19:RL:=[mV 79 11,bK 80 .lss 79 0]
def r32_20:RL:=[mV 81 5,mV 4 81]
def r32_21:RL:=[mV 82 7,mV 83 11,iX 84 1 82 83,ldO 85 false 1 84,bK 86 .add 85 1,iX 87 1 82 83,sT (.store 1 (.t 87) (.t 86))]
def l32_0:CC:=(.block 1 (.seq (rN r32_4) (.seq (.seq (rN r32_5) (.block 2 (.loop l32_1))) (.seq (rN r32_14) (.seq (rN r32_15) (.seq (.block 6 (.loop l32_3)) (.seq (.seq (rN r32_19) (.cond (.t 80) (.seq (rN r32_20) .ret) .skip)) (rN r32_21))))))))
def c32:CC:=(.seq (rN r32_0) (.seq (rN r32_1) (.seq (rN r32_2) (.seq (rN r32_3) (.block 0 (.loop l32_0))))))
theorem o32:FnI 32 88 Tryz.f32 c32 [(.tmp 4)]:=⟨Tryz.func32,by kernel_rfl⟩
def r33_0:RL:=[oP 4 (.mov (kI 0))]
def r33_1:RL:=[oP 5 (.mov (kI 1))]
def r33_2:RL:=[oP 6 (.mov (kI 0))]
def r33_3:RL:=[mV 7 6,mV 8 1,bT 9 .lss 7 8]
def r33_4:RL:=[mV 12 5,mV 13 0,bT 14 .mul 12 13,mV 5 14]
def r33_5:RL:=[mV 10 6,bK 11 .add 10 1,mV 6 11]
def l33_0:CC:=(.seq (.seq (rN r33_3) (.cond (.t 9) .skip (.exit 0))) (.seq (.block 1 (rN r33_4)) (rN r33_5)))
def r33_6:RL:=[mV 15 5,mV 4 15]
def c33:CC:=(.seq (rN r33_0) (.seq (rN r33_1) (.seq (.seq (rN r33_2) (.block 0 (.loop l33_0))) (.seq (rN r33_6) .ret))))
theorem o33:FnI 33 16 Tryz.f33 c33 [(.tmp 4)]:=⟨Tryz.func33,by kernel_rfl⟩
def r74_0:RL:=[oP 2 (.mov (.k (.bool false)))]
def r74_1:RL:=[mV 4 0,bK 5 .lss 4 2,mV 6 5,gU 7 6 false (.mov (.t 0)),gU 8 6 false (.bin .gtr (.t 7) (kI 2147483647)),oP 9 (.pick (.t 6) (.k (.bool true)) (.t 8))]
def r74_2:RL:=[oP 2 (.mov (.k (.bool false)))]
def r74_3:RL:=[oP 3 (.mov (kI 2))]
def r74_4:RL:=[mV 10 3,mV 11 3,bT 12 .mul 10 11,mV 13 0,bT 14 .leq 12 13]
def r74_5:RL:=[mV 17 0,mV 18 3,bT 19 .rem 17 18,bK 20 .eql 19 0]
def r74_6:RL:=[oP 2 (.mov (.k (.bool false)))]
def r74_7:RL:=[mV 15 3,bK 16 .add 15 1,mV 3 16]
def l74_0:CC:=(.seq (.seq (rN r74_4) (.cond (.t 14) .skip (.exit 0))) (.seq (.block 1 (.seq (rN r74_5) (.cond (.t 20) (.seq (rN r74_6) .ret) .skip))) (rN r74_7)))
def r74_8:RL:=[oP 2 (.mov (.k (.bool true)))]
def c74:CC:=(.seq (rN r74_0) (.seq (.seq (rN r74_1) (.cond (.t 9) (.seq (rN r74_2) .ret) .skip)) (.seq (.seq (rN r74_3) (.block 0 (.loop l74_0))) (.seq (rN r74_8) .ret))))
theorem o74:FnI 74 21 Tryz.f74 c74 [(.tmp 2)]:=⟨Tryz.func74,by kernel_rfl⟩
def r75_0:RL:=[oP 4 (.mov (kI 0))]
def r75_1:RL:=[mV 6 0,mV 7 1,bT 8 .rem 6 7,mV 5 8]
def r75_2:RL:=[mV 9 5,bK 10 .lss 9 0]
def r75_3:RL:=[mV 11 5,mV 12 1,bT 13 .add 11 12,mV 5 13]
def r75_4:RL:=[mV 14 5,mV 4 14]
def c75:CC:=(.seq (rN r75_0) (.seq (rN r75_1) (.seq (.seq (rN r75_2) (.cond (.t 10) (rN r75_3) .skip)) (.seq (rN r75_4) .ret))))
theorem o75:FnI 75 15 Tryz.f75 c75 [(.tmp 4)]:=⟨Tryz.func75,by kernel_rfl⟩
def r138_0:RL:=[oP 2 (.mov (kI 0))]
def r138_1:RL:=[oP 10 (.build [(.int .i64 0),(.int .i64 0),(.int .i64 0)] [(0,(1,(kI 2))),(1,(1,(kI 3))),(2,(1,(kI 5)))]),oP 11 (.mov (kI 0))]
def r138_2:RL:=[bK 12 .lss 11 3]
def r138_3:RL:=[oP 13 (.idxv 3 false 1 (.t 10) (.t 11)),mV 4 13]
def r138_4:RL:=[mV 14 0,mV 15 4,bT 16 .rem 14 15,bK 17 .eql 16 0]
def r138_5:RL:=[mV 18 4,mV 2 18]
def r138_6:RL:=[bK 19 .add 11 1,mV 11 19]
def l138_0:CC:=(.seq (rN r138_2) (.seq (.cond (.t 12) .skip (.exit 0)) (.seq (.block 1 (.seq (rN r138_3) (.seq (rN r138_4) (.cond (.t 17) (.seq (rN r138_5) .ret) .skip)))) (rN r138_6))))
def r138_7:RL:=[mV 20 0,mV 5 20]
def r138_8:RL:=[oP 6 (.mov (kI 0))]
def r138_9:RL:=[oP 23 (.load true 8 (.k (.iptr [(.int .i64 7),(.int .i64 11),(.int .i64 13),(.int .i64 17),(.int .i64 19),(.int .i64 23),(.int .i64 29),(.int .i64 31)] 0))),oP 24 (.mov (kI 0))]
def r138_10:RL:=[bK 25 .lss 24 8]
def r138_11:RL:=[oP 26 (.idxv 8 false 1 (.t 23) (.t 24)),mV 8 26]
def r138_12:RL:=[mV 27 6,mV 28 8,bT 29 .add 27 28,mV 9 29]
def r138_13:RL:=[mV 30 9,mV 31 9,bT 32 .mul 30 31,mV 33 0,bT 34 .gtr 32 33]
def r138_14:RL:=[mV 35 0,mV 36 9,bT 37 .rem 35 36,bK 38 .eql 37 0]
def r138_15:RL:=[mV 39 9,mV 5 39]
def r138_16:RL:=[bK 40 .add 24 1,mV 24 40]
def l138_2:CC:=(.seq (rN r138_10) (.seq (.cond (.t 25) .skip (.exit 4)) (.seq (.block 5 (.seq (rN r138_11) (.seq (rN r138_12) (.seq (.seq (rN r138_13) (.cond (.t 34) (.exit 2) .skip)) (.seq (rN r138_14) (.cond (.t 38) (.seq (rN r138_15) (.exit 2)) .skip)))))) (rN r138_16))))
def r138_17:RL:=[mV 21 6,bK 22 .add 21 30,mV 6 22]
def l138_1:CC:=(.seq (.block 3 (.seq (rN r138_9) (.block 4 (.loop l138_2)))) (rN r138_17))
def r138_18:RL:=[mV 41 5,mV 2 41]
def c138:CC:=(.seq (rN r138_0) (.scope (.seq (.seq (rN r138_1) (.block 0 (.loop l138_0))) (.seq (rN r138_7) (.seq (.label 0) (.seq (.seq (rN r138_8) (.block 2 (.loop l138_1))) (.seq (rN r138_18) .ret)))))))
theorem o138:FnI 138 42 Tryz.f138 c138 [(.tmp 2)]:=⟨Tryz.func138,by kernel_rfl⟩
def LF (n l:Nat):Prop:=(l=n/\∀d,2<=d->d*d<=n->n%d≠0)\/(2<=l/\l*l<=n/\n%l=0/\∀d,2<=d->d<l->n%d≠0)
def Prm (n:Nat):Prop:=2<=n/\∀d,2<=d->d*d<=n->n%d≠0
theorem LF.uniq {n l l':Nat} (h:LF n l) (h':LF n l'):l=l':=by
 rcases h with ⟨rfl,h⟩ | ⟨h1,h2,h3,h4⟩
 ·rcases h' with ⟨rfl,h'⟩ | ⟨g1,g2,g3,g4⟩
  ·rfl
  ·exact absurd g3 (h _ g1 g2)
 ·rcases h' with ⟨rfl,h'⟩ | ⟨g1,g2,g3,g4⟩
  ·exact absurd h3 (h' _ h1 h2)
  ·rcases zX l l' with e | e | e
   ·exact absurd h3 (g4 l h1 e)
   ·exact e
   ·exact absurd g3 (h4 l' g1 e)
theorem LF.ex (n:Nat):∃l,LF n l:=by
 by_cases h:∃d,2<=d/\d*d<=n/\n%d=0
 ·have key:∀k d,d<=k->(2<=d/\d*d<=n/\n%d=0)->∃l,LF n l:=by
   intro k
   induction k with
   | zero=>intro d hd h;omega
   | succ k ih=>
    intro d hd h
    by_cases h2:∃d',2<=d'/\d'<d/\n%d'=0
    ·obtain ⟨d',a,b,c⟩:=h2
     exact ih d' (by omega) ⟨a,zZ (qO (by omega) (by omega)) h.2.1,c⟩
    ·exact ⟨d,.inr ⟨h.1,h.2.1,h.2.2,fun d' a b c=>h2 ⟨d',a,b,c⟩⟩⟩
  obtain ⟨d,hd⟩:=h
  exact key d d (qH _) hd
 ·exact ⟨n,.inl ⟨rfl,fun d a b c=>h ⟨d,a,b,c⟩⟩⟩
theorem LF.prm {n l:Nat} (hn:2<=n) (h:LF n l):l=n↔Prm n:=by
 constructor
 ·rintro rfl
  rcases h with ⟨_,h⟩ | ⟨h1,h2,_,_⟩
  ·exact ⟨hn,h⟩
  ·have:=Nat.mul_le_mul_right l h1
   omega
 ·intro hp
  rcases h with ⟨h,_⟩ | ⟨h1,h2,h3,_⟩
  ·exact h
  ·exact absurd h3 (hp.2 l h1 h2)
def off (j:Nat):Nat:=[7,11,13,17,19,23,29,31,37].getD j 0
theorem qzr:∀j,j<8->∀e,e<37->off j<e->e<off (j+1)->e%2=0\/e%3=0\/e%5=0:=by decide
theorem qis:∀j,j<9->7<=off j/\off j<=37:=by decide
theorem jbn {k j d:Nat} (hj:j<8) (h1:30*k+off j<d) (h2:d<30*k+off (j+1)):d%2=0\/d%3=0\/d%5=0:=by
 obtain ⟨e,rfl⟩:∃e,d=30*k+e:=⟨d-30*k,by omega⟩
 have:=qis (j+1) (by omega)
 have:=qzr j hj e (by omega) (by omega) (by omega)
 omega
theorem qzs {j:Nat} (hj:j<9):7<=off j/\off j<=37:=qis j hj
theorem qit {n d q:Nat} (h:n%d=0) (hq:d%q=0):n%q=0:=qR (yI (xK hq) (xK h))
theorem qox {n d:Nat} (h2:n%2≠0) (h3:n%3≠0) (h5:n%5≠0) (h:d%2=0\/d%3=0\/d%5=0):n%d≠0:=by
 intro e
 rcases h with h | h | h
 ·exact h2 (qit e h)
 ·exact h3 (qit e h)
 ·exact h5 (qit e h)
theorem qwb {d D n:Nat} (h:n<D*D) (hd:d*d<=n):d<D:=by
 rcases xW d D with e | e
 ·exact e
 ·have:=qO e e;omega
def offA:List AV:=[.int .i64 7,.int .i64 11,.int .i64 13,.int .i64 17,.int .i64 19,.int .i64 23,.int .i64 29,.int .i64 31]
theorem qoy {j:Nat} (hj:j<8):offA.getD j .junk= .int .i64 (off j:Int):=by
 rcases (by omega:j=0\/j=1\/j=2\/j=3\/j=4\/j=5\/j=6\/j=7) with rfl | rfl | rfl | rfl | rfl | rfl | rfl | rfl<;>rfl
theorem qwc {n l:Nat} (hn:2<=n) (hn2:n<=2147483647) (hl:LF n l):Rt 138 [.int .i64 (n:Int)] [] (.int .i64 (l:Int)) []:=by
 refine oF o138 ?_
 simp only [c138,r138_0,SS]
 refine zyq (wM ?_)
 simp only [r138_1,SS,reduceCtorEq,qJ,qZ]
 refine zai (fun m E H=>∃i:Nat,i+m=3/\H=[]/\E 0= .int .i64 (n:Int)/\E 10= .agg [.int .i64 2,.int .i64 3,.int .i64 5]/\E 11= .int .i64 (i:Int)/\(0<i->n%2≠0)/\(1<i->n%3≠0)/\(2<i->n%5≠0)) (n:=3)
  ⟨0,rfl,rfl,by simp only [UU,qQ],by simp only [UU,qQ,reduceIte],by simp only [UU,qQ,reduceIte];rfl,fun h=>absurd h (by omega),fun h=>absurd h (by omega),fun h=>absurd h (by omega)⟩ ?_
 rintro m E H ⟨i,him,rfl,e0,e10,e11,k2,k3,k5⟩
 refine wM ?_
 have er:∀q:Nat,Int.tmod (n:Int) (q:Int)=((n%q:Nat):Int):=fun q=>rfl
 simp only [l138_0,r138_2,SS,reduceCtorEq,reduceIte,e11]
 refine ⟨fun hlt=>?_,fun hge=>?_⟩
 ·obtain ⟨q,hq,hi⟩:∃q:Nat,([AV.int .i64 2,.int .i64 3,.int .i64 5]:List AV).getD i .junk= .int .i64 (q:Int)/\(i=0/\q=2\/i=1/\q=3\/i=2/\q=5):=by
   rcases (by omega:i=0\/i=1\/i=2) with rfl | rfl | rfl
   ·exact ⟨2,rfl,by omega⟩
   ·exact ⟨3,rfl,by omega⟩
   ·exact ⟨5,rfl,by omega⟩
  have w5:=wS1 i (by omega)
  simp only [r138_3,r138_4,SS,fC,reduceCtorEq,reduceIte,qJ,qQ,qZ,e0,e10,e11,hq,qW,er]
  refine ⟨⟨by omega,by omega,by omega⟩,by omega,fun h0=>?_,fun h0=>?_⟩
  ·have hlq:l=q:=by
    refine LF.uniq hl ?_
    rcases (by omega:q*q<=n\/n<q*q) with h | h
    ·refine .inr ⟨by omega,h,by omega,fun d hd hdq=>?_⟩
     rcases hi with ⟨rfl,rfl⟩ | ⟨rfl,rfl⟩ | ⟨rfl,rfl⟩
     ·omega
     ·rcases (by omega:d=2) with rfl;exact k2 (by omega)
     ·rcases (by omega:d=2\/d=3\/d=4) with rfl | rfl | rfl
      ·exact k2 (by omega)
      ·exact k3 (by omega)
      ·have:=k2 (by omega);omega
    ·refine .inl ⟨?_,fun d hd hdn=>?_⟩
     ·rcases hi with ⟨rfl,rfl⟩ | ⟨rfl,rfl⟩ | ⟨rfl,rfl⟩
      ·omega
      ·have:=k2 (by omega);omega
      ·have:=k2 (by omega);have:=k3 (by omega);omega
     ·have hdq:=qwb h hdn
      rcases hi with ⟨rfl,rfl⟩ | ⟨rfl,rfl⟩ | ⟨rfl,rfl⟩
      ·omega
      ·rcases (by omega:d=2) with rfl;exact k2 (by omega)
      ·rcases (by omega:d=2\/d=3\/d=4) with rfl | rfl | rfl
       ·exact k2 (by omega)
       ·exact k3 (by omega)
       ·have:=k2 (by omega);omega
   subst hlq
   simp only [r138_5,SS,reduceIte,qQ]
   refine ⟨fun _=>by simp,?_⟩
   exact ⟨.inl trivial,_,rfl,.keep _ _⟩
  ·simp only [r138_6,SS,reduceIte,qQ,e11,w5]
   refine ⟨m-1,_,_,by omega,⟨i+1,by omega,rfl,?_,?_,?_,fun h=>?_,fun h=>?_,fun h=>?_⟩,.refl⟩
   ·simp only [UU,qQ,e0]
   ·simp only [UU,qQ,e10]
   ·simp only [UU,qQ,reduceIte]
   ·rcases hi with ⟨rfl,rfl⟩ | ⟨rfl,rfl⟩ | ⟨rfl,rfl⟩
    ·omega
    ·exact k2 (by omega)
    ·exact k2 (by omega)
   ·rcases hi with ⟨rfl,rfl⟩ | ⟨rfl,rfl⟩ | ⟨rfl,rfl⟩
    ·omega
    ·omega
    ·exact k3 (by omega)
   ·rcases hi with ⟨rfl,rfl⟩ | ⟨rfl,rfl⟩ | ⟨rfl,rfl⟩<;>omega
 ·have hi3:i=3:=by omega
  subst hi3
  have k2:=k2 (by omega)
  have k3:=k3 (by omega)
  have k5:=k5 (by omega)
  simp only [r138_7,r138_8,SS,reduceCtorEq,reduceIte,qQ,e0]
  refine zai (fun m E H=>∃k:Nat,k+m=1600/\H=[]/\E 0= .int .i64 (n:Int)/\E 5= .int .i64 (n:Int)/\E 6= .int .i64 ((30*k:Nat):Int)/\(∀d,2<=d->d<30*k+7->n%d≠0)/\(k=0\/(30*k+1)*(30*k+1)<=n)) (n:=1600)
   ⟨0,rfl,rfl,by simp only [UU,qQ,e0],by simp only [UU,qQ,reduceIte],by simp only [UU,qQ,reduceIte];rfl,fun d hd hd7=>?_,.inl rfl⟩ ?_
  ·rcases (by omega:d=2\/d=3\/d=4\/d=5\/d=6) with rfl | rfl | rfl | rfl | rfl<;>omega
  clear e0 e10 e11 E
  rintro m E H ⟨k,hkm,rfl,e0,e5,e6,hd,hsq⟩
  refine wM ?_
  have hk:k<=1545:=by
   rcases hsq with h | h
   ·omega
   ·rcases xW 1545 k with h2 | h2
    ·have:=qO (show 46381<=30*k+1 by omega) (show 46381<=30*k+1 by omega)
     omega
    ·exact h2
  simp only [l138_1,r138_9,SS,qJ,qQ,qZ]
  refine zai (fun q E H=>∃j:Nat,j+q=8/\H=[]/\E 0= .int .i64 (n:Int)/\E 5= .int .i64 (n:Int)/\E 6= .int .i64 ((30*k:Nat):Int)/\E 23= .agg offA/\E 24= .int .i64 (j:Int)/\(∀d,2<=d->d<30*k+off j->n%d≠0)/\(j=0\/(30*k+off (j-1))*(30*k+off (j-1))<=n)) (n:=8)
   ⟨0,rfl,rfl,by simp only [UU,qQ,e0],by simp only [UU,qQ,e5],by simp only [UU,qQ,e6],by simp only [UU,qQ,reduceIte];rfl,by simp only [UU,qQ,reduceIte];rfl,hd,.inl rfl⟩ ?_
  rintro q E H ⟨j,hjq,rfl,e0,e5,e6,e23,e24,hd,hsqj⟩
  refine wM ?_
  simp only [l138_2,r138_10,SS,reduceCtorEq,reduceIte,qQ,e24]
  refine ⟨fun hlt=>?_,fun hge=>?_⟩
  ·have hj:j<8:=by omega
   obtain ⟨q,rfl⟩:∃q',q=q'+1:=⟨q-1,by omega⟩
   have ho:=qzs (j:=j) (by omega)
   have hg:=qoy hj
   have hol:offA.length=8:=rfl
   generalize hD:30*k+off j=D at*
   have wd:IntKind.i64.wrap (((30*k:Nat):Int)+(off j:Int))=(D:Int):=wQ (by omega)
   have hDD:D*D<=46390*46390:=qO (by omega) (by omega)
   have wq:IntKind.i64.wrap ((D:Int)*(D:Int))=((D*D:Nat):Int):=by rw [<-xD];exact w64 (by omega) (by omega)
   have w5:=wS1 j (by omega)
   have erD:=er D
   simp only [r138_11,r138_12,r138_13,SS,fC,reduceCtorEq,reduceIte,qQ,qZ,e0,e6,e23,e24,hg,hol,qW,wd,wq]
   refine ⟨⟨by omega,by omega,by omega⟩,fun hgt=>?_,fun hng=>?_⟩
   ·have hln:l=n:=LF.uniq hl (.inl ⟨rfl,fun d h2 hdn=>hd d h2 (qwb (by omega) hdn)⟩)
    subst hln
    simp only [r138_18,SS,reduceIte,qQ,e5]
    refine ⟨fun _=>by simp,?_⟩
    exact ⟨.inl trivial,_,rfl,.keep _ _⟩
   ·have hD0:(D:Int)≠0:=by omega
    simp only [r138_14,SS,reduceCtorEq,reduceIte,qQ,e0,erD]
    refine ⟨hD0,fun h0=>?_,fun h0=>?_⟩
    ·have hlD:l=D:=LF.uniq hl (.inr ⟨by omega,by omega,by omega,hd⟩)
     subst hlD
     simp only [r138_15,r138_18,SS,reduceIte,qQ]
     refine ⟨fun _=>by simp,?_⟩
     exact ⟨.inl trivial,_,rfl,.keep _ _⟩
    ·simp only [r138_16,SS,reduceIte,qQ,e24,w5]
     refine ⟨q,_,_,by omega,⟨j+1,by omega,rfl,?_,?_,?_,?_,?_,fun d h2 hlt=>?_,.inr ?_⟩,.refl⟩
     ·simp only [UU,qQ,e0]
     ·simp only [UU,qQ,e5]
     ·simp only [UU,qQ,e6]
     ·simp only [UU,qQ,e23]
     ·simp only [UU,qQ,reduceIte]
     ·rcases (by omega:d<D\/d=D\/D<d) with h | h | h
      ·exact hd d h2 h
      ·subst h;omega
      ·exact qox k2 k3 k5 (jbn hj (by omega) hlt)
     ·rw [Nat.add_sub_cancel,hD];omega
  ·have hj8:j=8:=by omega
   subst hj8
   obtain ⟨m,rfl⟩:∃m',m=m'+1:=⟨m-1,by omega⟩
   have e31:off (8-1)=31:=rfl
   have e37:off 8=37:=rfl
   rw [e31] at hsqj
   rw [e37] at hd
   have w30:IntKind.i64.wrap (((30*k:Nat):Int)+30)=((30*(k+1):Nat):Int):=wQ (by omega)
   simp only [r138_17,SS,reduceIte,qQ,e6,w30]
   refine ⟨m,_,_,by omega,⟨k+1,by omega,rfl,?_,?_,?_,fun d h2 hlt=>hd d h2 (by omega),.inr ?_⟩,.refl⟩
   ·simp only [UU,qQ,e0]
   ·simp only [UU,qQ,e5]
   ·simp only [UU,qQ,reduceIte]
   ·rw [show 30*(k+1)+1=30*k+31 by omega];omega
def PrmZ (z:Int):Prop:=2<=z/\z<=2147483647/\Prm z.toNat
theorem prIs {z:Int} {b:Bool} (hb:b=true↔PrmZ z):Rt 71 [.int .i64 z] [] (.bool b) []:=by
 refine oF o71 ?_
 by_cases h2:2<=z
 rotate_left
 ·have d1:decide (2<=z)=false:=decide_eq_false h2
  obtain rfl:b=false:=by
   cases b with
   | false=>rfl
   | true=>exact absurd (hb.1 rfl).1 h2
  simp only [c71,r71_0,r71_1,SS,fC,reduceCtorEq,reduceIte,qQ,d1]
  exact ⟨.inl trivial,_,rfl,.keep _ _⟩
 have d1:decide (2<=z)=true:=decide_eq_true h2
 by_cases hM:z<=2147483647
 rotate_left
 ·have d2:decide (z<=2147483647)=false:=decide_eq_false hM
  obtain rfl:b=false:=by
   cases b with
   | false=>rfl
   | true=>exact absurd (hb.1 rfl).2.1 hM
  simp only [c71,r71_0,r71_1,SS,fC,reduceCtorEq,reduceIte,qQ,d1,d2]
  exact ⟨.inl trivial,_,rfl,.keep _ _⟩
 have d2:decide (z<=2147483647)=true:=decide_eq_true hM
 obtain ⟨n,rfl⟩:∃n:Nat,z=(n:Int):=⟨z.toNat,by omega⟩
 obtain ⟨l,hl⟩:=LF.ex n
 have t:=qwc (n:=n) (by omega) (by omega) hl
 have hbl:decide ((l:Int)=(n:Int))=b:=by
  have hp:=LF.prm (by omega) hl
  have:(l:Int)=(n:Int)↔b=true:=by
   rw [hb]
   constructor
   ·intro e;exact ⟨h2,hM,by rw [qW];exact hp.1 (by omega)⟩
   ·intro e;have:=hp.2 (by have:=e.2.2;rwa [qW] at this);omega
  cases b with
  | true=>exact decide_eq_true (this.2 rfl)
  | false=>exact decide_eq_false (fun e=>by simpa using this.1 e)
 simp only [c71,r71_0,r71_1,SS,fC,reduceCtorEq,reduceIte,qQ,d1,d2]
 refine zaa t ?_
 simp only [SS,fC,reduceCtorEq,reduceIte,qQ,hbl]
 exact ⟨.inl trivial,_,rfl,.keep _ _⟩
abbrev pzC (x:Nat) (c:Option Nat):List AV:=[.bool false,.vec [.int .u32 (x:Int)] 1 c]
theorem okV:okC (okFn Tryz.prog) 78=true:=zyd qre (by decide)
theorem qwd {p e r x:Nat} (hp:2<=p) (hr:1<=r) (hx:x<=2000) (h:x=p^e*r):e<2000:=by
 have h1:=Nat.lt_two_pow_self (n:=e)
 have h2:=yG hp e
 have h3:=yQ (p^e) hr
 omega
theorem shlK {k:Nat} (h:k<=10):IntKind.i64.wrap (1*2^k)=((2^k:Nat):Int):=by
 have:2^k<=2^10:=qD (by decide) h
 rw [Int.one_mul]
 have e:(2:Int)^k=((2^k:Nat):Int):=by simp
 rw [e]
 generalize 2^k=y at*
 exact w64 (by omega) (by omega)
section
variable {p x:Nat} {Q:Post}
structure ValS (p x:Nat) (K e r:Nat) (H:Heap) (E:Env):Prop where
 split:x=p^e*r
 r1:1<=r
 b2:getB H 2=some (pzC r (if e=0 then none else s2))
 b3:getB H 3=some [.int .i64 (e:Int)]
 b1:∃u v,getB H 1=some [u,v]
 e5:E 5= .ptr 1 0
 e6:E 6= .int .i64 0
 e7:E 7= .ptr 2 0
 e8:E 8= .ptr 3 0
 e9:E 9= .clo 78 [.ptr 2 0,.ptr 3 0]
 e10:∃id c,E 10= .sl id 0 K 2 c/\(c=none\/c=some K)/\getB H id=some (pw p K)/\4<=id
theorem qoz (hp:2<=p) (hp2:p<=9973) (hx:x<=2000) {K j0 e0 r0:Nat} {H0:Heap} {E0:Env} (h0:ValS p x K e0 r0 H0 E0) (hK:K<=4) (hj:j0<=K) (hbd:∀i,i<K->p^2^i<=4000000) (h12:E0 12= .int .i64 ((j0:Int)-1)) (hnd:¬p^2^j0∣r0)
  (hQ:∀E H e r,ValS p x K e r H E->¬p∣r->Q (.exit 2) E H):Wg 0 68 (.loop l34_1) E0 H0 Q:=by
 refine zai (fun j E H=>∃e r,ValS p x K e r H E/\j<=K/\E 12= .int .i64 ((j:Int)-1)/\¬p^2^j∣r) (n:=j0) ⟨e0,r0,h0,hj,h12,hnd⟩ ?_
 clear h0 h12 hnd hj
 rintro j E H ⟨e,r,hS,hj,h12,hnd⟩
 refine wM ?_
 rcases qP j with h0 | h0
 ·subst h0
  have d1:decide ((0:Int)<=((0:Nat):Int)-1)=false:=by decide
  simp only [l34_1,r34_13,SS,fC,reduceIte,qQ,h12,d1]
  refine hQ _ _ e r ⟨hS.split,hS.r1,hS.b2,hS.b3,hS.b1,?_,?_,?_,?_,?_,?_⟩ (by simpa using hnd)
  ·simp only [UU,qQ,hS.e5]
  ·simp only [UU,qQ,hS.e6]
  ·simp only [UU,qQ,hS.e7]
  ·simp only [UU,qQ,hS.e8]
  ·simp only [UU,qQ,hS.e9]
  ·obtain ⟨id,c,g1,g2⟩:=hS.e10
   exact ⟨id,c,by simp only [UU,qQ,g1],g2⟩
 ·obtain ⟨j,rfl⟩:∃j',j=j'+1:=⟨j-1,by omega⟩
  have e12:E 12= .int .i64 (j:Int):=by rw [h12];congr 1;omega
  have d1:decide ((0:Int)<=(j:Int))=true:=decide_eq_true (by omega)
  obtain ⟨id,c,g1,g2,g3,g4⟩:=hS.e10
  have hpw:=qro p (k:=K) (i:=j) (by omega)
  have hpl:=zpx p K
  have hd0:p^2^j≠0:=Nat.ne_of_gt (xA (by omega))
  have hdb:=hbd j (by omega)
  have hr:=hS.r1
  have hrx:r<=x:=by rw [hS.split];exact yK r (xA (by omega))
  have sh:=shlK (k:=j) (by omega)
  simp only [l34_1,r34_13,r34_14,SS,fC,reduceIte,qQ,e12,d1,g1,g3,hpl,hpw,hS.e9,qW]
  have hmin:min j IntKind.i64.bits=j:=zN (by show j<=64;omega)
  have hes:=qwd hp hr hx hS.split
  have h2l:=zag hS.b2
  have h3l:=zag hS.b3
  have w15:IntKind.i64.wrap ((j:Int)-1)=(j:Int)-1:=w64 (by omega) (by omega)
  rw [hmin,sh]
  refine ⟨⟨by omega,by omega⟩,by omega,by omega,_,_,rfl,okV,?_⟩
  by_cases hdiv:r%p^2^j=0
  ·have hdd:p^2^j*(r/p^2^j)=r:=by have:=xB r (p^2^j);omega
   have hq1:1<=r/p^2^j:=by
    rcases qP (r/p^2^j) with h | h
    ·rw [h,xZ] at hdd;omega
    ·exact h
   have h2j:2^j<=2^10:=qD (by decide) (by omega)
   refine zkf (i:=2) (j:=3) (args0:=[pz (p^2^j) s2,.int .i64 ((2^j:Nat):Int),.ptr 0 0,.ptr 1 0]) (zuq (by omega) (by omega) hd0 (by omega) hdiv (by omega)) hS.b2 hS.b3 (by decide) rfl ?_
   simp only [zaj,zad,keys,qV,qU,SS]
   refine ⟨rfl,?_⟩
   simp only [r34_15,SS,reduceIte,qQ,e12,w15]
   refine ⟨j,_,_,by omega,⟨e+2^j,r/p^2^j,⟨?_,hq1,?_,?_,?_,?_,?_,?_,?_,?_,?_⟩,by omega,?_,?_⟩,.refl⟩
   ·rw [zB,Nat.mul_assoc,hdd];exact hS.split
   ·rw [zae (by decide),zan h2l,if_neg (by have:=qS (n:=j);omega)]
   ·rw [zan (by rw [qT];exact h3l)]
   ·obtain ⟨u,v,h⟩:=hS.b1
    exact ⟨u,v,by rw [zae (by decide),zae (by decide)];exact h⟩
   ·simp only [UU,qQ,hS.e5]
   ·simp only [UU,qQ,hS.e6]
   ·simp only [UU,qQ,hS.e7]
   ·simp only [UU,qQ,hS.e8]
   ·simp only [UU,qQ,hS.e9]
   ·exact ⟨id,c,by simp only [UU,qQ,g1],g2,by rw [zae (by omega),zae (by omega)];exact g3,g4⟩
   ·simp only [UU,qQ,reduceIte]
   ·intro hh
    refine hnd ?_
    rw [<-qwa,<-hdd]
    exact yB _ hh
  ·refine zkf (i:=2) (j:=3) (args0:=[pz (p^2^j) s2,.int .i64 ((2^j:Nat):Int),.ptr 0 0,.ptr 1 0]) (zzz (by omega) (by omega) hd0 (by omega) hdiv) hS.b2 hS.b3 (by decide) rfl ?_
   simp only [zaj,zad,keys,qV,qU,SS]
   refine ⟨rfl,?_⟩
   simp only [r34_15,SS,reduceIte,qQ,e12,w15]
   refine ⟨j,_,_,by omega,⟨e,r,⟨hS.split,hr,?_,?_,?_,?_,?_,?_,?_,?_,?_⟩,by omega,?_,fun hh=>hdiv (qR hh)⟩,.refl⟩
   ·rw [zae (by decide),zan h2l]
   ·rw [zan (by rw [qT];exact h3l)]
   ·obtain ⟨u,v,h⟩:=hS.b1
    exact ⟨u,v,by rw [zae (by decide),zae (by decide)];exact h⟩
   ·simp only [UU,qQ,hS.e5]
   ·simp only [UU,qQ,hS.e6]
   ·simp only [UU,qQ,hS.e7]
   ·simp only [UU,qQ,hS.e8]
   ·simp only [UU,qQ,hS.e9]
   ·exact ⟨id,c,by simp only [UU,qQ,g1],g2,by rw [zae (by omega),zae (by omega)];exact g3,g4⟩
   ·simp only [UU,qQ,reduceIte]
theorem qzt (hp:2<=p) (hp2:p<=9973) (hx:x<=2000) {r0:Nat} {H0:Heap} {E0:Env} (h0:ValS p x 1 0 r0 H0 E0)
  (hQ:∀E H k e r,ValS p x (k+1) e r H E->k<=3->(∀i,i<k+1->p^2^i<=4000000)->¬p^2^k∣r->Q (.exit 0) E H):Wg 0 68 (.loop l34_0) E0 H0 Q:=by
 refine zai (fun f E H=>∃k r,k+f=4/\ValS p x (k+1) (2^k-1) r H E/\∀i,i<k+1->p^2^i<=4000000) (n:=4) ⟨0,r0,rfl,h0,fun i hi=>?_⟩ ?_
 ·obtain rfl:i=0:=by omega
  simp only [xJ,xN];omega
 clear h0
 rintro f E H ⟨k,r,hkf,hS,hbd⟩
 refine wM ?_
 have hr:=hS.r1
 obtain ⟨hfw,hk3⟩:=qrp hp hx hr hS.split
 obtain ⟨id,c,g1,g2,g3,g4⟩:=hS.e10
 have hpw:=qro p (k:=k+1) (i:=k) (by omega)
 have hpl:=zpx p (k+1)
 have hd0:p^2^k≠0:=Nat.ne_of_gt (xA (by omega))
 have hdb:=hbd k (by omega)
 have hrx:r<=x:=by
  have:=hS.split
  rw [this];exact yK r (xA (by omega))
 have sh:=shlK (k:=k) (by omega)
 have hmin:min k IntKind.i64.bits=k:=zN (by show k<=64;omega)
 have wk:IntKind.i64.wrap (((k+1:Nat):Int)-1)=(k:Int):=wQ (by omega)
 have h2l:=zag hS.b2
 have h3l:=zag hS.b3
 simp only [l34_0,r34_9,SS,reduceIte,qQ,g1,g3,hpl,hS.e9,wk,qW,hpw,hmin,sh]
 refine ⟨⟨by omega,by omega⟩,by omega,by omega,_,_,rfl,okV,?_⟩
 have he1:1<=2^k:=qS
 have h2j:2^k<=2^10:=qD (by decide) (by omega)
 by_cases hdiv:r%p^2^k=0
 rotate_left
 ·refine zkf (i:=2) (j:=3) (args0:=[pz (p^2^k) s2,.int .i64 ((2^k:Nat):Int),.ptr 0 0,.ptr 1 0]) (zzz (by omega) (by omega) hd0 (by omega) hdiv) hS.b2 hS.b3 (by decide) rfl ?_
  simp only [zaj,zad,keys,qV,qU,SS,fC,reduceIte,qQ]
  refine ⟨rfl,?_⟩
  refine hQ _ _ k (2^k-1) r ⟨hS.split,hr,?_,?_,?_,?_,?_,?_,?_,?_,?_⟩ hk3 hbd (fun hh=>hdiv (qR hh))
  ·rw [zae (by decide),zan h2l]
  ·rw [zan (by rw [qT];exact h3l)]
  ·obtain ⟨u,v,h⟩:=hS.b1
   exact ⟨u,v,by rw [zae (by decide),zae (by decide)];exact h⟩
  ·simp only [UU,qQ,hS.e5]
  ·simp only [UU,qQ,hS.e6]
  ·simp only [UU,qQ,hS.e7]
  ·simp only [UU,qQ,hS.e8]
  ·simp only [UU,qQ,hS.e9]
  ·exact ⟨id,c,by simp only [UU,qQ,g1],g2,by rw [zae (by omega),zae (by omega)];exact g3,g4⟩
 have hdd:p^2^k*(r/p^2^k)=r:=by have:=xB r (p^2^k);omega
 have hq1:1<=r/p^2^k:=by
  rcases qP (r/p^2^k) with h | h
  ·rw [h,xZ] at hdd;omega
  ·exact h
 have hsp:x=p^(2^(k+1)-1)*(r/p^2^k):=by
  rw [zmh,zB,Nat.mul_assoc,hdd];exact hS.split
 obtain ⟨hfw2,hk2⟩:=qrp hp hx hq1 hsp
 have hdb2:=qzq hp hp2 hfw2
 have hee:2^k-1+2^k=2^(k+1)-1:=(zmh k).symm
 have hyes:=zuq (r:=r) (d:=p^2^k) (e:=2^k-1) (s:=2^k) (cr:=if 2^k-1=0 then none else s2) (cd:=s2) (by omega) (by omega) hd0 (by omega) hdiv (by omega)
 rw [hee] at hyes
 refine zkf (i:=2) (j:=3) (args0:=[pz (p^2^k) s2,.int .i64 ((2^k:Nat):Int),.ptr 0 0,.ptr 1 0]) hyes hS.b2 hS.b3 (by decide) rfl ?_
 simp only [zaj,zad,keys,qV,qU,SS,fC,reduceIte,qQ]
 refine ⟨rfl,?_⟩
 generalize hH1:(H.set 2 _).set 3 _=H1
 have b2:getB H1 2=some (pzC (r/p^2^k) s2):=by rw [<-hH1,zae (by decide),zan h2l]
 have b3:getB H1 3=some [.int .i64 ((2^(k+1)-1:Nat):Int)]:=by rw [<-hH1,zan (by rw [qT];exact h3l)]
 have b1:∃u v,getB H1 1=some [u,v]:=by
  obtain ⟨u,v,h⟩:=hS.b1
  exact ⟨u,v,by rw [<-hH1,zae (by decide),zae (by decide)];exact h⟩
 have gi:getB H1 id=some (pw p (k+1)):=by rw [<-hH1,zae (by omega),zae (by omega)];exact g3
 have tm:=qyn false false (p^2^k) (p^2^k) s2 s2 hd0 (by omega) hd0 (by omega) (by rw [qwa];omega)
 rw [qwa] at tm
 have tm:Rt 52 [pz (p^2^k) s2,pz (p^2^k) s2] [] (pz (p^2^(k+1)) s2) []:=tm
 have hs1:getB (H1++[some [AV.bool false,AV.vec [] 0 (some 0)]]) H1.length=some [AV.bool false,AV.vec [] 0 (some 0)]:=zbz
 have hs2:(H1++[some [AV.bool false,AV.vec [] 0 (some 0)]]).set H1.length (some [AV.bool false,AV.vec [AV.int IntKind.u32 ((p^2^k:Nat):Int)] 1 s2])=H1++[some (pzC (p^2^k) s2)]:=by
  rw [qG _ _ (qH _),xQ];rfl
 simp only [r34_10,SS,reduceIte,qJ,qQ,qZ,g1,gi,hpl,wk,qW,hpw,hs1,hs2]
 refine ⟨⟨by omega,by omega⟩,by omega,?_⟩
 have hl1:=zag b2
 have hg2:getB (H1++[some (pzC (p^2^k) s2)]) H1.length=some (pzC (p^2^k) s2):=zbz
 have c2:getB (H1++[some (pzC (p^2^k) s2)]) 2=some (pzC (r/p^2^k) s2):=by rw [zcb (zag b2)];exact b2
 have c3:getB (H1++[some (pzC (p^2^k) s2)]) 3=some [.int .i64 ((2^(k+1)-1:Nat):Int)]:=by rw [zcb (zag b3)];exact b3
 have c1:∃u v,getB (H1++[some (pzC (p^2^k) s2)]) 1=some [u,v]:=by
  obtain ⟨u,v,h⟩:=b1
  exact ⟨u,v,by rw [zcb (zag h)];exact h⟩
 have ci:getB (H1++[some (pzC (p^2^k) s2)]) id=some (pw p (k+1)):=by rw [zcb (zag gi)];exact gi
 generalize hH2:H1++[some (pzC (p^2^k) s2)]=H2 at*
 obtain ⟨ef,rd,hap,hnew,hlen,hold⟩:=qvz (xs:=pzC (p^2^(k+1)) s2) ci (zpx p (k+1)) (by omega) rfl rfl g2
 simp only [r34_11,SS,reduceIte,qJ,qQ,qZ,g1,hg2]
 refine zaa tm ?_
 simp only [zaj,zad,qV,qU,SS,reduceIte,qJ,qQ,qZ,zcu,hap]
 have hl2:=zag c2
 have hl3:=zag c3
 have hli:=zag ci
 refine ⟨f-1,_,_,by omega,⟨k+1,r/p^2^k,by omega,⟨hsp,hq1,?_,?_,?_,?_,?_,?_,?_,?_,?_⟩,fun i hi=>?_⟩,.refl⟩
 ·rw [hold 2 hl2 (by omega),c2,if_neg (by rw [zmh];omega)]
 ·rw [hold 3 hl3 (by omega),c3]
 ·obtain ⟨u,v,h⟩:=c1
  exact ⟨u,v,by rw [hold 1 (zag h) (by omega)];exact h⟩
 ·simp only [UU,qQ,hS.e5]
 ·simp only [UU,qQ,hS.e6]
 ·simp only [UU,qQ,hS.e7]
 ·simp only [UU,qQ,hS.e8]
 ·simp only [UU,qQ,hS.e9]
 ·exact ⟨H2.length+1,none,by simp only [UU,qQ,reduceIte],.inl rfl,hnew,by omega⟩
 ·rcases (by omega:i<k+1\/i=k+1) with h | rfl
  ·exact hbd i h
  ·exact hdb2
end
theorem zxl {p x:Nat} (hp:PrmZ (p:Int)) (hp2:p<=9973) (hx1:1<=x) (hx:x<=2000):∃r c,Rt 34 [pz x s2,.int .i64 (p:Int)] [] (.tup [.int .i64 ((expo p x x:Nat):Int),pz r c,.int .i64 0]) []:=by
 have hp':2<=p:=by have:=hp.1;omega
 have ti:=prIs (z:=(p:Int)) (b:=true) ⟨fun _=>hp,fun _=>rfl⟩
 obtain ⟨hs1,hs2⟩:=zup hp' x x hx1 (qH x)
 refine ⟨x/p^expo p x x,if expo p x x=0 then none else s2,?_⟩
 generalize hE:expo p x x=e0 at*
 refine oF o34 ?_
 simp only [c34,r34_0,r34_1,SS,reduceCtorEq,reduceIte,qQ]
 refine zaa ti ?_
 simp only [zaj,zad,qV,qU,SS,fC,reduceIte,qQ]
 simp only [r34_3,SS,reduceIte,qJ,qQ,qZ]
 refine zaa (znj x s2 (by omega) (by omega)) ?_
 have d1:decide ((1:Int)=0)=false:=by decide
 simp only [zaj,zad,qV,qU,SS,fC,reduceIte,qQ,d1]
 simp only [r34_5,SS,reduceIte,qJ,qQ,qZ]
 refine zaa (zpg false x s2 (by omega) (by omega)) ?_
 simp only [zaj,zad,qV,qU,SS,reduceIte,qJ,qQ,qZ]
 simp only [r34_6,r34_7,r34_8,SS,reduceIte,qJ,qQ,qZ]
 refine zaa (zyt p (by omega) (by omega)) ?_
 simp only [zaj,zad,qV,qU,SS,reduceIte,qJ,qQ,qZ]
 refine qzt hp' hp2 hx (r0:=x) ⟨by rw [xJ,Nat.one_mul],hx1,rfl,rfl,⟨_,_,rfl⟩,by simp only [UU,qQ,reduceIte],by simp only [UU,qQ,reduceIte],by simp only [UU,qQ,reduceIte],by simp only [UU,qQ,reduceIte],by simp only [UU,qQ,reduceIte],4,some 1,by simp only [UU,qQ,reduceIte],.inr rfl,by simp only [pw,qui,quj,yV,xJ,xN],by omega⟩ ?_
 intro E H k e r hS hk3 hbd hnd
 obtain ⟨id,c,g1,g2,g3,g4⟩:=hS.e10
 have wk:IntKind.i64.wrap (((k+1:Nat):Int)-2)=(k:Int)-1:=wQ (by omega)
 simp only [r34_12,SS,reduceCtorEq,reduceIte,qQ,g1,wk]
 refine qoz hp' hp2 hx (K:=k+1) (j0:=k) (e0:=e) (r0:=r) ⟨hS.split,hS.r1,hS.b2,hS.b3,hS.b1,?_,?_,?_,?_,?_,id,c,?_,g2,g3,g4⟩ (by omega) (by omega) hbd ?_ hnd ?_
 ·simp only [UU,qQ,hS.e5]
 ·simp only [UU,qQ,hS.e6]
 ·simp only [UU,qQ,hS.e7]
 ·simp only [UU,qQ,hS.e8]
 ·simp only [UU,qQ,hS.e9]
 ·simp only [UU,qQ,g1]
 ·simp only [UU,qQ,reduceIte]
 clear hS hnd g1 g2 g3 g4
 intro E2 H2 e r hS hnd
 have hee:e=e0:=by
  refine qiq (p:=p) (n:=x) ?_ ?_ hs1 hs2
  ·rw [hS.split];exact Nat.dvd_mul_right _ _
  ·intro hh
   rw [hS.split,qI] at hh
   exact hnd (xE (xA (by omega)) hh)
 subst hee
 have hrr:r=x/p^e:=by
  have:=hS.split
  rw [this,Nat.mul_div_cancel_left _ (xA (by omega))]
 subst hrr
 obtain ⟨u,v,b1⟩:=hS.b1
 have l1:=zag b1
 simp only [r34_16,SS,fC,reduceCtorEq,reduceIte,qJ,qQ,qZ,hS.e5,hS.e7,hS.e8,hS.b2,hS.b3,b1]
 have hld:ldSz Tryz.prog 40=some (true,2):=by kernel_rfl
 refine ⟨rfl,.inl trivial,.tup [.int .i64 (e:Int),pz (x/p^e) (if e=0 then none else s2),.int .i64 0],?_,.drop _ _ rfl (by intro i cs h;omega)⟩
 have gb:getB (H2.set 1 (some [AV.bool false,AV.vec [AV.int IntKind.u32 ((x/p^e:Nat):Int)] 1 (if e=0 then none else s2)])) 1=some [AV.bool false,AV.vec [AV.int IntKind.u32 ((x/p^e:Nat):Int)] 1 (if e=0 then none else s2)]:=zan l1
 simp only [resA,xH,List.mapM_nil,zew,hld,UU,qQ,reduceIte,hS.e5,gb,need]
 rfl
theorem jbo {z:Int} {b:Bool} (hb:b=true↔PrmZ z):Rt 74 [.int .i64 z] [] (.bool b) []:=by
 have no:¬PrmZ z->b=false:=by
  intro h
  cases b with
  | false=>rfl
  | true=>exact absurd (hb.1 rfl) h
 refine oF o74 ?_
 by_cases h2:2<=z
 rotate_left
 ·obtain rfl:=no (fun e=>h2 e.1)
  have d1:decide (z<2)=true:=decide_eq_true (by omega)
  simp only [c74,r74_0,r74_1,SS,fC,reduceCtorEq,reduceIte,qQ,d1]
  simp only [r74_2,SS]
  exact ⟨.inl trivial,_,rfl,.keep _ _⟩
 have d1:decide (z<2)=false:=decide_eq_false (by omega)
 by_cases hM:z<=2147483647
 rotate_left
 ·obtain rfl:=no (fun e=>hM e.2.1)
  have d2:decide (2147483647<z)=true:=decide_eq_true (by omega)
  simp only [c74,r74_0,r74_1,SS,fC,reduceCtorEq,reduceIte,qQ,d1,d2]
  simp only [r74_2,SS]
  exact ⟨.inl trivial,_,rfl,.keep _ _⟩
 have d2:decide (2147483647<z)=false:=decide_eq_false (by omega)
 obtain ⟨n,rfl⟩:∃n:Nat,z=(n:Int):=⟨z.toNat,by omega⟩
 have er:∀q:Nat,Int.tmod (n:Int) (q:Int)=((n%q:Nat):Int):=fun q=>rfl
 simp only [c74,r74_0,r74_1,SS,fC,reduceCtorEq,reduceIte,qQ,d1,d2]
 simp only [r74_3,SS]
 refine zai (fun m E H=>∃d:Nat,d+m=46400/\2<=d/\H=[]/\E 0= .int .i64 (n:Int)/\E 3= .int .i64 (d:Int)/\∀d',2<=d'->d'<d->n%d'≠0) (n:=46398)
  ⟨2,rfl,by omega,rfl,by simp only [UU,qQ],by simp only [UU,qQ,reduceIte];rfl,fun d h h'=>absurd h' (by omega)⟩ ?_
 rintro m E H ⟨d,hdm,hd2,rfl,e0,e3,hd⟩
 refine wM ?_
 have hdd:d*d<=46400*46400:=qO (by omega) (by omega)
 have wq:IntKind.i64.wrap ((d:Int)*(d:Int))=((d*d:Nat):Int):=by rw [<-xD];exact w64 (by omega) (by omega)
 have erd:=er d
 simp only [l74_0,r74_4,SS,reduceCtorEq,reduceIte,qQ,e0,e3,wq]
 refine ⟨fun hle=>?_,fun hgt=>?_⟩
 ·have hle':d*d<=n:=by omega
  have hd3:d<46399:=by
   rcases xW d 46399 with h | h
   ·exact h
   ·have:=qO h h;omega
  obtain ⟨m,rfl⟩:∃m',m=m'+1:=⟨m-1,by omega⟩
  have w5:=wS1 d (by omega)
  simp only [r74_5,SS,reduceCtorEq,reduceIte,qQ,e0,e3,erd]
  refine ⟨by omega,fun h0=>?_,fun h0=>?_⟩
  ·obtain rfl:=no (fun e=>e.2.2.2 d hd2 (by rw [qW];exact hle') (by rw [qW];omega))
   simp only [r74_6,SS]
   exact ⟨.inl trivial,_,rfl,.keep _ _⟩
  ·simp only [r74_7,SS,reduceIte,qQ,e3,w5]
   refine ⟨m,_,_,by omega,⟨d+1,by omega,by omega,rfl,?_,?_,fun d' a b=>?_⟩,.refl⟩
   ·simp only [UU,qQ,e0]
   ·simp only [UU,qQ,reduceIte]
   ·rcases (by omega:d'<d\/d'=d) with h | h
    ·exact hd d' a h
    ·subst h;omega
 ·obtain rfl:b=true:=hb.2 ⟨h2,hM,by
   rw [qW]
   exact ⟨by omega,fun d' a b=>hd d' a (qwb (by omega) b)⟩⟩
  simp only [r74_8,SS]
  exact ⟨.inl trivial,_,rfl,.keep _ _⟩
theorem qaa {z:Int} {b:Bool} (hb:b=true↔z<=9973/\PrmZ z):Rt 30 [.int .i64 z] [] (.bool b) []:=by
 refine oF o30 ?_
 by_cases h:z<=9973
 ·have d1:decide (z<=9973)=true:=decide_eq_true h
  have t:=jbo (z:=z) (b:=b) (by rw [hb];exact ⟨fun e=>e.2,fun e=>⟨h,e⟩⟩)
  simp only [c30,r30_0,r30_1,SS,fC,reduceCtorEq,reduceIte,qQ,d1]
  refine zaa t ?_
  simp only [SS,reduceIte,qQ]
  exact ⟨.inl trivial,_,rfl,.keep _ _⟩
 ·have d1:decide (z<=9973)=false:=decide_eq_false h
  obtain rfl:b=false:=by
   cases b with
   | false=>rfl
   | true=>exact absurd (hb.1 rfl).1 h
  simp only [c30,r30_0,r30_1,SS,fC,reduceCtorEq,reduceIte,qQ,d1]
  exact ⟨.inl trivial,_,rfl,.keep _ _⟩
theorem qzu {a:Int} {m:Nat} (ha:In64 a) (hm:0<m) (hm2:m<2^40):Rt 75 [.int .i64 a,.int .i64 (m:Int)] [] (.int .i64 (a%(m:Int))) []:=by
 have hm0:(m:Int)≠0:=by omega
 have h1:=zO a hm0
 have h2:=yM a (show (0:Int)<m by omega)
 have ht:Int.tmod a m=a%m\/Int.tmod a m<0/\Int.tmod a m+m=a%m:=by
  rcases Int.le_total 0 a with h | h
  ·exact .inl (xI h)
  ·have e:=Int.tmod_eq_emod (a:=a) (b:=(m:Int))
   rw [e]
   split
   ·exact .inl (by omega)
   ·refine .inr ?_
    have:((m:Int).natAbs:Int)=m:=by omega
    omega
 have w0:IntKind.i64.wrap (Int.tmod a m)=Int.tmod a m:=w64 (by omega) (by omega)
 refine oF o75 ?_
 simp only [c75,r75_0,r75_1,SS,reduceCtorEq,reduceIte,qQ]
 refine ⟨hm0,?_⟩
 simp only [r75_2,SS,reduceIte,qQ]
 rcases ht with ht | ⟨ht,ht2⟩
 ·rw [ht]
  refine ⟨fun h=>absurd h (by omega),fun _=>?_⟩
  simp only [r75_4,SS,reduceIte,qQ]
  exact ⟨.inl trivial,_,rfl,.keep _ _⟩
 ·refine ⟨fun _=>?_,fun h=>absurd ht h⟩
  have w1:IntKind.i64.wrap (Int.tmod a m+m)=a%m:=by rw [ht2];exact w64 (by omega) (by omega)
  simp only [r75_3,SS,reduceIte,qQ,w1]
  simp only [r75_4,SS,reduceIte,qQ]
  exact ⟨.inl trivial,_,rfl,.keep _ _⟩
theorem qab {p e:Nat} (hp:1<=p) (h:p^e<=2199023255552) (he:e<2^40):Rt 33 [.int .i64 (p:Int),.int .i64 (e:Int)] [] (.int .i64 ((p^e:Nat):Int)) []:=by
 have hle:∀i,i<=e->p^i<=2199023255552:=fun i hi=>zZ (qD hp hi) h
 refine oF o33 ?_
 simp only [c33,r33_0,r33_1,r33_2,SS,reduceCtorEq]
 refine zai (fun q E H=>∃i:Nat,i+q=e/\H=[]/\E 0= .int .i64 (p:Int)/\E 1= .int .i64 (e:Int)/\E 5= .int .i64 ((p^i:Nat):Int)/\E 6= .int .i64 (i:Int)) (n:=e)
  ⟨0,by omega,rfl,by simp only [UU,qQ],by simp only [UU,qQ],by simp only [UU,qQ,reduceIte];rfl,by simp only [UU,qQ,reduceIte];rfl⟩ ?_
 rintro q E H ⟨i,hiq,rfl,e0,e1,e5,e6⟩
 refine wM ?_
 simp only [l33_0,r33_3,SS,reduceCtorEq,reduceIte,qQ,e1,e6]
 refine ⟨fun hlt=>?_,fun hge=>?_⟩
 ·obtain ⟨q,rfl⟩:∃q',q=q'+1:=⟨q-1,by omega⟩
  have hs:=hle (i+1) (by omega)
  have em:((p^i:Nat):Int)*(p:Int)=((p^(i+1):Nat):Int):=by rw [qI];exact (xD _ _).symm
  have w5:=wS1 i (by omega)
  have w6:IntKind.i64.wrap ((p^(i+1):Nat):Int)=((p^(i+1):Nat):Int):=w64 (by omega) (by omega)
  simp only [r33_4,r33_5,SS,reduceCtorEq,reduceIte,qQ,e0,e5,e6,em,w5,w6]
  refine ⟨q,_,_,by omega,⟨i+1,by omega,rfl,?_,?_,?_,?_⟩,.refl⟩
  all_goals simp only [UU,qQ,reduceIte, *]
 ·obtain rfl:i=e:=by omega
  simp only [r33_6,SS,reduceIte,qQ,e5]
  exact ⟨.inl trivial,_,rfl,.keep _ _⟩
theorem qiu {p e:Nat} (hp:2<=p) (hp2:p<2^40) (he:e<2^40) {b:Bool} (hb:b=true↔p^e<=2097152):Rt 31 [.int .i64 (p:Int),.int .i64 (e:Int)] [] (.bool b) []:=by
 refine oF o31 ?_
 simp only [c31,r31_0,r31_1,r31_2,SS,reduceCtorEq]
 refine zai (fun q E H=>∃i:Nat,i+q=e/\H=[]/\p^i<=2097152/\E 0= .int .i64 (p:Int)/\E 1= .int .i64 (e:Int)/\E 5= .int .i64 ((p^i:Nat):Int)/\E 6= .int .i64 (i:Int)) (n:=e)
  ⟨0,by omega,rfl,by rw [xJ];omega,by simp only [UU,qQ],by simp only [UU,qQ],by simp only [UU,qQ,reduceIte];rfl,by simp only [UU,qQ,reduceIte];rfl⟩ ?_
 rintro q E H ⟨i,hiq,rfl,hle,e0,e1,e5,e6⟩
 refine wM ?_
 simp only [l31_0,r31_3,SS,reduceCtorEq,reduceIte,qQ,e1,e6]
 refine ⟨fun hlt=>?_,fun hge=>?_⟩
 ·obtain ⟨q,rfl⟩:∃q',q=q'+1:=⟨q-1,by omega⟩
  have hq:IntKind.i64.wrap (Int.tdiv 2097152 (p:Int))=((2097152/p:Nat):Int):=by
   rw [show Int.tdiv 2097152 (p:Int)=((2097152/p:Nat):Int) from rfl]
   have:=Nat.div_le_self 2097152 p
   generalize 2097152/p=y at*
   exact w64 (by omega) (by omega)
  have hp0:(p:Int)≠0:=by omega
  simp only [r31_4,SS,reduceCtorEq,reduceIte,qQ,e0,e5,hq]
  refine ⟨hp0,fun hgt=>?_,fun hng=>?_⟩
  ·have hlt2:2097152<p^i*p:=(yU (by omega)).1 (by omega)
   have hpe:p^(i+1)<=p^e:=qD (by omega) (by omega)
   rw [qI] at hpe
   obtain rfl:b=false:=by
    cases b with
    | false=>rfl
    | true=>exact absurd (hb.1 rfl) (by omega)
   simp only [r31_5,SS]
   exact ⟨.inl trivial,_,rfl,.keep _ _⟩
  ·have hs:p^(i+1)<=2097152:=by
    rw [qI]
    rcases xW 2097152 (p^i*p) with h | h
    ·exact absurd ((yU (by omega)).2 h) (by omega)
    ·exact h
   have em:((p^i:Nat):Int)*(p:Int)=((p^(i+1):Nat):Int):=by rw [qI];exact (xD _ _).symm
   have w5:=wS1 i (by omega)
   have w6:IntKind.i64.wrap ((p^(i+1):Nat):Int)=((p^(i+1):Nat):Int):=w64 (by omega) (by omega)
   simp only [r31_6,r31_7,SS,reduceCtorEq,reduceIte,qQ,e0,e5,e6,em,w5,w6]
   refine ⟨q,_,_,by omega,⟨i+1,by omega,rfl,hs,?_,?_,?_,?_⟩,.refl⟩
   all_goals simp only [UU,qQ,reduceIte, *]
 ·obtain rfl:i=e:=by omega
  obtain rfl:b=true:=hb.2 hle
  simp only [r31_8,SS]
  exact ⟨.inl trivial,_,rfl,.keep _ _⟩
open Go.Limb
theorem qpa {x m:Int} (hm:0<m):Int.tmod (Int.tmod x m+m) m=x%m:=by
 have h1:=yN x hm
 have h2:=yO x hm
 have h3:0<=Int.tmod x m+m:=by omega
 rw [xI h3,Int.add_emod_right]
 have h4:=Int.mul_tdiv_add_tmod x m
 have h5:Int.tmod x m=x+m*(-(Int.tdiv x m)):=by rw [Int.mul_neg];omega
 rw [h5,Int.add_mul_emod_self_left]
theorem qwe {m:Int} (hm:2<=m/\m<=2147483647):Rt 140 [.int .i64 m] [] (.int .i64 0) []:=by
 have d1:decide (m<2)=false:=decide_eq_false (by omega)
 have d2:decide (2147483647<m)=false:=decide_eq_false (by omega)
 refine oF o140 ?_
 simp only [c140,r140_0,r140_1,SS,fC,reduceCtorEq,reduceIte,qQ,d1,d2]
 simp only [r140_3,SS]
 exact ⟨.inl trivial,_,rfl,.drop _ _ rfl (by intro i cs h;omega)⟩
theorem qwf {n:Nat} {M:List (List Int)} {a:AV} (h:ImV M a) (hS:Shp n M) (hn:1<=n/\n<=8):Rt 139 [a] [] (.bool true) []:=by
 obtain ⟨rows,c,rfl,hl,hr⟩:=h.val
 have hlen:=hS.len
 obtain ⟨c0,he0⟩:=hr 0 (by omega)
 have hc0:=hS.row 0 (by omega)
 have d1:decide ((n:Int)<1)=false:=decide_eq_false (by omega)
 have d2:decide ((16:Int)<(n:Nat))=false:=decide_eq_false (by omega)
 refine oF o139 ?_
 simp only [c139,r139_0,r139_1,SS,fC,reduceCtorEq,reduceIte,qQ,he0,hc0,hl,hlen,Int.toNat_zero,d1,d2]
 refine ⟨⟨by omega,by omega⟩,by omega,⟨by omega,by omega⟩,by omega,?_⟩
 simp only [r139_3,SS,reduceCtorEq,reduceIte,qQ]
 refine zai (fun k E H=>∃i,i+k=n/\E 0= .vec rows n c/\E 27= .vec rows n c/\E 28= .int .i64 (n:Nat)/\E 29= .int .i64 (i:Nat)/\H=[]) (n:=n) ⟨0,by omega,by simp only [UU,qQ],by simp only [UU,qQ,reduceIte],by simp only [UU,qQ,reduceIte],by simp only [UU,qQ,reduceIte];rfl,rfl⟩ ?_
 rintro k E H ⟨i,hik,e0,e27,e28,e29,rfl⟩
 refine wM ?_
 simp only [l139_0,r139_4,SS,reduceCtorEq,reduceIte,e28,e29]
 refine ⟨fun hlt=>?_,fun hge=>?_⟩
 ·obtain ⟨k,rfl⟩:∃k',k=k'+1:=⟨k-1,by omega⟩
  obtain ⟨ci,hei⟩:=hr i (by omega)
  have hci:=hS.row i (by omega)
  have w5:=wS1 i (by omega)
  simp only [r139_5,r139_6,SS,fC,reduceCtorEq,reduceIte,qQ,e0,e27,e29,qW,Int.toNat_zero,he0,hc0,hei,hci,hl,hlen]
  refine ⟨⟨by omega,by omega⟩,by omega,⟨by omega,by omega⟩,by omega,fun hne=>absurd rfl hne,fun _=>?_⟩
  simp only [r139_8,SS,reduceIte,qQ,e29,w5]
  refine ⟨k,_,_,by omega,⟨i+1,by omega,?_,?_,?_,?_,rfl⟩,.refl⟩<;>simp only [UU,qQ,reduceIte, *]
 ·simp only [r139_9,SS]
  exact ⟨.inl trivial,_,rfl,.drop _ _ rfl (by intro i cs h;omega)⟩
def modM (n:Nat) (M:List (List Int)) (m:Int):List (List Int):=mkM n fun i j=>ent M i j%m
theorem qpb {n:Nat} {M:List (List Int)} {rows:List AV} {c:Option Nat} (hn:1<=n/\n<=8) (hS:Shp n M) (hf:∀i j,In64 (ent M i j)) {m:Int} (hm:2<=m/\m<=2147483647) {i:Nat} (hi:i<n) {ci:Option Nat} {rs:List (List Int)} (hrl:rs.length=i+1) (hr0:(rs.getD i []).length=n) {E:Env} {Q:Post}
  (e0:E 0= .vec rows n c) (e1:E 1= .int .i64 m) (e5:E 5= .sl 0 0 n 1 (some n)) (e6:E 6= .int .i64 (i:Nat)) (e13:E 13= .vec rows n c) (e14:E 14= .int .i64 (n:Nat)) (e15:E 15= .int .i64 (i:Nat)) (e26:E 26= .vec (i64z (M.getD i [])) n ci) (e27:E 27= .int .i64 (n:Nat)) (e28:E 28= .int .i64 0)
  (hQ:∀E' r,r.length=n->(∀j,j<n->r.getD j 0=ent M i j%m)->E' 0= .vec rows n c->E' 1= .int .i64 m->E' 5= .sl 0 0 n 1 (some n)->E' 13= .vec rows n c->E' 14= .int .i64 (n:Nat)->E' 15= .int .i64 (i:Nat)->Q (.exit 2) E' (bH n n (rs.set i r))):
  Wg 0 49 (.loop l141_1) E (bH n n rs) Q:=by
 refine zai (fun k E H=>∃j r,j+k=n/\r.length=n/\(∀t,t<j->r.getD t 0=ent M i t%m)/\H=bH n n (rs.set i r)/\E 0= .vec rows n c/\E 1= .int .i64 m/\E 5= .sl 0 0 n 1 (some n)/\E 6= .int .i64 (i:Nat)/\E 13= .vec rows n c/\E 14= .int .i64 (n:Nat)/\E 15= .int .i64 (i:Nat)/\
  E 26= .vec (i64z (M.getD i [])) n ci/\E 27= .int .i64 (n:Nat)/\E 28= .int .i64 (j:Nat)) (n:=n)
  ⟨0,rs.getD i [],by omega,hr0,fun t ht=>absurd ht (by omega),?_,e0,e1,e5,e6,e13,e14,e15,e26,e27,e28⟩ ?_
 ·congr 1
  refine xX (by simp) fun t h1 h2=>?_
  rw [zV]
  split
  ·rename_i e;subst e;rw [qX,qK h1];rfl
  ·rfl
 clear e0 e1 e5 e6 e13 e14 e15 e26 e27 e28 E
 rintro k E H ⟨j,r,hjk,hrm,hr,rfl,e0,e1,e5,e6,e13,e14,e15,e26,e27,e28⟩
 refine wM ?_
 simp only [l141_1,r141_7,SS,reduceIte,e27,e28]
 refine ⟨fun hlt=>?_,fun hge=>?_⟩
 ·obtain ⟨k,rfl⟩:∃k',k=k'+1:=⟨k-1,by omega⟩
  have hj:j<n:=by omega
  have lM:=hS.row i hi
  have g1:(i64z (M.getD i [])).getD j .junk= .int .i64 (ent M i j):=zbq _ j (by omega) _
  have w5:=wS1 j (by omega)
  have hset:(rs.set i r).length=i+1:=by simp [hrl]
  have gr:=zfi (N:=n) (n:=n) (i:=i) (rows:=rs.set i r) (by omega)
  have gri:(rs.set i r).getD i []=r:=by rw [qX,qE (by omega)];rfl
  rw [gri] at gr
  have go:getB (bH n n (rs.set i r)) 0=some (outS n n (i+1)):=by rw [zds,hset]
  have gol:=zej (N:=n) (n:=n) (i:=i+1) (by omega)
  have gog:=zek (N:=n) (n:=n) (i:=i+1) (k:=i) (by omega)
  have h1:=yN (ent M i j) (show 0<m by omega)
  have h2:=yO (ent M i j) (show 0<m by omega)
  have h3:=zO (ent M i j) (show m≠0 by omega)
  have h4:=yM (ent M i j) (show 0<m by omega)
  have t1:=qpa (x:=ent M i j) (show 0<m by omega)
  have w1:IntKind.i64.wrap (Int.tmod (ent M i j) m)=Int.tmod (ent M i j) m:=w64 (by omega) (by omega)
  have w2:IntKind.i64.wrap (Int.tmod (ent M i j) m+m)=Int.tmod (ent M i j) m+m:=w64 (by omega) (by omega)
  have w3:IntKind.i64.wrap (ent M i j%m)=ent M i j%m:=w64 (by omega) (by omega)
  simp only [r141_8,r141_9,SS,fC,reduceIte,qQ,e1,e5,e6,e26,e28,qW,go,gol,gog,lM,g1,zav,w2,t1,gr,hrm,zdn]
  refine ⟨⟨by omega,by omega⟩,by omega,⟨by omega,by omega⟩,by omega,by omega,by omega,⟨by omega,by omega⟩,by omega,rfl,?_⟩
  simp only [r141_10,SS,reduceIte,qQ,e28,w5,zgq]
  refine ⟨k,_,_,by omega,⟨j+1,r.set j (ent M i j%m),by omega,by simp [hrm],fun t ht=>?_,?_,?_,?_,?_,?_,?_,?_,?_,?_,?_,?_⟩,.refl⟩
  ·rw [qX]
   rcases (by omega:t<j\/t=j) with e | e
   ·rw [xU (by omega),<-qX];exact hr t e
   ·rw [e,qE (by omega)];rfl
  ·rw [yT]
  all_goals simp only [UU,qQ,reduceIte, *]
 ·have hjm:j=n:=by omega
  subst hjm
  exact hQ _ r hrm hr (by simp only [UU,qQ,e0]) (by simp only [UU,qQ,e1]) (by simp only [UU,qQ,e5]) (by simp only [UU,qQ,e13]) (by simp only [UU,qQ,e14]) (by simp only [UU,qQ,e15])
theorem qcx {T:List (List Int)} {i:Nat} (hi:i<T.length):T.take i++[T.getD i []]=T.take (i+1):=by
 rw [zQ,qX,qK hi];rfl
theorem jbp {n:Nat} {M:List (List Int)} {a:AV} (h:ImV M a) (hS:Shp n M) (hn:1<=n/\n<=8) {m:Int} (hm:2<=m/\m<=2147483647):Rt 141 [a,.int .i64 m] [] (.vec (zco n (modM n M m)) n (some n)) []:=by
 have hf:=h.fit
 obtain ⟨rows,c,rfl,hl,hr⟩:=h.val
 have hlen:=hS.len
 have hTs:Shp n (modM n M m):=zcg _ _
 rw [hlen]
 refine oF o141 ?_
 simp only [c141,r141_0,r141_1,SS,reduceCtorEq,reduceIte,qQ,qW]
 refine ⟨by decide,⟨by omega,by omega,by omega,by omega⟩,?_⟩
 simp only [r141_2,SS,reduceCtorEq,reduceIte,qQ]
 have hb0:[some (List.replicate n (AV.vec [] 0 (some 0)))]=bH n n []:=rfl
 rw [hb0]
 refine zai (fun k E H=>∃i,i+k=n/\H=bH n n ((modM n M m).take i)/\E 0= .vec rows n c/\E 1= .int .i64 m/\E 5= .sl 0 0 n 1 (some n)/\E 13= .vec rows n c/\E 14= .int .i64 (n:Nat)/\E 15= .int .i64 (i:Nat)) (n:=n)
  ⟨0,by omega,rfl,by simp only [UU,qQ],by simp only [UU,qQ],by simp only [UU,qQ,reduceIte],by simp only [UU,qQ,reduceIte],by simp only [UU,qQ,reduceIte],by simp only [UU,qQ,reduceIte];rfl⟩ ?_
 rintro k E H ⟨i,hik,rfl,e0,e1,e5,e13,e14,e15⟩
 refine wM ?_
 simp only [l141_0,r141_3,SS,reduceCtorEq,reduceIte,e14,e15]
 refine ⟨fun hlt=>?_,fun hge=>?_⟩
 ·obtain ⟨k,rfl⟩:∃k',k=k'+1:=⟨k-1,by omega⟩
  have hi:i<n:=by omega
  have hTl:=hTs.len
  obtain ⟨ci,hei⟩:=hr i (by omega)
  have hci:=hS.row i hi
  have htl:((modM n M m).take i).length=i:=by rw [zY];omega
  have w5:=wS1 i (by omega)
  have hbl:(bH n n ((modM n M m).take i)).length=i+1:=by rw [zzx,htl]
  have go:getB (bH n n ((modM n M m).take i)++[some (i64z (List.replicate n 0))]) 0=some (outS n n i):=by
   have:getB (bH n n ((modM n M m).take i)) 0=some (outS n n i):=by rw [zds,htl]
   exact this
  have gol:=zej (N:=n) (n:=n) (i:=i) (by omega)
  have hnew:=zzy (N:=n) (n:=n) (rows:=(modM n M m).take i) (List.replicate n 0) (by omega)
  rw [htl] at hnew
  simp only [r141_4,r141_5,SS,fC,reduceIte,qQ,e5,e13,e15,qW,hei,hci,hl,hlen,hbl,zke,go,gol]
  refine ⟨⟨by omega,by omega⟩,by omega,by decide,⟨by omega,by omega,by omega,by omega⟩,⟨by omega,by omega⟩,by omega,?_⟩
  rw [hnew]
  simp only [r141_6,SS,reduceIte,qQ]
  refine qpb (rows:=rows) (c:=c) hn hS hf hm hi (ci:=ci) (rs:=(modM n M m).take i++[List.replicate n 0]) (by simp;omega) ?_ (by simp only [UU,qQ,e0]) (by simp only [UU,qQ,e1]) (by simp only [UU,qQ,e5]) (by simp only [UU,qQ,reduceIte]) (by simp only [UU,qQ,e13]) (by simp only [UU,qQ,e14]) (by simp only [UU,qQ,e15]) (by simp only [UU,qQ,reduceIte]) (by simp only [UU,qQ,reduceIte]) (by simp only [UU,qQ,reduceIte]) ?_
  ·rw [qX,qL (by omega),htl,xQ]
   simp
  intro E' r hrm hr' f0 f1 f5 f13 f14 f15
  have er:r=(modM n M m).getD i []:=by
   have hTi:=hTs.row i hi
   refine xX (by omega) fun t h1 h2=>?_
   have h3:=hr' t (by omega)
   have h4:ent (modM n M m) i t=ent M i t%m:=zby hi (by omega)
   rw [<-h4] at h3
   unfold ent at h3
   rw [qX,qK h1,qX (l:=(modM n M m).getD i []),qK h2] at h3
   exact h3
  have eset:((modM n M m).take i++[List.replicate n 0]).set i r=(modM n M m).take (i+1):=by
   rw [qG _ _ (by omega),htl,xQ,er]
   exact qcx (by omega)
  rw [eset]
  simp only [r141_11,SS,reduceCtorEq,reduceIte,qQ,f15,w5]
  refine ⟨k,_,_,by omega,⟨i+1,by omega,rfl,?_,?_,?_,?_,?_,?_⟩,.refl⟩
  all_goals simp only [UU,qQ,reduceIte, *]
 ·have hin:i=n:=by omega
  have htl:(modM n M m).take i=modM n M m:=qC (by rw [hTs.len];omega)
  rw [htl]
  simp only [r141_12,SS,reduceIte,qQ,e5]
  refine ⟨.inl trivial,_,rfl,.freeze 3 _ _ _ ?_ (by intro i cs h;omega)⟩
  exact qip hTs.len hTs.row
theorem qcy {n:Nat} {M:List (List Int)} {a:AV} (h:ImV M a) (hS:Shp n M) (hn:1<=n/\n<=8) {m:Int} (hm:2<=m/\m<=2147483647):Rt 72 [a,.int .i64 m] [] (.tup [.vec (zco n (modM n M m)) n (some n),.int .i64 0]) []:=by
 have t1:=qwf h hS hn
 have t2:=qwe hm
 have t3:=jbp h hS hn hm
 have hc:AV.closed (.vec (zco n (modM n M m)) n (some n))=true:=rfl
 obtain ⟨rows,c,rfl,hl,hr⟩:=h.val
 refine oF o72 ?_
 simp only [c72,r72_0,r72_1,SS,reduceCtorEq,reduceIte]
 refine zaa t1 ?_
 simp only [SS,fC,reduceIte,qQ]
 simp only [r72_3,SS,reduceIte,qQ]
 refine zaa t2 ?_
 simp only [SS,reduceIte,qQ]
 simp only [r72_4,SS,reduceIte,qQ]
 refine ⟨fun hne=>absurd rfl hne,fun _=>?_⟩
 simp only [r72_6,SS,reduceCtorEq,reduceIte,qQ]
 refine zaa t3 ?_
 simp only [SS,reduceIte,qQ]
 exact ⟨.inl trivial,_,rfl,.drop _ _ rfl (by intro i cs h;omega)⟩
end Go.Proofs.YtpflahgcdgdkjaaGreatDoor
namespace Go.Count
open Nat renaming le_refl -> qH, pow_succ -> qI, zero_add -> qN, mul_zero -> xZ, add_mod -> xO, mul_mod -> xP, mod_lt -> yW, mul_one -> yA, add_zero -> zJ, zero_mod -> zK, add_mul -> zC
open List renaming getD_eq_getElem?_getD -> qX, replicate_zero -> qV, getElem?_set_self -> qE, set_append_right -> qG, getElem?_append_right -> qL, append_assoc -> xV, getElem?_set_ne -> xU, flatMap_cons -> xR, length_cons -> xT, countP_cons -> yX, getElem?_replicate -> yZ, nil_append -> yV, foldl_cons -> yY, replicate_succ' -> yC, range_eq_range' -> yD, length_append -> yL, mem_replicate -> yP, countP_append -> yR, range'_succ -> zA, range_succ -> zD, countP_nil -> zP
open Option renaming map_some -> zG
open Option.some renaming injEq -> zW
section
variable (g:List (List Nat)) (n M:Nat)
def addR (row:List Nat):Nat->Nat->List Nat->List Nat
 | 0,_,l=>l
 | k+1,j,l=>addR row k (j+1) (l.set j ((l.getD j 0+row.getD j 0)%M))
def bump:Nat->Nat->Nat->List Nat->List Nat->Option (Nat×List Nat×List Nat)
 | 0,_,_,_,_=>none
 | k+1,i,norm,inner,x=>
  if x.getD i 0+1<M then some ((norm+2*inner.getD i 0+(g.getD i []).getD i 0)%M,addR M (g.getD i []) n 0 inner,x.set i (x.getD i 0+1))
  else bump k (i+1) ((norm+2*inner.getD i 0+(g.getD i []).getD i 0)%M) (addR M (g.getD i []) n 0 inner) ((x.set i (x.getD i 0+1)).set i 0)
def runC:Nat->List Nat->Nat->List Nat->List Nat->Option (List Nat)
 | 0,_,_,_,_=>none
 | f+1,cts,norm,inner,x=>match bump g n M n 0 norm inner x with
  | none=>some (cts.set norm (cts.getD norm 0+1))
  | some (norm',inner',x')=>runC f (cts.set norm (cts.getD norm 0+1)) norm' inner' x'
end
def ent (g:List (List Nat)) (i j:Nat):Nat:=(g.getD i []).getD j 0
def sumN (f:Nat->Nat):Nat->Nat
 | 0=>0
 | n+1=>sumN f n+f n
def gx (g:List (List Nat)) (n:Nat) (x:List Nat) (j:Nat):Nat:=sumN (fun i=>ent g i j*x.getD i 0) n
def nrm (g:List (List Nat)) (n:Nat) (x:List Nat):Nat:=sumN (fun j=>gx g n x j*x.getD j 0) n
theorem zdo {f h:Nat->Nat} {n:Nat} (e:∀i,i<n->f i=h i):sumN f n=sumN h n:=by
 induction n with
 | zero=>rfl
 | succ n ih=>simp only [sumN];rw [ih (fun i hi=>e i (by omega)),e n (by omega)]
theorem zig (f h:Nat->Nat) (n:Nat):sumN (fun i=>f i+h i) n=sumN f n+sumN h n:=by
 induction n with
 | zero=>rfl
 | succ n ih=>simp only [sumN,ih];omega
theorem qpc (f:Nat->Nat) (c n:Nat):sumN (fun i=>f i*c) n=sumN f n*c:=by
 induction n with
 | zero=>simp [sumN]
 | succ n ih=>simp only [sumN,ih,zC]
theorem zfy {f:Nat->Nat} {n:Nat} (e:∀i,i<n->f i=0):sumN f n=0:=by
 induction n with
 | zero=>rfl
 | succ n ih=>simp only [sumN];rw [ih (fun i hi=>e i (by omega)),e n (by omega)]
theorem zsj {f:Nat->Nat} {n i:Nat} (hi:i<n) (e:∀j,j<n->j≠i->f j=0):sumN f n=f i:=by
 induction n with
 | zero=>omega
 | succ n ih=>
  simp only [sumN]
  by_cases h:i=n
  ·subst h
   rw [zfy (fun j hj=>e j (by omega) (by omega)),qN]
  ·rw [ih (by omega) (fun j hj hne=>e j (by omega) hne),e n (by omega) (by omega),zJ]
theorem qac {f h:Nat->Nat} {n M:Nat} (e:∀i,i<n->f i%M=h i%M):sumN f n%M=sumN h n%M:=by
 induction n with
 | zero=>rfl
 | succ n ih=>
  simp only [sumN]
  rw [xO,ih (fun i hi=>e i (by omega)),e n (by omega),<-xO]
theorem zkg {x:List Nat} {i j a:Nat} (hi:i<x.length):(x.set i a).getD j 0=if j=i then a else x.getD j 0:=by
 rw [qX]
 by_cases h:j=i
 ·subst h;rw [qE hi,if_pos rfl];rfl
 ·rw [xU (fun e=>h e.symm),if_neg h,qX]
theorem qiv {g:List (List Nat)} {n i j:Nat} {x:List Nat} (hx:x.length=n) (hi:i<n):gx g n (x.set i (x.getD i 0+1)) j=gx g n x j+ent g i j:=by
 unfold gx
 have e:sumN (fun k=>ent g k j*(x.set i (x.getD i 0+1)).getD k 0) n=sumN (fun k=>ent g k j*x.getD k 0+(if k=i then ent g i j else 0)) n:=by
  refine zdo fun k _=>?_
  rw [zkg (by omega)]
  split
  ·rename_i h;subst h;rw [Nat.mul_add,yA]
  ·rw [zJ]
 rw [e,zig,zsj hi (f:=fun k=>if k=i then ent g i j else 0) (fun k _ hne=>if_neg hne),if_pos rfl]
theorem qpd {g:List (List Nat)} {n i:Nat} {x:List Nat} (hx:x.length=n) (hi:i<n) (hs:∀j k,j<n->k<n->ent g j k=ent g k j):
  nrm g n (x.set i (x.getD i 0+1))=nrm g n x+2*gx g n x i+ent g i i:=by
 unfold nrm
 have e:sumN (fun j=>gx g n (x.set i (x.getD i 0+1)) j*(x.set i (x.getD i 0+1)).getD j 0) n=sumN (fun j=>gx g n x j*x.getD j 0+(ent g j i*x.getD j 0+(if j=i then gx g n x i+ent g i i else 0))) n:=by
  refine zdo fun j hj=>?_
  rw [qiv hx hi,zkg (by omega),hs j i hj hi]
  split
  ·rename_i h;subst h
   simp only [zC,Nat.mul_add,yA]
   omega
  ·simp only [zC,zJ]
 rw [e,zig,zig,zsj hi (f:=fun j=>if j=i then gx g n x i+ent g i i else 0) (fun k _ hne=>if_neg hne),if_pos rfl]
 have:sumN (fun j=>ent g j i*x.getD j 0) n=gx g n x i:=rfl
 omega
theorem qrq {g:List (List Nat)} {n j M:Nat} {x y:List Nat} (h:∀i,i<n->x.getD i 0%M=y.getD i 0%M):gx g n x j%M=gx g n y j%M:=
 qac fun i hi=>by rw [xP,h i hi,<-xP]
theorem qwg {g:List (List Nat)} {n M:Nat} {x y:List Nat} (h:∀i,i<n->x.getD i 0%M=y.getD i 0%M):nrm g n x%M=nrm g n y%M:=
 qac fun i hi=>by rw [xP,qrq h,h i hi,<-xP]
theorem qpe (M:Nat) (row:List Nat):∀(k j:Nat) (l:List Nat),(addR M row k j l).length=l.length:=by
 intro k
 induction k with
 | zero=>intro j l;rfl
 | succ k ih=>intro j l;simp only [addR];rw [ih];simp
theorem qpf {M:Nat} (row:List Nat):∀(k j:Nat) (l:List Nat),j+k<=l.length->∀i,(addR M row k j l).getD i 0=if j<=i/\i<j+k then (l.getD i 0+row.getD i 0)%M else l.getD i 0:=by
 intro k
 induction k with
 | zero=>intro j l _ i;simp only [addR];rw [if_neg (by omega)]
 | succ k ih=>
  intro j l h i
  simp only [addR]
  rw [ih _ _ (by simp;omega),zkg (by omega)]
  by_cases h1:i=j
  ·subst h1
   rw [if_neg (by omega),if_pos rfl,if_pos (by omega)]
  ·rw [if_neg h1]
   by_cases h2:j+1<=i/\i<j+1+k
   ·rw [if_pos h2,if_pos (by omega)]
   ·rw [if_neg h2,if_neg (by omega)]
structure At (g:List (List Nat)) (n M:Nat) (norm:Nat) (inner x:List Nat):Prop where
 xlen:x.length=n
 ilen:inner.length=n
 norm:norm=nrm g n x%M
 inner:∀j,j<n->inner.getD j 0=gx g n x j%M
theorem qwh {g:List (List Nat)} {n M norm:Nat} {inner x:List Nat} {i:Nat} (h:At g n M norm inner x) (hi:i<n) (hs:∀j k,j<n->k<n->ent g j k=ent g k j):
  At g n M ((norm+2*inner.getD i 0+(g.getD i []).getD i 0)%M) (addR M (g.getD i []) n 0 inner) (x.set i (x.getD i 0+1)):=by
 refine ⟨by simp [h.xlen],by rw [qpe,h.ilen],?_,fun j hj=>?_⟩
 ·rw [qpd h.xlen hi hs,h.norm,h.inner i hi]
  show (nrm g n x%M+2*(gx g n x i%M)+ent g i i)%M=_
  simp only [xO,xP,Nat.mod_mod]
 ·rw [qpf _ _ _ _ (by rw [h.ilen];omega),if_pos (by omega),h.inner j hj,qiv h.xlen hi]
  show (gx g n x j%M+ent g i j)%M=_
  rw [xO,Nat.mod_mod,<-xO]
theorem qwi {g:List (List Nat)} {n M norm:Nat} {inner x:List Nat} {i:Nat} (h:At g n M norm inner x) (hi:i<n) (hM:x.getD i 0%M=0):At g n M norm inner (x.set i 0):=by
 have e:∀k,k<n->(x.set i 0).getD k 0%M=x.getD k 0%M:=by
  intro k hk
  rw [zkg (by rw [h.xlen];exact hi)]
  split
  ·rename_i e;subst e;rw [hM,zK]
  ·rfl
 exact ⟨by simp [h.xlen],h.ilen,by rw [qwg e];exact h.norm,fun j hj=>by rw [qrq e];exact h.inner j hj⟩
def inc (M:Nat):List Nat->Option (List Nat)
 | []=>none
 | a::r=>if a+1<M then some ((a+1)::r) else (inc M r).map (0:: ·)
theorem qiw {g:List (List Nat)} {n M:Nat} (hM:0<M) (hs:∀j k,j<n->k<n->ent g j k=ent g k j):∀(r:List Nat) (i norm:Nat) (inner:List Nat),i+r.length=n->(∀a∈r,a<M)->At g n M norm inner (List.replicate i 0++r)->
  match inc M r with
  | none=>bump g n M r.length i norm inner (List.replicate i 0++r)=none
  | some r'=>∃norm' inner',bump g n M r.length i norm inner (List.replicate i 0++r)=some (norm',inner',List.replicate i 0++r')/\At g n M norm' inner' (List.replicate i 0++r'):=by
 intro r
 induction r with
 | nil=>intro i norm inner _ _ _;rfl
 | cons a r ih=>
  intro i norm inner hl ha h
  have hi:i<n:=by simp at hl;omega
  have hst:=qwh h hi hs
  have hg:(List.replicate i 0++a::r).getD i 0=a:=by
   rw [qX,qL (by simp)];simp
  have hset:∀b:Nat,(List.replicate i 0++a::r).set i b=List.replicate i 0++b::r:=by
   intro b;rw [qG _ _ (by simp)];simp
  rw [hg,hset] at hst
  simp only [inc,xT,bump,hg,hset]
  by_cases hlt:a+1<M
  ·simp only [if_pos hlt]
   exact ⟨_,_,rfl,hst⟩
  ·simp only [if_neg hlt]
   have haM:a+1=M:=by have:=ha a (by simp);omega
   have hset2:(List.replicate i 0++(a+1)::r).set i 0=List.replicate (i+1) 0++r:=by
    rw [qG _ _ (by simp),yC,xV];simp
   have hg2:(List.replicate i 0++(a+1)::r).getD i 0=a+1:=by
    rw [qX,qL (by simp)];simp
   have hw:=qwi hst hi (by rw [hg2,haM,Nat.mod_self])
   rw [hset2] at hw ⊢
   have:=ih (i+1) _ _ (by simp at hl;omega) (fun b hb=>ha b (by simp [hb])) hw
   cases hinc:inc M r with
   | none=>rw [hinc] at this;exact this
   | some r'=>
    rw [hinc] at this
    obtain ⟨norm',inner',h1,h2⟩:=this
    have e:List.replicate (i+1) 0++r'=List.replicate i 0++0::r':=by rw [yC,xV];rfl
    rw [e] at h1 h2
    exact ⟨norm',inner',h1,h2⟩
def allV (M:Nat):Nat->List (List Nat)
 | 0=>[[]]
 | n+1=>(allV M n).flatMap fun r=>(List.range M).map fun a=>a::r
inductive Chain (M:Nat):List Nat->List (List Nat)->Prop
 | last {x:List Nat}:inc M x=none->Chain M x [x]
 | next {x y:List Nat} {l:List (List Nat)}:inc M x=some y->Chain M y l->Chain M x (x::l)
theorem qcz {M:Nat} {r:List Nat} {l:List (List Nat)} (h:Chain M r l):∀(k a:Nat),a+k+1=M->Chain M (a::r) (((List.range' a (k+1)).map fun b=>b::r)++l.tail.flatMap fun s=>(List.range M).map fun b=>b::s):=by
 induction h with
 | last hn=>
  rename_i x
  intro k
  induction k with
  | zero=>
   intro a ha
   refine .last ?_
   simp only [inc]
   rw [if_neg (by omega),hn];rfl
  | succ k ih=>
   intro a ha
   rw [zA]
   refine .next (y:=(a+1)::x) ?_ (ih (a+1) (by omega))
   simp only [inc]
   rw [if_pos (by omega)]
 | next hn hc ih0=>
  rename_i x y l
  intro k
  induction k with
  | zero=>
   intro a ha
   have:=ih0 (M-1) 0 (by omega)
   refine .next (y:=0::y) ?_ ?_
   ·simp only [inc]
    rw [if_neg (by omega),hn];rfl
   ·have e:(List.range' 0 (M-1+1)).map (fun b=>b::y)=(List.range M).map fun b=>b::y:=by
     rw [yD,show M-1+1=M by omega]
    rw [e] at this
    cases hc with
    | last h1=>simpa using this
    | next h1 h2=>simpa using this
  | succ k ih=>
   intro a ha
   rw [zA]
   refine .next (y:=(a+1)::x) ?_ (ih (a+1) (by omega))
   simp only [inc]
   rw [if_pos (by omega)]
theorem qda {M:Nat} {x:List Nat} {l:List (List Nat)} (h:Chain M x l):l=x::l.tail:=by
 cases h<;>rfl
theorem chain_all {M:Nat} (hM:0<M):∀n,Chain M (List.replicate n 0) (allV M n):=by
 intro n
 induction n with
 | zero=>exact .last rfl
 | succ n ih=>
  have:=qcz ih (M-1) 0 (by omega)
  have h2:=qda ih
  have e:allV M (n+1)=((List.range' 0 (M-1+1)).map fun b=>b::List.replicate n 0)++(allV M n).tail.flatMap fun s=>(List.range M).map fun b=>b::s:=by
   show (allV M n).flatMap _=_
   rw [h2,xR,show M-1+1=M by omega,<-yD]
   rw [<-h2]
  rw [e]
  exact this
def tally (c:List Nat) (s:Nat):List Nat:=c.set s (c.getD s 0+1)
theorem qix {g:List (List Nat)} {n M:Nat} (hM:0<M) (hs:∀j k,j<n->k<n->ent g j k=ent g k j) {x:List Nat} {l:List (List Nat)} (h:Chain M x l):
  ∀{f norm:Nat} {inner cts:List Nat},l.length<=f->(∀a∈x,a<M)->At g n M norm inner x->runC g n M f cts norm inner x=some (l.foldl (fun c y=>tally c (nrm g n y%M)) cts):=by
 induction h with
 | last hn=>
  rename_i x
  intro f norm inner cts hf hx ha
  obtain ⟨f,rfl⟩:∃k,f=k+1:=⟨f-1,by simp at hf;omega⟩
  have:=qiw hM hs x 0 norm inner (by rw [qN];exact ha.xlen) hx (by simpa using ha)
  rw [hn] at this
  simp only [qV,yV,ha.xlen] at this
  simp only [runC,this,yY,List.foldl_nil,tally]
  rw [<-ha.norm]
 | next hn hc ih=>
  rename_i x y l
  intro f norm inner cts hf hx ha
  obtain ⟨f,rfl⟩:∃k,f=k+1:=⟨f-1,by simp at hf;omega⟩
  have:=qiw hM hs x 0 norm inner (by rw [qN];exact ha.xlen) hx (by simpa using ha)
  rw [hn] at this
  simp only [qV,yV,ha.xlen] at this
  obtain ⟨norm',inner',h1,h2⟩:=this
  have hy:∀a∈y,a<M:=by
   have key:∀(r r':List Nat),(∀a∈r,a<M)->inc M r=some r'->∀a∈r',a<M:=by
    intro r
    induction r with
    | nil=>intro r' _ h;simp [inc] at h
    | cons b r ihr=>
     intro r' hr h
     simp only [inc] at h
     split at h
     ·simp only [zW] at h
      subst h
      intro a ha
      rcases List.mem_cons.1 ha with e | e
      ·omega
      ·exact hr a (by simp [e])
     ·cases hi:inc M r with
      | none=>rw [hi] at h;simp at h
      | some s=>
       rw [hi] at h
       simp only [zG,zW] at h
       subst h
       intro a ha
       rcases List.mem_cons.1 ha with e | e
       ·omega
       ·exact ihr s (fun c hc=>hr c (by simp [hc])) hi a e
   exact key _ _ hx hn
  have hr:=ih (f:=f) (cts:=tally cts (nrm g n x%M)) (by simp at hf;omega) hy h2
  simp only [runC,h1,yY,<-ha.norm] at hr ⊢
  rw [<-hr]
  rfl
theorem tally_len (c:List Nat) (s:Nat):(tally c s).length=c.length:=by simp [tally]
theorem tally_get {c:List Nat} {s t:Nat} (hs:s<c.length):(tally c s).getD t 0=c.getD t 0+if t=s then 1 else 0:=by
 unfold tally
 rw [zkg hs]
 split
 ·rename_i h;subst h;rfl
 ·rfl
theorem zog (f:List Nat->Nat) (M:Nat):∀(l:List (List Nat)) (c:List Nat),c.length=M->(∀y∈l,f y<M)->(l.foldl (fun c y=>tally c (f y)) c).length=M/\∀t,(l.foldl (fun c y=>tally c (f y)) c).getD t 0=c.getD t 0+l.countP fun y=>decide (f y=t):=by
 intro l
 induction l with
 | nil=>intro c hc _;exact ⟨hc,fun t=>by simp⟩
 | cons y l ih=>
  intro c hc hf
  obtain ⟨h1,h2⟩:=ih (tally c (f y)) ((tally_len _ _).trans hc) (fun z hz=>hf z (by simp [hz]))
  refine ⟨h1,fun t=>?_⟩
  rw [yY,h2,tally_get (by rw [hc];exact hf y (by simp)),yX]
  by_cases h:t=f y
  ·rw [if_pos h,decide_eq_true h.symm];simp;omega
  ·rw [if_neg h,decide_eq_false (fun e=>h e.symm)];simp
theorem allV_len (M:Nat):∀n,(allV M n).length=M^n:=by
 intro n
 induction n with
 | zero=>rfl
 | succ n ih=>
  have:∀l:List (List Nat),(l.flatMap fun r=>(List.range M).map fun a=>a::r).length=l.length*M:=by
   intro l
   induction l with
   | nil=>simp
   | cons x l ihl=>rw [xR,yL,ihl,xT,Nat.succ_mul];simp;omega
  show (List.flatMap _ _).length=_
  rw [this,ih,qI]
theorem qwj {g:List (List Nat)} {n M:Nat}:At g n M 0 (List.replicate n 0) (List.replicate n 0):=by
 have hz:∀k,(List.replicate n 0).getD k 0=0:=by
  intro k
  rw [qX,yZ]
  split<;>rfl
 have e:∀j,gx g n (List.replicate n 0) j=0:=fun j=>zfy fun i _=>by rw [hz,xZ]
 refine ⟨by simp,by simp,?_,fun j _=>by rw [hz,e,zK]⟩
 unfold nrm
 rw [zfy fun i _=>by rw [hz,xZ],zK]
theorem runC_ok {g:List (List Nat)} {n M:Nat} (hM:0<M) (hs:∀j k,j<n->k<n->ent g j k=ent g k j):∃fin,runC g n M (M^n) (List.replicate M 0) 0 (List.replicate n 0) (List.replicate n 0)=some fin/\fin.length=M/\
  ∀t,fin.getD t 0=(allV M n).countP fun y=>decide (nrm g n y%M=t):=by
 have h:=qix hM hs (chain_all hM n) (f:=M^n) (cts:=List.replicate M 0) (by rw [allV_len];exact qH _) (fun a ha=>by rw [yP] at ha;omega) qwj
 obtain ⟨h1,h2⟩:=zog (fun y=>nrm g n y%M) M (allV M n) (List.replicate M 0) (by simp) (fun y _=>yW _ hM)
 refine ⟨_,h,h1,fun t=>?_⟩
 rw [h2]
 have:(List.replicate M 0).getD t 0=0:=by
  rw [qX,yZ]
  split<;>rfl
 omega
theorem zgm (P:List Nat->Bool) (M:Nat):∀l:List (List Nat),(l.flatMap fun r=>(List.range M).map fun a=>a::r).countP P=sumN (fun a=>l.countP fun r=>P (a::r)) M:=by
 intro l
 induction l with
 | nil=>simp only [List.flatMap_nil,zP];exact (zfy fun _ _=>rfl).symm
 | cons x l ih=>
  rw [xR,yR,ih]
  have e:((List.range M).map fun a=>a::x).countP P=sumN (fun a=>if P (a::x) then 1 else 0) M:=by
   clear ih
   induction M with
   | zero=>rfl
   | succ M ihM=>
    rw [zD,List.map_append,yR,ihM]
    simp only [sumN,List.map_cons,List.map_nil,yX,zP,qN]
  rw [e,<-zig]
  refine zdo fun a _=>?_
  rw [yX]
  omega
end Go.Count
namespace Go.Proofs.YtpflahgcdgdkjaaGreatDoor
open Nat renaming reduceEqDiff -> qQ, reduceAdd -> qJ, le_refl -> qH, mod_lt -> yW
open List renaming getD_eq_getElem?_getD -> qX, getElem?_eq_getElem -> qK, getElem?_cons_succ -> qA, getElem?_cons_zero -> qB, take_of_length_le -> qC, getElem?_set_self -> qE, length_set -> qT, drop_zero -> xG, mapM_cons -> xH, mem_or_eq_of_mem_set -> xL, getElem_mem -> yJ, mem_replicate -> yP, map_set -> yS, set_set -> yT
open Int renaming toNat_natCast -> qW, natCast_add -> xC
open Go Go.AL Go.Proofs Go.Count
def ints (l:List Nat):List AV:=l.map fun (n:Nat)=>AV.int .i64 (n:Int)
theorem zdb (l:List Nat):(ints l).length=l.length:=by simp [ints]
theorem qpg (l:List Nat) (i:Nat) (h:i<l.length):(ints l)[i]?=some (.int .i64 ((l.getD i 0:Nat):Int)):=by
 simp [ints,h]
theorem zcm (l:List Nat) (i:Nat) (h:i<l.length) (d:AV):(ints l).getD i d= .int .i64 ((l.getD i 0:Nat):Int):=by
 rw [qX,qpg l i h];rfl
theorem zih (l:List Nat) (i a:Nat):(ints l).set i (.int .i64 (a:Int))=ints (l.set i a):=by
 simp [ints,yS]
theorem zim {a:Nat} (h:a<2^63):IntKind.i64.wrap ((a:Nat):Int)=(a:Int):=by
 simp [IntKind.wrap,IntKind.bits,IntKind.signed]
 omega
theorem jbq {nt n M:Nat} (hM:0<M) (hM2:M<2^40) (hn:n<2^20) {row:List Nat} {cr:Option Nat} (hrl:row.length=n) (hrow:∀a∈row,a<M) (cts xs:List AV) (fin:List Nat) (E0:Env):
  ∀{E:Env} {H:Heap} {Q:Post} (inner:List Nat),inner.length=n->(∀a∈inner,a<M)->addR M row n 0 inner=fin->
   (∀t,t∉[58,59,60,61,62,13,14,63,64,65,66,67,68,69,70,71,72,73,74]->E t=E0 t)->E 58= .int .i64 0->E0 57= .int .i64 n->E0 56= .vec (ints row) n cr->E0 9= .sl 2 0 n 1 (some n)->E0 1= .int .i64 M->
   H=[some cts,some xs,some (ints inner)]->
   (∀E',(∀t,t∉[58,59,60,61,62,13,14,63,64,65,66,67,68,69,70,71,72,73,74]->E' t=E0 t)->Q (.exit 2) E' [some cts,some xs,some (ints fin)])->
   Wg 0 nt (.loop l28_1) E H Q:=by
 intro E H Q inner hil hin hfin hE h58 h57 h56 h9 h1 hH hQ
 refine zai (fun k E H=>∃j inner,j+k=n/\inner.length=n/\(∀a∈inner,a<M)/\addR M row k j inner=fin/\
  (∀t,t∉[58,59,60,61,62,13,14,63,64,65,66,67,68,69,70,71,72,73,74]->E t=E0 t)/\E 58= .int .i64 (j:Int)/\H=[some cts,some xs,some (ints inner)]) ⟨0,inner,by omega,hil,hin,hfin,hE,h58,hH⟩ ?_
 rintro k E H ⟨j,inner,hjk,hil,hin,hfin,hE,h58,rfl⟩
 refine wM ?_
 have e57:E 57= .int .i64 n:=(hE 57 (by decide)).trans h57
 have e56:E 56= .vec (ints row) n cr:=(hE 56 (by decide)).trans h56
 have e9:E 9= .sl 2 0 n 1 (some n):=(hE 9 (by decide)).trans h9
 have e1:E 1= .int .i64 M:=(hE 1 (by decide)).trans h1
 simp only [l28_1,r28_12,SS,reduceIte,h58,e57]
 have hup:∀(E':Env) (d:Nat) (v:AV),d∈[58,59,60,61,62,13,14,63,64,65,66,67,68,69,70,71,72,73,74]->(∀t,t∉[58,59,60,61,62,13,14,63,64,65,66,67,68,69,70,71,72,73,74]->E' t=E0 t)->
   ∀t,t∉[58,59,60,61,62,13,14,63,64,65,66,67,68,69,70,71,72,73,74]->upd E' d v t=E0 t:=by
  intro E' d v hd h t ht
  unfold upd
  rw [if_neg (fun e:t=d=>ht (by rw [e];exact hd))]
  exact h t ht
 refine ⟨fun hlt=>?_,fun hnl=>?_⟩
 ·have hj:j<n:=by omega
  have hij:inner.getD j 0<M:=by
   rw [qX,qK (by omega)]
   exact hin _ (yJ _)
  have hrj:row.getD j 0<M:=by
   rw [qX,qK (by omega)]
   exact hrow _ (yJ _)
  have gi:=zcm inner j (by omega) AV.junk
  have gr:=zcm row j (by omega) AV.junk
  have w1:IntKind.i64.wrap (((inner.getD j 0:Nat):Int)+((row.getD j 0:Nat):Int))=((inner.getD j 0+row.getD j 0:Nat):Int):=by
   rw [<-xC];exact zim (by omega)
  have w2:IntKind.i64.wrap ((j:Int)+1)=((j+1:Nat):Int):=by
   have:((j:Int)+1)=((j+1:Nat):Int):=by omega
   rw [this];exact zim (by omega)
  have w3:Int.tmod ((inner.getD j 0+row.getD j 0:Nat):Int) (M:Int)=(((inner.getD j 0+row.getD j 0)%M:Nat):Int):=rfl
  simp only [r28_13,r28_14,r28_15,SS,fC,reduceIte,qQ,h58,e56,e9,e1,qW,gi,gr,zdb,w1,w2,w3,zih]
  refine ⟨⟨by omega,hlt⟩,by omega,⟨by omega,hlt⟩,by omega,by omega,⟨by omega,hlt⟩,by omega,?_⟩
  obtain ⟨k',rfl⟩:∃k',k=k'+1:=⟨k-1,by omega⟩
  refine ⟨k',_,_,by omega,⟨j+1,inner.set j ((inner.getD j 0+row.getD j 0)%M),by omega,by simp [hil],?_,hfin,?_,rfl,rfl⟩,.refl⟩
  ·intro a ha
   rcases xL ha with h | h
   ·exact hin a h
   ·subst h;exact yW _ hM
  ·repeat (refine hup _ _ _ (by decide) ?_)
   exact hE
 ·have hj:j=n:=by omega
  have hk:k=0:=by omega
  subst hk
  have:inner=fin:=hfin
  subst this
  exact hQ _ (hup _ _ _ (by decide) hE)
structure PE (n M:Nat) (rows:List AV) (cg:Option Nat) (v5 v7:AV) (E:Env):Prop where
 e1:E 1= .int .i64 M
 e5:E 5=v5
 e7:E 7=v7
 e8:E 8= .sl 1 0 n 1 (some n)
 e9:E 9= .sl 2 0 n 1 (some n)
 e35:E 35= .vec rows n cg
 e36:E 36= .int .i64 n
theorem zsk {l:List Nat} {M i:Nat} (h:∀a∈l,a<M) (hi:i<l.length):l.getD i 0<M:=by
 rw [qX,qK hi]
 exact h _ (yJ _)
theorem qad {l:List Nat} {M i b:Nat} (h:∀a∈l,a<M) (hb:b<M):∀a∈l.set i b,a<M:=by
 intro a ha
 rcases xL ha with h' | h'
 ·exact h a h'
 ·subst h';exact hb
theorem qwk {M:Nat} (hM:0<M) (row:List Nat):∀(k j:Nat) (l:List Nat),(∀a∈l,a<M)->(addR M row k j l).length=l.length/\∀a∈addR M row k j l,a<M:=by
 intro k
 induction k with
 | zero=>intro j l h;exact ⟨rfl,h⟩
 | succ k ih=>
  intro j l h
  obtain ⟨h1,h2⟩:=ih (j+1) (l.set j ((l.getD j 0+row.getD j 0)%M)) (qad h (yW _ hM))
  exact ⟨h1.trans (by simp),h2⟩
theorem jbr {nt n M:Nat} (hM:0<M) (hM2:M<2^40) (hn:n<2^20) {g:List (List Nat)} {rows:List AV} {cg:Option Nat} (hrl:rows.length=n) (hrows:∀i,i<n->∃c,rows[i]?=some (.vec (ints (g.getD i [])) n c))
  (hgl:∀i,i<n->(g.getD i []).length=n) (hgM:∀i,i<n->∀a∈g.getD i [],a<M) (v5 v7:AV) (cts:List AV) (res:Option (Nat×List Nat×List Nat))
  {E:Env} {H:Heap} {Q:Post} (norm:Nat) (inner x:List Nat) (hno:norm<M) (hil:inner.length=n) (hin:∀a∈inner,a<M) (hxl:x.length=n) (hx:∀a∈x,a<M) (hres:bump g n M n 0 norm inner x=res)
  (hE:PE n M rows cg v5 v7 E) (h37:E 37= .int .i64 0) (h10:E 10= .int .i64 norm) (hH:H=[some cts,some (ints x),some (ints inner)])
  (hQ1:res=none->∀E' a b,PE n M rows cg v5 v7 E'->Q (.exit 0) E' [some cts,some a,some b])
  (hQ2:∀norm' inner' x',res=some (norm',inner',x')->norm'<M->inner'.length=n->(∀a∈inner',a<M)->x'.length=n->(∀a∈x',a<M)->∀E',PE n M rows cg v5 v7 E'->E' 10= .int .i64 (norm':Int)->
   Q (.goto 0) E' [some cts,some (ints x'),some (ints inner')]):
  Wg 0 nt (.loop l28_0) E H Q:=by
 refine zai (fun k E H=>∃i norm inner x,i+k=n/\norm<M/\inner.length=n/\(∀a∈inner,a<M)/\x.length=n/\(∀a∈x,a<M)/\bump g n M k i norm inner x=res/\PE n M rows cg v5 v7 E/\
  E 37= .int .i64 (i:Int)/\E 10= .int .i64 (norm:Int)/\H=[some cts,some (ints x),some (ints inner)]) ⟨0,norm,inner,x,by omega,hno,hil,hin,hxl,hx,hres,hE,h37,h10,hH⟩ ?_
 rintro k E H ⟨i,norm,inner,x,hik,hno,hil,hin,hxl,hx,hres,hE,h37,h10,rfl⟩
 refine wM ?_
 obtain ⟨e1,e5,e7,e8,e9,e35,e36⟩:=hE
 simp only [l28_0,r28_8,SS,reduceIte,h37,e36]
 refine ⟨fun hlt=>?_,fun hnl=>?_⟩
 ·have hi:i<n:=by omega
  obtain ⟨k',rfl⟩:∃k',k=k'+1:=⟨k-1,by omega⟩
  obtain ⟨cr,hr⟩:=hrows i hi
  have hrD:rows.getD i AV.junk= .vec (ints (g.getD i [])) n cr:=by rw [qX,hr];rfl
  have gi:=zcm inner i (by omega) AV.junk
  have gr:=zcm (g.getD i []) i (by rw [hgl i hi];exact hi) AV.junk
  have bi:=zsk hin (i:=i) (by omega)
  have br:=zsk (hgM i hi) (i:=i) (by rw [hgl i hi];exact hi)
  have w1:IntKind.i64.wrap (2*((inner.getD i 0:Nat):Int))=((2*inner.getD i 0:Nat):Int):=by
   have:(2*((inner.getD i 0:Nat):Int))=((2*inner.getD i 0:Nat):Int):=by omega
   rw [this];exact zim (by omega)
  have w2:IntKind.i64.wrap ((norm:Int)+((2*inner.getD i 0:Nat):Int))=((norm+2*inner.getD i 0:Nat):Int):=by
   rw [<-xC];exact zim (by omega)
  have w3:IntKind.i64.wrap (((norm+2*inner.getD i 0:Nat):Int)+(((g.getD i []).getD i 0:Nat):Int))=((norm+2*inner.getD i 0+(g.getD i []).getD i 0:Nat):Int):=by
   rw [<-xC];exact zim (by omega)
  have w4:Int.tmod ((norm+2*inner.getD i 0+(g.getD i []).getD i 0:Nat):Int) (M:Int)=(((norm+2*inner.getD i 0+(g.getD i []).getD i 0)%M:Nat):Int):=rfl
  simp only [r28_9,r28_10,r28_11,SS,fC,reduceIte,qQ,h37,h10,e1,e9,e35,qW,hrD,gi,gr,zdb,hrl,hil,hgl i hi,w1,w2,w3,w4]
  refine ⟨⟨by omega,hlt⟩,by omega,⟨by omega,hlt⟩,by omega,⟨by omega,hlt⟩,by omega,by omega,rfl,?_⟩
  refine jbq hM hM2 hn (hgl i hi) (hgM i hi) cts (ints x) (addR M (g.getD i []) n 0 inner) _ inner hil hin rfl (fun _ _=>rfl) rfl rfl rfl e9 e1 rfl ?_
  intro E' hE'
  have f1:E' 1= .int .i64 M:=(hE' 1 (by decide)).trans e1
  have f5:E' 5=v5:=(hE' 5 (by decide)).trans e5
  have f7:E' 7=v7:=(hE' 7 (by decide)).trans e7
  have f8:E' 8= .sl 1 0 n 1 (some n):=(hE' 8 (by decide)).trans e8
  have f9:E' 9= .sl 2 0 n 1 (some n):=(hE' 9 (by decide)).trans e9
  have f35:E' 35= .vec rows n cg:=(hE' 35 (by decide)).trans e35
  have f36:E' 36= .int .i64 n:=(hE' 36 (by decide)).trans e36
  have f37:E' 37= .int .i64 (i:Int):=(hE' 37 (by decide)).trans h37
  have f10:E' 10= .int .i64 (((norm+2*inner.getD i 0+(g.getD i []).getD i 0)%M:Nat):Int):=(hE' 10 (by decide)).trans rfl
  have f11:E' 11= .int .i64 (i:Int):=(hE' 11 (by decide)).trans rfl
  clear hE'
  have gx:=zcm x i (by omega) AV.junk
  have bx:=zsk hx (i:=i) (by omega)
  have gx2:=zcm (x.set i (x.getD i 0+1)) i (by simp;omega) AV.junk
  have hx2:(x.set i (x.getD i 0+1)).getD i 0=x.getD i 0+1:=by
   rw [qX,qE (by omega)];rfl
  rw [hx2] at gx2
  have w5:IntKind.i64.wrap (((x.getD i 0:Nat):Int)+1)=((x.getD i 0+1:Nat):Int):=by
   have:(((x.getD i 0:Nat):Int)+1)=((x.getD i 0+1:Nat):Int):=by omega
   rw [this];exact zim (by omega)
  have w6:IntKind.i64.wrap ((i:Int)+1)=((i+1:Nat):Int):=by
   have:((i:Int)+1)=((i+1:Nat):Int):=by omega
   rw [this];exact zim (by omega)
  have z0:AV.int .i64 0=AV.int .i64 ((0:Nat):Int):=rfl
  obtain ⟨ral,ram⟩:=qwk hM (g.getD i []) n 0 inner hin
  simp only [bump] at hres
  simp only [r28_16,r28_17,r28_18,r28_19,SS,fC,reduceIte,qQ,f1,f8,f11,f37,qW,gx,zdb,hxl,w5,w6,zih,gx2,qT,z0]
  refine ⟨⟨by omega,hlt⟩,by omega,⟨by omega,hlt⟩,by omega,⟨by omega,hlt⟩,by omega,fun hl=>?_,fun hl=>?_⟩
  ·have hl':x.getD i 0+1<M:=by omega
   rw [if_pos hl'] at hres
   refine hQ2 _ _ _ hres.symm (yW _ hM) (ral.trans hil) ram (by simp [hxl]) (qad hx (by omega)) _ ⟨?_,?_,?_,?_,?_,?_,?_⟩ ?_<;>simp only [znf,qQ,if_false, *]
  ·have hl':¬x.getD i 0+1<M:=by omega
   rw [if_neg hl'] at hres
   refine ⟨⟨by omega,hlt⟩,by omega,?_⟩
   refine ⟨k',_,_,by omega,⟨i+1,_,_,_,by omega,yW _ hM,ral.trans hil,ram,by simp [hxl],(by rw [yT];exact qad hx hM),hres,⟨?_,?_,?_,?_,?_,?_,?_⟩,?_,?_,rfl⟩,.refl⟩<;>simp only [znf,qQ,reduceIte,if_false, *]
 ·have hi:i=n:=by omega
  have hk:k=0:=by omega
  subst hk
  refine hQ1 hres.symm _ _ _ ⟨?_,?_,?_,?_,?_,?_,?_⟩<;>simp only [znf,qQ,if_false, *]
def J79 (g:List (List Nat)) (n M F:Nat) (rows:List AV) (cg:Option Nat) (fin:List Nat) (f:Nat) (E:Env) (H:Heap):Prop:=
 ∃cts norm inner x,cts.length=M/\(∀a∈cts,a<F-f+1)/\f<=F/\norm<M/\inner.length=n/\(∀a∈inner,a<M)/\x.length=n/\(∀a∈x,a<M)/\runC g n M f cts norm inner x=some fin/\
  E 1= .int .i64 (M:Int)/\E 5= .vec rows n cg/\E 7= .sl 0 0 M 1 (some M)/\E 8= .sl 1 0 n 1 (some n)/\E 9= .sl 2 0 n 1 (some n)/\E 10= .int .i64 (norm:Int)/\H=[some (ints cts),some (ints x),some (ints inner)]
theorem qrr {g:List (List Nat)} {n M F:Nat} {rows:List AV} {cg:Option Nat} {fin:List Nat} (hM:0<M) (hM2:M<2^40) (hn:n<2^20) (hF:F<2^60)
  (hrl:rows.length=n) (hrows:∀i,i<n->∃c,rows[i]?=some (.vec (ints (g.getD i [])) n c)) (hgl:∀i,i<n->(g.getD i []).length=n) (hgM:∀i,i<n->∀a∈g.getD i [],a<M)
  {f:Nat} {E:Env} {H:Heap} (hJ:J79 g n M F rows cg fin f E H) {Jp:Env->Heap->Prop} {Q:Post} (h1:∀f' E' H',f'<f->J79 g n M F rows cg fin f' E' H'->Jp E' H')
  (h2:∀E' a b,E' 4= .sl 0 0 M 1 (some M)->Q .ret E' [some (ints fin),some a,some b]):
  wG 0 92 (.seq (.reg r28_6 none) (.seq (.seq (.reg r28_7 none) (.block 0 (.loop l28_0))) (.seq (.reg r28_20 none) .ret))) E H (qtr 0 Jp Q):=by
 obtain ⟨cts,norm,inner,x,hcl,hcb,hfF,hno,hil,hin,hxl,hx,hrun,e1,e5,e7,e8,e9,e10,rfl⟩:=hJ
 cases f with
 | zero=>simp [runC] at hrun
 | succ f=>
  have gc:=zcm cts norm (by omega) AV.junk
  have bc:=zsk hcb (i:=norm) (by omega)
  have w1:IntKind.i64.wrap (((cts.getD norm 0:Nat):Int)+1)=((cts.getD norm 0+1:Nat):Int):=by
   have:(((cts.getD norm 0:Nat):Int)+1)=((cts.getD norm 0+1:Nat):Int):=by omega
   rw [this];exact zim (by omega)
  simp only [r28_6,r28_7,r28_20,SS,fC,reduceIte,qQ,e7,e10,e5,qW,gc,w1,zdb,hcl,zih]
  refine ⟨⟨by omega,by omega⟩,by omega,⟨by omega,by omega⟩,by omega,?_⟩
  refine jbr hM hM2 hn hrl hrows hgl hgM (.vec rows n cg) (.sl 0 0 M 1 (some M)) (ints (cts.set norm (cts.getD norm 0+1))) (bump g n M n 0 norm inner x) norm inner x hno hil hin hxl hx rfl
   ⟨e1,e5,e7,e8,e9,rfl,rfl⟩ rfl e10 rfl ?_ ?_
  ·intro hb E' a b hE'
   simp only [runC,hb] at hrun
   have hfin:cts.set norm (cts.getD norm 0+1)=fin:=Option.some.inj hrun
   rw [hfin]
   exact h2 _ _ _ hE'.e7
  ·intro norm' inner' x' hb q1 q2 q3 q4 q5 E' hE' q6
   simp only [runC,hb] at hrun
   refine ⟨rfl,h1 f E' _ (by omega) ⟨_,norm',inner',x',?_,?_,by omega,q1,q2,q3,q4,q5,hrun,hE'.e1,hE'.e5,hE'.e7,hE'.e8,hE'.e9,q6,rfl⟩⟩
   ·simp [hcl]
   ·refine qad (fun a ha=>?_) (by omega)
    have:=hcb a ha
    omega
theorem zoh {g:List (List Nat)} {n M F:Nat} {hs rows:List AV} {ch cg:Option Nat} {kd:IntKind} {en:Int} {fin:List Nat} (hM:0<M) (hM2:M<2^40) (hn:n<2^20) (hF:F<2^60)
  (hres:Rt 72 [.vec hs n ch,.int .i64 (M:Int)] [] (.tup [.vec rows n cg,.int kd en]) [])
  (hrl:rows.length=n) (hrows:∀i,i<n->∃c,rows[i]?=some (.vec (ints (g.getD i [])) n c)) (hgl:∀i,i<n->(g.getD i []).length=n) (hgM:∀i,i<n->∀a∈g.getD i [],a<M)
  (hrun:runC g n M F (List.replicate M 0) 0 (List.replicate n 0) (List.replicate n 0)=some fin) (hfl:fin.length=M):
  Rt 28 [.vec hs n ch,.int .i64 (M:Int)] [] (.vec (ints fin) M (some M)) []:=by
 refine oF o28 ?_
 simp only [c28,r28_0,SS]
 have hrep:∀k:Nat,List.replicate k (AV.int IntKind.i64 0)=ints (List.replicate k 0):=by intro k;simp [ints]
 have hfinal:∀(E':Env) (a b:List AV),E' 4= .sl 0 0 M 1 (some M)->(fun (x:Exit) (E':Env) (H':Heap)=>(x=Exit.ret\/x=Exit.normal)/\∃v',resA Tryz.prog [ResultVar.tmp 4] E' H'=some v'/\AL.Fin 0 v' H' (AV.vec (ints fin) M (some M)) []) .ret E' [some (ints fin),some a,some b]:=by
  intro E' a b h4
  refine ⟨.inl rfl,.sl 0 0 M 1 (some M),by simp [resA,zew,h4],.freeze 2 _ _ _ ?_ (by intro i cs h;omega)⟩
  have hm:∀l:List Nat,(ints l).mapM (frzI 0 [some (ints fin),some a,some b] 1)=some (ints l):=by
   intro l
   induction l with
   | nil=>rfl
   | cons y l ih=>
    have:ints (y::l)= .int .i64 (y:Int)::ints l:=rfl
    rw [this,xH,ih]
    rfl
  have e:frzI 0 [some (ints fin),some a,some b] 2 (.sl 0 0 M 1 (some M))=need (0+M*1<=(ints fin).length) (((((ints fin).drop 0).take (M*1)).mapM (frzI 0 [some (ints fin),some a,some b] 1)).map fun l=> .vec l M (some M)):=rfl
  have ht:((ints fin).drop 0).take (M*1)=ints fin:=by rw [xG,qC (by rw [zdb,hfl];omega)]
  rw [e,ht,hm]
  unfold need
  rw [if_pos (by rw [zdb,hfl];omega)]
  rfl
 refine qgi 0 (fun f E H=>J79 g n M F rows cg fin f E H) rfl ?_ ?_
 ·refine wM ?_
  simp only [r28_1,r28_2,r28_3,r28_4,r28_5,SS,reduceCtorEq,reduceIte,qQ]
  refine zaa hres ?_
  simp only [SS,reduceCtorEq,reduceIte,qJ,qQ,qW,qB,qA,hrep]
  refine ⟨by omega,⟨by omega,by omega,by omega,by omega⟩,by omega,⟨by omega,by omega,by omega,by omega⟩,by omega,⟨by omega,by omega,by omega,by omega⟩,?_⟩
  have zr:∀(k B:Nat),0<B->∀a∈List.replicate k 0,a<B:=by
   intro k B hB a ha
   rw [yP] at ha
   omega
  refine qrr (f:=F) (E:=_) (H:=_) hM hM2 hn hF hrl hrows hgl hgM ⟨List.replicate M 0,0,List.replicate n 0,List.replicate n 0,by simp,zr _ _ (by omega),qH _,hM,by simp,zr _ _ hM,by simp,zr _ _ hM,hrun,rfl,rfl,rfl,rfl,rfl,rfl,rfl⟩
   (fun f' E' H' hlt h=>⟨f',E',H',h,.refl⟩) hfinal
 ·intro f E H hJ
  refine wM ?_
  exact qrr hM hM2 hn hF hrl hrows hgl hgM hJ (fun f' E' H' hlt h=>⟨f',E',H',hlt,h,.refl⟩) hfinal
end Go.Proofs.YtpflahgcdgdkjaaGreatDoor
