/- A part of the proof. -/
import Derived.Test.YtpflahgcdgdkjaaGreatDoorPD
import Derived.Test.YtpflahgcdgdkjaaGreatDoorPB
import Derived.Test.YtpflahgcdgdkjaaGreatDoorPC
import Derived.Test.YtpflahgcdgdkjaaGreatDoorAL1
set_option linter.all false
set_option maxRecDepth 100000
namespace Go.Proofs.YtpflahgcdgdkjaaGreatDoor
open Nat renaming reduceEqDiff -> qQ, reduceLeDiff -> qZ, reduceAdd -> qJ, reduceMul -> qP
open List renaming getElem?_cons_succ -> qY, getElem?_cons_zero -> qU, replicate_zero -> qH, append_nil -> xJ
open Go.AL.AV.closed renaming closedL -> qW
open Int renaming reduceLT -> qM, one_mul -> xY, reduceAdd -> xD, reduceLE -> xM, sign_eq_one_of_pos -> xN
open Bool renaming and_self -> qC
open Go Go.AL Go.Proofs Go.Limb
theorem zea{x:Int}(h:x.natAbs<18446744073709551616):x.natAbs<BIG:=zgi (by omega)
theorem zue:∃v,zag 1 v/\Rt 35 [.int .i64 1] [] v []:=zrf 1 (by decide) (by decide)
set_option maxHeartbeats 1000000 in
theorem zwx{n d m e:Int}{a1 a2 b1 b2 x1 x2 y1 y2:AV}{k:Option Nat}(h1:zbb n d (.agg [a1,a2,b1,b2]))(h2:zbb m e (.agg [x1,x2,y1,y2]))(lo1:Low n d)(lo2:Low m e)(f1:(n*m).natAbs<18446744073709551616)(f2:(d*e).natAbs<18446744073709551616):
  ∃r,zbb (numR (n*m) (d*e)) (denR (n*m) (d*e)) r/\Rt 148 [.vec [a1,a2,b1,b2,x1,x2,y1,y2] 2 k] [] r []:=by
 obtain⟨w1,j1,t1⟩:=zdd h1 lo1;obtain⟨w2,j2,t2⟩:=zdd h2 lo2;obtain⟨o,io,t0⟩:=zue;obtain⟨l1,c1,l2,c2,rfl,p1,p2⟩:=j1.shape;obtain⟨l3,c3,l4,c4,rfl,p3,p4⟩:=j2.shape;obtain⟨u1,q1,m1⟩:=iMul io p1 (by rw[xY];exact zea lo1.n64);obtain⟨u2,q2,m2⟩:=iMul io p2 (by rw[xY];exact zea lo1.d64);rw[xY]at q1 q2;obtain⟨u3,q3,m3⟩:=iMul q1 p3 (zea f1);obtain⟨u4,q4,m4⟩:=iMul q2 p4 (zea f2);obtain⟨r,ir,t3⟩:=zkv q3 q4 (Int.mul_pos lo1.pos lo2.pos) f1 f2;obtain⟨_,_,_,_,e0,_,_⟩:=h1.shape;obtain⟨_,_,_,_,e1,_,_⟩:=h2.shape;simp only[AV.agg.injEq,List.cons.injEq,and_true]at e0 e1;obtain⟨rfl,rfl,rfl,rfl⟩:=e0;obtain⟨rfl,rfl,rfl,rfl⟩:=e1;obtain⟨_,_,rfl⟩:=io.shape;obtain⟨_,_,rfl⟩:=q1.shape;obtain⟨_,_,rfl⟩:=q2.shape;obtain⟨_,_,rfl⟩:=q3.shape;obtain⟨_,_,rfl⟩:=q4.shape;obtain⟨_,_,_,_,rfl,_,_⟩:=ir.shape;refine⟨_,ir,?_⟩;refine oF o148 ?_;simp only[c148,r148_0,SS,reduceCtorEq];simp only[r148_1,SS];refine zaa t0 ?_;simp only[SS,decide_false,qM];refine zaa t0 ?_;simp only[SS,reduceIte,qJ,qQ,qZ,decide_false,qM];simp only[r148_2,SS,reduceCtorEq,reduceIte,qQ,n2];refine W_un zoq 3 (zlu ?_);simp only[l148_0,r148_3,r148_4,SS,fC,reduceCtorEq,reduceIte,qJ,qQ,qZ,decide_true,qM,qP,n2,tn0,le0];simp only[r148_5,SS,reduceIte,qJ,qQ,qZ];refine zaa t1 ?_;simp only[SS,reduceIte,qJ,qQ,qZ];simp only[r148_6,SS,reduceIte,qJ,qQ,qZ];refine zaa m1 ?_;simp only[SS,reduceIte,qJ,qQ,qZ];refine zaa m2 ?_;simp only[SS,reduceIte,qJ,qQ,qZ];simp only[r148_7,SS,reduceIte,qQ,xD,wi1];refine⟨rfl,zlu ?_⟩;simp only[SS,fC,reduceCtorEq,reduceIte,qJ,qQ,qZ,decide_true,xM,qP,n2,tn1,lt12];refine zaa t2 ?_;simp only[SS,reduceIte,qJ,qQ,qZ];refine zaa m3 ?_;simp only[SS,reduceIte,qJ,qQ,qZ];refine zaa m4 ?_;simp only[SS,reduceIte,qJ,qQ,qZ,xD,wi2];refine⟨rfl,zlu ?_⟩;simp only[SS,fC,reduceCtorEq,reduceIte,qJ,qQ,qZ,decide_false,qM,xM,n2];simp only[r148_8,SS,reduceIte,qJ,qQ,qZ];refine zaa t3 ?_;simp only[SS,reduceIte,qJ,qQ,qZ];exact dR
theorem zpt{f:FuncId}{id:Nat}{a1 a3 a5 a7:Bool}{l1 l2 l3 l4:List Nat}{n1 n2 n3 n4:Nat}{c1 c2 c3 c4:Option Nat}{v:AV}{H:Heap}{K:AV->Eff->List Nat->Nat->Prop}
  (h:Rt f [.vec [.bool a1,.vec (u32s l1) n1 c1,.bool a3,.vec (u32s l2) n2 c2,.bool a5,.vec (u32s l3) n3 c3,.bool a7,.vec (u32s l4) n4 c4] 2 (some 2)] [] v [])
  (hid:H[id]?=some (some [.bool a1,.vec (u32s l1) n1 c1,.bool a3,.vec (u32s l2) n2 c2,.bool a5,.vec (u32s l3) n3 c3,.bool a7,.vec (u32s l4) n4 c4])) (hv:v.closed=true) (hk:K v [(id,none)] [id] 0):zls Tryz.prog G f [.sl id 0 2 4 (some 2)] H K:=
 zgg (d:=4) (args0:=[.sl 0 0 2 4 (some 2)]) h hid rfl (by simp[AV.ren,zan]) hk rfl (by simp only[qW,AV.closed,qC]) hv
theorem zbb.closed{n d:Int}{v:AV}(h:zbb n d v):v.closed=true:=by
 obtain⟨l1,c1,l2,c2,rfl,_,_⟩:=h.shape;simp only[qW,AV.closed,qC]
theorem qzn{m e:Int}{b1 b2 x1 x2:AV}(h:zbb m e (.agg [b1,b2,x1,x2])):zbb e m (.agg [x1,x2,b1,b2]):=by
 obtain⟨_,_,_,_,e0,i1,i2⟩:=h.shape;simp only[AV.agg.injEq,List.cons.injEq,and_true]at e0;obtain⟨rfl,rfl,rfl,rfl⟩:=e0;exact zfx i2 i1
theorem Low.inv{m e:Int}(h:Low m e)(hm:0<m):Low e m:=⟨hm,h.d64,h.n64,by rw[Int.gcd_comm];exact h.cop⟩
theorem jfo{n d m e:Int}{a b:AV}(h1:zbb n d a)(h2:zbb m e b)(lo1:Low n d)(lo2:Low m e)(hm:0<m)(f1:(n*e).natAbs<18446744073709551616)(f2:(d*m).natAbs<18446744073709551616):
  ∃r,zbb (numR (n*e) (d*m)) (denR (n*e) (d*m)) r/\Rt 85 [a,b] [] (.tup [r,.bool true]) []:=by
 obtain⟨w,iw,t1⟩:=zdd h2 lo2;have t2:=qsf iw;rw[xN hm]at t2;obtain⟨l1,c1,l2,c2,rfl,_,_⟩:=h1.shape;obtain⟨l3,c3,l4,c4,rfl,_,_⟩:=h2.shape;obtain⟨l5,c5,l6,c6,rfl,_,_⟩:=iw.shape;obtain⟨r,ir,t3⟩:=zwx (k:=some 2) h1 (qzn iw) lo1 (lo2.inv hm) f1 f2;have hr:=ir.closed;obtain⟨l7,c7,l8,c8,rfl,_,_⟩:=ir.shape;refine⟨_,ir,?_⟩;refine oF o85 ?_;simp only[c85,r85_0,SS,reduceCtorEq,reduceIte,qJ,qQ];simp only[r85_1,SS,reduceIte,qJ,qQ,qZ];refine zaa t1 ?_;simp only[SS,reduceIte,qJ,qQ,qZ];simp only[r85_2,SS,reduceIte,qJ,qQ,qZ];refine zaa t2 ?_;simp only[SS,fC,reduceIte,qQ,decide_false,Int.reduceEq];simp only[r85_4,SS,reduceIte,qJ,qQ,qZ,qP];refine zpt t3 rfl hr ?_;simp only[zay,zad,qH,xJ,SS,reduceIte,qJ,qQ,qZ];exact dR
theorem qfz{n d m e:Int}{a b:AV}(h1:zbb n d a)(h2:zbb m e b)(lo1:Low n d)(lo2:Low m e)(hm:0<m)(f1:(n*e).natAbs<18446744073709551616)(f2:(d*m).natAbs<18446744073709551616):
  ∃r,zbb (numR (n*e) (d*m)) (denR (n*e) (d*m)) r/\Rt 38 [a,b] [] r []:=by
 obtain⟨r,ir,t1⟩:=jfo h1 h2 lo1 lo2 hm f1 f2;obtain⟨l1,c1,l2,c2,rfl,_,_⟩:=h1.shape;obtain⟨l3,c3,l4,c4,rfl,_,_⟩:=h2.shape;obtain⟨l7,c7,l8,c8,rfl,_,_⟩:=ir.shape;refine⟨_,ir,?_⟩;refine oF o38 ?_;simp only[c38,r38_0,SS,reduceCtorEq,reduceIte,qJ,qQ];simp only[r38_1,SS,reduceIte,qJ,qQ,qZ];refine zaa t1 ?_;simp only[SS,reduceIte,qJ,qQ,qZ,qU,qY];simp only[r38_2,SS,reduceIte,qJ,qQ,qZ];exact dR
theorem jfp{n d m e:Int}{a b:AV}(h1:zbb n d a)(h2:zbb m e b)(lo1:Low n d)(lo2:Low m e)(f1:(n*m).natAbs<18446744073709551616)(f2:(d*e).natAbs<18446744073709551616):
  ∃r,zbb (numR (n*m) (d*e)) (denR (n*m) (d*e)) r/\Rt 95 [a,b] [] r []:=by
 obtain⟨l1,c1,l2,c2,rfl,_,_⟩:=h1.shape;obtain⟨l3,c3,l4,c4,rfl,_,_⟩:=h2.shape;obtain⟨r,ir,t3⟩:=zwx (k:=some 2) h1 h2 lo1 lo2 f1 f2;have hr:=ir.closed;obtain⟨l7,c7,l8,c8,rfl,_,_⟩:=ir.shape;refine⟨_,ir,?_⟩;refine oF o95 ?_;simp only[c95,r95_0,SS,reduceCtorEq,reduceIte,qJ,qQ];simp only[r95_1,SS,reduceIte,qJ,qQ,qZ,qP];refine zpt t3 rfl hr ?_;simp only[zay,zad,qH,xJ,SS,reduceIte,qJ,qQ,qZ];exact dR
theorem jfq{n d:Int}{a:AV}(h:zbb n d a)(lo:Low n d):∃r,zbb (-n) d r/\Rt 160 [a] [] r []:=by
 obtain⟨w,iw,t1⟩:=zdd h lo;obtain⟨l1,c1,l2,c2,rfl,_,_⟩:=h.shape;obtain⟨l5,c5,l6,c6,rfl,p1,p2⟩:=iw.shape;obtain⟨v,iv,t2⟩:=iNeg p1;obtain⟨l7,c7,rfl⟩:=iv.shape;refine⟨_,zfx iv p2,?_⟩;refine oF o160 ?_;simp only[c160,r160_0,SS,reduceCtorEq];simp only[r160_1,SS,reduceIte,qJ,qQ,qZ];refine zaa t1 ?_;simp only[SS,reduceIte,qJ,qQ,qZ];simp only[r160_2,SS,reduceIte,qJ,qQ,qZ];refine zaa t2 ?_;simp only[SS,reduceIte,qJ,qQ,qZ];refine⟨rfl,?_⟩;exact dR
set_option maxHeartbeats 1000000 in
theorem jfr{n d m e:Int}{a1 a2 b1 b2 x1 x2 y1 y2:AV}{k:Option Nat}(h1:zbb n d (.agg [a1,a2,b1,b2]))(h2:zbb m e (.agg [x1,x2,y1,y2]))(lo1:Low n d)(lo2:Low m e)(f1:(n*e+m*d).natAbs<18446744073709551616)(f2:(d*e).natAbs<18446744073709551616)(g1:(n*e).natAbs<BIG)(g2:(m*d).natAbs<BIG):
  ∃r,zbb (numR (n*e+m*d) (d*e)) (denR (n*e+m*d) (d*e)) r/\Rt 159 [.vec [a1,a2,b1,b2,x1,x2,y1,y2] 2 k] [] r []:=by
 obtain⟨w1,j1,t1⟩:=zdd h1 lo1;obtain⟨w2,j2,t2⟩:=zdd h2 lo2;obtain⟨o,io,t0⟩:=zue;obtain⟨l1,c1,l2,c2,rfl,p1,p2⟩:=j1.shape;obtain⟨l3,c3,l4,c4,rfl,p3,p4⟩:=j2.shape;have i0:zag 0 (.agg [.bool false,.vec [] 0 (some 0)]):=⟨[],some 0,zbp.nil,by simp,rfl,rfl⟩
 obtain⟨u1,q1,m1⟩:=iMul i0 p2 (by rw[Int.zero_mul];exact zea (by decide));obtain⟨u2,q2,m2⟩:=iMul p1 io (by rw[Int.mul_one];exact zea lo1.n64);rw[Int.zero_mul]at q1;rw[Int.mul_one]at q2;obtain⟨u3,q3,m3⟩:=iAdd q1 q2 (by rw[Int.zero_add];exact zea lo1.n64);rw[Int.zero_add]at q3;obtain⟨u4,q4,m4⟩:=iMul io p2 (by rw[xY];exact zea lo1.d64);rw[xY]at q4;obtain⟨u5,q5,m5⟩:=iMul q3 p4 g1;obtain⟨u6,q6,m6⟩:=iMul p3 q4 g2;obtain⟨u7,q7,m7⟩:=iAdd q5 q6 (zea f1);obtain⟨u8,q8,m8⟩:=iMul q4 p4 (zea f2);obtain⟨r,ir,t3⟩:=zkv q7 q8 (Int.mul_pos lo1.pos lo2.pos) f1 f2;obtain⟨_,_,_,_,e0,_,_⟩:=h1.shape;obtain⟨_,_,_,_,e1,_,_⟩:=h2.shape;simp only[AV.agg.injEq,List.cons.injEq,and_true]at e0 e1;obtain⟨rfl,rfl,rfl,rfl⟩:=e0;obtain⟨rfl,rfl,rfl,rfl⟩:=e1;obtain⟨_,_,rfl⟩:=io.shape;obtain⟨_,_,rfl⟩:=q1.shape;obtain⟨_,_,rfl⟩:=q2.shape;obtain⟨_,_,rfl⟩:=q3.shape;obtain⟨_,_,rfl⟩:=q4.shape;obtain⟨_,_,rfl⟩:=q5.shape;obtain⟨_,_,rfl⟩:=q6.shape;obtain⟨_,_,rfl⟩:=q7.shape;obtain⟨_,_,rfl⟩:=q8.shape;obtain⟨_,_,_,_,rfl,_,_⟩:=ir.shape;refine⟨_,ir,?_⟩;refine oF o159 ?_;simp only[c159,r159_0,SS,reduceCtorEq];simp only[r159_1,SS];refine zaa t0 ?_;simp only[SS,reduceIte,qJ,qQ,qZ,decide_false,qM];simp only[r159_2,SS,reduceCtorEq,reduceIte,qQ,n2];refine W_un zoq 3 (zlu ?_);simp only[l159_0,r159_3,r159_4,SS,fC,reduceCtorEq,reduceIte,qJ,qQ,qZ,decide_true,qM,qP,n2,tn0,le0];simp only[r159_5,SS,reduceIte,qJ,qQ,qZ];refine zaa t1 ?_;simp only[SS,reduceIte,qJ,qQ,qZ];simp only[r159_6,SS,reduceIte,qJ,qQ,qZ];refine zaa m1 ?_;simp only[SS,reduceIte,qJ,qQ,qZ,decide_false,qM];refine zaa m2 ?_;simp only[SS,reduceIte,qQ];refine zaa m3 ?_;simp only[SS,reduceIte,qJ,qQ,qZ];refine⟨rfl,?_⟩;simp only[r159_7,SS,reduceIte,qJ,qQ,qZ];refine zaa m4 ?_;simp only[SS,reduceIte,qJ,qQ,qZ];simp only[r159_8,SS,reduceIte,qQ,xD,wi1];refine zlu ?_;simp only[SS,fC,reduceCtorEq,reduceIte,qJ,qQ,qZ,decide_true,xM,qP,n2,tn1,lt12];refine zaa t2 ?_;simp only[SS,reduceIte,qJ,qQ,qZ];refine zaa m5 ?_;simp only[SS,reduceIte,qJ,qQ,qZ];refine zaa m6 ?_;simp only[SS,reduceIte,qQ];refine zaa m7 ?_;simp only[SS,reduceIte,qJ,qQ,qZ];refine⟨rfl,?_⟩;refine zaa m8 ?_;simp only[SS,reduceIte,qJ,qQ,qZ,xD,wi2];refine zlu ?_;simp only[SS,fC,reduceCtorEq,reduceIte,qJ,qQ,qZ,decide_false,qM,xM,n2];simp only[r159_9,SS,reduceIte,qJ,qQ,qZ];refine zaa t3 ?_;simp only[SS,reduceIte,qJ,qQ,qZ];exact dR
theorem jfs{n d m e:Int}{a b:AV}(h1:zbb n d a)(h2:zbb m e b)(lo1:Low n d)(lo2:Low m e)(f1:(n*e+ -m*d).natAbs<18446744073709551616)(f2:(d*e).natAbs<18446744073709551616)(g1:(n*e).natAbs<BIG)(g2:(-m*d).natAbs<BIG):
  ∃r,zbb (numR (n*e+ -m*d) (d*e)) (denR (n*e+ -m*d) (d*e)) r/\Rt 94 [a,b] [] r []:=by
 obtain⟨w,iw,t1⟩:=jfq h2 lo2;have lo3:Low (-m) e:=⟨lo2.pos,by rw[Int.natAbs_neg];exact lo2.n64,lo2.d64,by rw[Int.neg_gcd];exact lo2.cop⟩
 obtain⟨l1,c1,l2,c2,rfl,_,_⟩:=h1.shape;obtain⟨l3,c3,l4,c4,rfl,_,_⟩:=h2.shape;obtain⟨l5,c5,l6,c6,rfl,_,_⟩:=iw.shape;obtain⟨r,ir,t3⟩:=jfr (k:=some 2) h1 iw lo1 lo3 f1 f2 g1 g2;have hr:=ir.closed;obtain⟨l7,c7,l8,c8,rfl,_,_⟩:=ir.shape;refine⟨_,ir,?_⟩;refine oF o94 ?_;simp only[c94,r94_0,SS,reduceCtorEq,reduceIte,qJ,qQ];simp only[r94_1,SS,reduceIte,qJ,qQ,qZ];refine zaa t1 ?_;simp only[SS,reduceIte,qJ,qQ,qZ,qP];refine zpt t3 rfl hr ?_;simp only[zay,zad,keys,qH,xJ,SS,reduceIte,qJ,qQ,qZ];refine⟨rfl,?_⟩;exact dR
end Go.Proofs.YtpflahgcdgdkjaaGreatDoor
namespace Go.Det
theorem Red.stg_b{n:Nat}{a:Nat->Row}(h:Red n a){k i j:Nat}(hi:i<n)(hj:j<n)(hki:k<=i)(hkj:k<=j):(stg a k i j).natAbs<=12884901888:=by
 have key:∀i j,i<n->j<=i->k<=j->(stg a k i j).natAbs<=12884901888:=by
  intro i j hi hj hk;obtain⟨s1,s2⟩:=h.stage hi hj (j-k) k (by omega);have h8:=h.n8;have p:=h.pos' k (by omega);have b:=h.minor (k:=k) (by omega);have m:=Int.mul_le_mul (a:=lead a k) (c:=65536) (b:=(65536+16384*((j-k:Nat):Int))) (d:=196608) (by omega) (by omega) (by omega) (by decide);omega
 rcases Nat.le_total j i with h1 | h1
 ·exact key i j hi h1 hkj
 ·rw[zfn h.sym k (by omega) (h.ne (by omega)) i j hi hj hki hkj];exact key j i hj h1 hki
theorem Red.col_b{n:Nat}{a:Nat->Row}(h:Red n a){k i:Nat}(hi:i<n)(hk:k<i):(stg a k i k).natAbs<=65536/\(stg a k k i).natAbs<=65536:=by
 have b:=h.minor (k:=k+1) (by omega);obtain⟨s1,s2⟩:=h.sized i k hi hk;have e:stg a k k i=stg a k i k:=zfn h.sym k (by omega) (h.ne (by omega)) k i (by omega) hi (by omega) (by omega);rw[e];omega
theorem Red.piv_b{n:Nat}{a:Nat->Row}(h:Red n a){k:Nat}(hk:k<=n):0<lead a k/\lead a k<=65535:=⟨h.pos' k hk,h.minor hk⟩
theorem Red.new_b{n:Nat}{a:Nat->Row}(h:Red n a){k i j:Nat}(hi:i<n)(hj:j<n)(hki:k<i)(hkj:k<j):
  (lead a (k+1)*stg a k i j).natAbs<18446744073709551616/\(stg a k i k*stg a k k j).natAbs<18446744073709551616/\(lead a (k+1)*stg a k i j-stg a k i k*stg a k k j).natAbs<18446744073709551616/\
   lead a k∣(lead a (k+1)*stg a k i j-stg a k i k*stg a k k j)/\(lead a (k+1)*stg a k i j-stg a k i k*stg a k k j)/lead a k=stg a (k+1) i j:=by
 have b1:=h.stg_b hi hj (Nat.le_of_lt hki) (Nat.le_of_lt hkj);obtain⟨b2,b3⟩:=h.piv_b (k:=k+1) (by omega);have b4:=(h.col_b hi hki).1;have b5:=(h.col_b hj hkj).2;have m1:(lead a (k+1)*stg a k i j).natAbs<=65536*12884901888:=by rw[Int.natAbs_mul];exact Nat.mul_le_mul (by omega) b1
 have m2:(stg a k i k*stg a k k j).natAbs<=65536*65536:=by rw[Int.natAbs_mul];exact Nat.mul_le_mul b4 b5
 have r:=zbz (h.ne (k:=k) (by omega)) i j;have p:=h.pos' k (by omega);refine⟨by omega,by omega,by omega,⟨_,r.symm⟩,?_⟩;rw[<-r,Int.mul_ediv_cancel_left _ (by omega)]
end Go.Det
namespace Go.Proofs.YtpflahgcdgdkjaaGreatDoor
open Nat renaming reduceEqDiff -> qQ, reduceLeDiff -> qZ, reduceAdd -> qJ, le_refl -> qE
open List renaming getD_eq_getElem?_getD -> qX, getElem?_eq_getElem -> qK, getElem?_cons_succ -> qY, getElem?_cons_zero -> qU, take_of_length_le -> qA, getElem?_map -> qL, getElem_mem -> xX, length_map -> xK, getElem_range -> xW, getElem_map -> xE, length_set -> xR, nodup_cons -> xS, getElem?_eq_none -> yX, mem_cons -> yA
open Go.AL.AV.closed renaming closedL -> qW
open Int renaming toNat_natCast -> qV, sign_eq_one_of_pos -> xN
open Bool renaming and_self -> qC
open Go Go.AL Go.Proofs Go.Limb Go.Det
theorem jft{P:Program}{Γ:Glob}{n0:Nat}{E:Env}{H:Heap}{d:Option Nat}{os:List COp}{Q:List FP->Env->Heap->Prop}{x y:Opd}{sz id off n:Nat}{c c':Option Nat}{xs cs:List AV}
  (hx:val E x= .sl id off n sz c) (hy:val E y= .vec xs n c') (hg:getB H id=some cs) (hl:xs.length=n*sz) (hb:off+n*sz<=cs.length) (hs:AV.scalL xs=true)
  (hk:regA P Γ n0 os (updO E d (.int .i64 n)) (H.set id (some (setL cs off xs))) λl=>Q (([id],[id])::l)):regA P Γ n0 (⟨d,none,.copy sz x y⟩::os) E H Q:=by
 rw[qpp rfl rfl];have e:xs.take (n*sz)=xs:=qA (by omega);simp only[evK,hx,hy,hg,lenA,zdr,need,Option.bind_some,Nat.min_self,hl,qE,and_self,if_true,e,hb,hs,zaq,zad,keys,List.map_cons,List.map_nil];exact hk
theorem qsg{xs cs:List AV}(h:xs.length=cs.length):setL cs 0 xs=xs:=by
 refine List.ext_getElem? λt=>?_
 rw[qbg xs cs 0 t (by omega)];by_cases ht:t<xs.length
 ·rw[if_pos ⟨by omega,by omega⟩,Nat.sub_zero]
 ·rw[if_neg (by omega),yX (by omega),yX (by omega)]
theorem BR.copy{N n i:Nat}{M:List (List Int)}{x:List AV}{H:Heap}(h:BR N n i 0 M x H){cs:List AV}(hr:RowC (M.getD i []) cs):BP N n (i+1) M x (H.set (i+2) (some cs)):=by
 have hl:=h.len;refine⟨by rw[xR];exact hl,by rw[zah (by omega)];exact h.h0,by rw[zah (by omega)];exact h.h1,λk hk=>?_⟩;by_cases e:k=i
 ·subst e;exact⟨cs,zbd (by omega),hr⟩
 ·obtain⟨cs',g,r⟩:=h.rows k (by omega);exact⟨cs',by rw[zah (by omega)];exact g,r⟩
def EntI(a:Nat->Row)(n k i j:Nat)(M:List (List Int)):Prop:= ∀r c,k<=r->r<n->k<=c->c<n->ent M r c=if k<r/\k<c/\(r<i\/r=i/\c<j)then stg a (k+1) r c else stg a k r c
section
variable{a:Nat->Row}{n k i j:Nat}{M:List (List Int)}
theorem EntI.set(h:EntI a n k i j M)(hS:Shp n M)(hi:i<n)(hj:j<n)(hki:k<i)(hkj:k<j):EntI a n k i (j+1) (setM M i j (stg a (k+1) i j)):=by
 intro r c h1 h2 h3 h4;rw[hS.ent_set hi hj];by_cases e:r=i/\c=j
 ·obtain⟨rfl,rfl⟩:=e;rw[if_pos ⟨rfl,rfl⟩,if_pos ⟨hki,hkj,.inr ⟨rfl,by omega⟩⟩]
 ·rw[if_neg e,h r c h1 h2 h3 h4];by_cases q:k<r/\k<c/\(r<i\/r=i/\c<j)
  ·rw[if_pos q,if_pos (by omega)]
  ·rw[if_neg q,if_neg (by omega)]
theorem EntI.next(h:EntI a n k i n M):EntI a n k (i+1) (k+1) M:=by
 intro r c h1 h2 h3 h4;rw[h r c h1 h2 h3 h4];by_cases q:k<r/\k<c/\(r<i\/r=i/\c<n)
 ·rw[if_pos q,if_pos (by omega)]
 ·rw[if_neg q,if_neg (by omega)]
theorem EntI.done(h:EntI a n k n j M):EntI a n (k+1) (k+2) (k+2) M:=by
 intro r c h1 h2 h3 h4;rw[h r c (by omega) h2 (by omega) h4,if_pos (by omega),if_neg (by omega)]
theorem qga(M:List (List Int))(n:Nat):EntI (rowF M) n 0 1 1 M:=by
 intro r c h1 h2 h3 h4;rw[if_neg (by omega),zdk];rfl
theorem EntI.piv(h:EntI a n k i j M)(hk:k<n):ent M k k=lead a (k+1):=by
 rw[h k k (qE _) hk (qE _) hk,if_neg (by omega),zba]
theorem EntI.cell(h:EntI a n k i j M)(hi:i<n)(hj:j<n)(hki:k<i)(hkj:k<j):ent M i j=stg a k i j/\ent M i k=stg a k i k/\ent M k j=stg a k k j:=by
 refine⟨?_,?_,?_⟩
 ·rw[h i j (by omega) hi (by omega) hj,if_neg (by omega)]
 ·rw[h i k (by omega) hi (qE _) (by omega),if_neg (by omega)]
 ·rw[h k j (qE _) (by omega) (by omega) hj,if_neg (by omega)]
end
structure PS(n:Nat)(M:List (List Int))(last:Int)(k:Nat)(E:Env)(H:Heap)(ps:List (Nat×Option Nat))(b:Nat):Prop where
 mat:MatH H 1 ps n M
 shp:Shp n M
 e2:E 2= .ptr 0 0
 e3:E 3= .int .i64 (n:Nat)
 e4:E 4= .sl 1 0 n 1 (some n)
 e7:E 7= .bool false
 e8:E 8= .ptr b 0
 e39:E 39= .int .i64 (n:Nat)
 e40:E 40= .int .i64 (k:Nat)
 last:∃u v,getB H b=some [u,v]/\zag last (.agg [u,v])
 res:∃u v,getB H 0=some [u,v]
 nodup:(0::b::1::ps.map (·.1)).Nodup
theorem PS.app{n k b:Nat}{M:List (List Int)}{last:Int}{E:Env}{H X:Heap}{ps:List (Nat×Option Nat)}(h:PS n M last k E H ps b):PS n M last k E (H++X) ps b:=by
 obtain⟨u,v,g,hl⟩:=h.last;obtain⟨u',v',g'⟩:=h.res;exact⟨zzr h.mat,h.shp,h.e2,h.e3,h.e4,h.e7,h.e8,h.e39,h.e40,⟨u,v,by rw[zca (zal g)];exact g,hl⟩,⟨u',v',by rw[zca (zal g')];exact g'⟩,h.nodup⟩
def qzo(q b:Nat)(ps:List (Nat×Option Nat)):Prop:=q≠0/\q≠b/\q≠1/\q∉ps.map (·.1)
theorem PS.apart{n k b:Nat}{M:List (List Int)}{last:Int}{E:Env}{H:Heap}{ps:List (Nat×Option Nat)}(h:PS n M last k E H ps b):qzo H.length b ps:=by
 obtain⟨u,v,g,hl⟩:=h.last;obtain⟨u',v',g'⟩:=h.res;have h1:=zal g;have h2:=zal g';have h3:=zal h.mat.outer;refine⟨by omega,by omega,by omega,λhm=>?_⟩;obtain⟨p,hp,e⟩:=List.mem_map.1 hm;obtain⟨i,hi,e2⟩:=List.mem_iff_getElem.1 hp;obtain⟨cs,g3,_⟩:=h.mat.rows i (by rw[<-h.mat.len];exact hi);have:=zal g3;rw[qX,qK hi,e2]at this;have e:p.1=H.length:=e;have this:p.1<H.length:=this;omega
section
variable{a:Nat->Row}{n k b q:Nat}{ps:List (Nat×Option Nat)}{pu pv:AV}
theorem jfu(hR:Red n a)(hk:k<n){i:Nat}(hi:k<i/\i<n)(hq:qzo q b ps)(hp:zag (lead a (k+1)) (.agg [pu,pv])){Q:Post}:∀{E:Env} {H:Heap} {M:List (List Int)},
  PS n M (lead a k) k E H ps b->EntI a n k i (k+1) M->E 9= .int .i64 (k:Nat)->E 11= .ptr q 0->E 12= .int .i64 (i:Nat)->E 13= .int .i64 ((k+1:Nat):Int)->getB H q=some [pu,pv]->
  (∀E' H' M',PS n M' (lead a k) k E' H' ps b->EntI a n k i n M'->E' 9= .int .i64 (k:Nat)->E' 11= .ptr q 0->E' 12= .int .i64 (i:Nat)->getB H' q=some [pu,pv]->Q (.exit 8) E' H')->
  Wg 0 149 (.loop l157_4) E H Q:=by
 intro E H M hD hE h9 h11 h12 h13 hgq hQ;have h8:=hR.n8
 refine zaf (λm E H=>∃j M,j+m=n/\k<j/\PS n M (lead a k) k E H ps b/\EntI a n k i j M/\E 9= .int .i64 (k:Nat)/\E 11= .ptr q 0/\E 12= .int .i64 (i:Nat)/\E 13= .int .i64 (j:Nat)/\getB H q=some [pu,pv]) (n:=n-(k+1))
  ⟨k+1,M,by omega,by omega,hD,hE,h9,h11,h12,h13,hgq⟩ ?_
 clear hD hE h9 h11 h12 h13 hgq M E H;rintro m E H ⟨j,M,hjm,hkj,hD,hE,h9,h11,h12,h13,hgq⟩;refine wM ?_;obtain⟨hM,hS,e2,e3,e4,e7,e8,e39,e40,⟨lu,lv,hlast,hl⟩,⟨ru,rv,hres⟩,hnd⟩:=id hD;simp only[l157_4,r157_26,SS,reduceIte,qQ,e3,h13];refine⟨λhlt=>?_,λhge=>?_⟩
 ·obtain⟨m,rfl⟩:∃m',m=m'+1:=⟨m-1,by omega⟩
  have hj:j<n:=by omega
  have hsl:=hS.len;obtain⟨b1,b2,b3,b4,b5⟩:=hR.new_b hi.2 hj hi.1 hkj;obtain⟨c1,c2,c3⟩:=hE.cell hi.2 hj hi.1 hkj;obtain⟨q1,q2⟩:=hR.piv_b (k:=k) (by omega);obtain⟨csi,gi,li,ri,fi⟩:=zdw hM (i:=i) (by omega);obtain⟨csk,gk,lk,rk,fk⟩:=zdw hM (i:=k) (by omega);obtain⟨u2,v2,x2,y2⟩:=fi j hj;obtain⟨u3,v3,x3,y3⟩:=fi k hk;obtain⟨u4,v4,x4,y4⟩:=fk j hj;rw[c1]at y2;rw[c2]at y3;rw[c3]at y4;obtain⟨p,ip,t1⟩:=iMul hp y2 (zea b1);obtain⟨s,is,t2⟩:=iMul y3 y4 (zea b2);obtain⟨d,id',t3⟩:=iSub ip is (zea b3);obtain⟨w,w',iw,iw',t4⟩:=ztt id' hl b3 (by omega) (by omega) (.inr b4);rw[b5]at iw;have oi:=zbv (ps:=ps) (n:=n) (i:=i) (by rw[hM.len];omega);have ok:=zbv (ps:=ps) (n:=n) (i:=k) (by rw[hM.len];omega);have hol:(ps.map (zck n)).length=n:=by rw[xK,hM.len];exact hsl
  have hou:=hM.outer;have hpc:=ip.closed;have hsc:=is.closed;have hdc:=id'.closed;have w5:=wS1 j (by omega);obtain⟨ld,cd,rfl⟩:=id'.shape;obtain⟨lw,cw,rfl⟩:=iw.shape;obtain⟨lw',cw',rfl⟩:=iw'.shape;have k1:qW [.agg [pu,pv],.agg [u2,v2]]=true:=by simp only[qW,hp.closed,y2.closed,qC]
  have k2:qW [.agg [u3,v3],.agg [u4,v4]]=true:=by simp only[qW,y3.closed,y4.closed,qC]
  have k3:qW [p,s]=true:=by simp only[qW,hpc,hsc,qC]
  have k4:qW [.agg [.bool (decide (lead a (k+1)*stg a k i j-stg a k i k*stg a k k j<0)),.vec (u32s ld) ld.length cd],.agg [lu,lv]]=true:=by simp only[qW,hdc,hl.closed,qC]
  simp only[r157_27,SS,fC,reduceIte,qJ,qQ,qZ,e4,h11,h12,h13,qV,hou,hol,oi,gi,hgq,li,x2];refine⟨⟨by omega,by omega⟩,by omega,⟨by omega,by omega⟩,by omega,?_⟩;refine zaa t1 ?_ k1 hpc;simp only[SS,fC,reduceIte,qQ,e4,h9,h12,h13,qV,hou,hol,oi,ok,gi,gk,li,lk,x3,x4];refine⟨⟨by omega,by omega⟩,by omega,⟨by omega,by omega⟩,by omega,⟨by omega,by omega⟩,by omega,⟨by omega,by omega⟩,by omega,?_⟩;refine zaa t2 ?_ k2 hsc;simp only[SS,reduceIte,qQ];refine zaa t3 ?_ k3 hdc;simp only[SS,reduceIte,qJ,qQ,qZ,zbr,ziw];have hD2:=hD.app (X:=[some [AV.bool (decide (lead a (k+1)*stg a k i j-stg a k i k*stg a k k j<0)),AV.vec (u32s ld) ld.length cd]]);have g14:getB (H++[some [AV.bool (decide (lead a (k+1)*stg a k i j-stg a k i k*stg a k k j<0)),AV.vec (u32s ld) ld.length cd]]) H.length=some [AV.bool (decide (lead a (k+1)*stg a k i j-stg a k i k*stg a k k j<0)),AV.vec (u32s ld) ld.length cd]:=zbr;have hap:=hD.apart;have hLq:q≠H.length:=by have:=zal hgq;omega
  have hL1:1≠H.length:=λe=>hap.2.2.1 e.symm
  have hLi:pid ps i≠H.length:=λe=>hap.2.2.2 (e ▸ zfm (by rw[hM.len];omega))
  have hLk:pid ps k≠H.length:=λe=>hap.2.2.2 (e ▸ zfm (by rw[hM.len];omega))
  have gq2:=hgq;rw[<-zca (X:=[some [AV.bool (decide (lead a (k+1)*stg a k i j-stg a k i k*stg a k k j<0)),AV.vec (u32s ld) ld.length cd]]) (zal hgq)]at gq2;have gi2:=gi;rw[<-zca (X:=[some [AV.bool (decide (lead a (k+1)*stg a k i j-stg a k i k*stg a k k j<0)),AV.vec (u32s ld) ld.length cd]]) (zal gi)]at gi2;have gb2:=hlast;rw[<-zca (X:=[some [AV.bool (decide (lead a (k+1)*stg a k i j-stg a k i k*stg a k k j<0)),AV.vec (u32s ld) ld.length cd]]) (zal hlast)]at gb2;generalize H++[some [AV.bool (decide (lead a (k+1)*stg a k i j-stg a k i k*stg a k k j<0)),AV.vec (u32s ld) ld.length cd]]=H2 at*;obtain⟨hM2,_,_,_,_,_,_,_,_,⟨_,_,_,_⟩,⟨ru2,rv2,hres2⟩,_⟩:=id hD2;have hou2:=hM2.outer;simp only[r157_28,SS,fC,reduceIte,qJ,qQ,qZ,e4,e8,h12,h13,qV,hou2,hol,oi,gb2,g14];refine⟨by simp[dynB,zvn,hLq.symm,hL1.symm,hLi.symm,hLk.symm],⟨by omega,by omega⟩,by omega,?_⟩;refine zaa t4 ?_ k4;simp only[SS,reduceIte,qJ,qQ,qU,qY,qV,gi2,li];refine⟨⟨by omega,by omega⟩,by omega,rfl,?_⟩;have hs2:((csi.set (j*2) (AV.bool (decide (stg a (k+1) i j<0)))).set (j*2+1) (AV.vec (u32s lw) lw.length cw))=setL csi (j*2) [AV.bool (decide (stg a (k+1) i j<0)),AV.vec (u32s lw) lw.length cw]:=rfl;rw[hs2];simp only[r157_29,SS,reduceIte,qQ,h13,w5];have hnd2:=hnd;simp only[xS,yA,not_or]at hnd2;have hpi:pid ps i∈ps.map (·.1):=zfm (by rw[hM.len];omega);have hpi0:pid ps i≠0:=λe=>hnd2.1.2.2 (e ▸ hpi)
  have hpib:pid ps i≠b:=λe=>hnd2.2.1.2 (e ▸ hpi)
  have hpiq:pid ps i≠q:=λe=>hq.2.2.2 (e ▸ hpi)
  refine⟨m,_,_,by omega,⟨j+1,setM M i j (stg a (k+1) i j),by omega,by omega,⟨zhz hM2 (by omega) hj iw gi2,hS.set hi.2,?_,?_,?_,?_,?_,?_,?_,⟨lu,lv,?_,hl⟩,⟨ru2,rv2,?_⟩,hnd⟩,hE.set hS hi.2 hj hi.1 hkj,?_,?_,?_,?_,?_⟩,.refl⟩
  ·simp only[UU,qQ,e2]
  ·simp only[UU,qQ,e3]
  ·simp only[UU,qQ,e4]
  ·simp only[UU,qQ,e7]
  ·simp only[UU,qQ,e8]
  ·simp only[UU,qQ,e39]
  ·simp only[UU,qQ,e40]
  ·rw[zah hpib];exact gb2
  ·rw[zah hpi0];exact hres2
  ·simp only[UU,qQ,h9]
  ·simp only[UU,qQ,h11]
  ·simp only[UU,qQ,h12]
  ·simp only[UU,qQ,reduceIte]
  ·rw[zah hpiq];exact gq2
 ·obtain rfl:j=n:=by omega
  refine hQ _ _ M ⟨hM,hS,?_,?_,?_,?_,?_,?_,?_,⟨lu,lv,hlast,hl⟩,⟨ru,rv,hres⟩,hnd⟩ hE ?_ ?_ ?_ hgq<;>simp only[UU,qQ, *]
end
theorem PS.frame{n k b:Nat}{M:List (List Int)}{last:Int}{E E':Env}{H:Heap}{ps:List (Nat×Option Nat)}(h:PS n M last k E H ps b)(hE:E' 2=E 2/\E' 3=E 3/\E' 4=E 4/\E' 7=E 7/\E' 8=E 8/\E' 39=E 39/\E' 40=E 40):PS n M last k E' H ps b:=
 ⟨h.mat,h.shp,hE.1.trans h.e2,hE.2.1.trans h.e3,hE.2.2.1.trans h.e4,hE.2.2.2.1.trans h.e7,hE.2.2.2.2.1.trans h.e8,hE.2.2.2.2.2.1.trans h.e39,hE.2.2.2.2.2.2.trans h.e40,h.last,h.res,h.nodup⟩
section
variable{a:Nat->Row}{n k b q:Nat}{ps:List (Nat×Option Nat)}{pu pv:AV}
theorem jfv(hR:Red n a)(hk:k<n)(hq:qzo q b ps)(hp:zag (lead a (k+1)) (.agg [pu,pv])){Q:Post}:∀{E:Env} {H:Heap} {M:List (List Int)},
  PS n M (lead a k) k E H ps b->EntI a n k (k+1) (k+1) M->E 9= .int .i64 (k:Nat)->E 11= .ptr q 0->E 12= .int .i64 ((k+1:Nat):Int)->getB H q=some [pu,pv]->
  (∀E' H' M',PS n M' (lead a k) k E' H' ps b->EntI a n k n (k+1) M'->E' 11= .ptr q 0->getB H' q=some [pu,pv]->Q (.exit 6) E' H')->
  Wg 0 149 (.loop l157_3) E H Q:=by
 intro E H M hD hE h9 h11 h12 hgq hQ;have h8:=hR.n8
 refine zaf (λm E H=>∃i M,i+m=n/\k<i/\PS n M (lead a k) k E H ps b/\EntI a n k i (k+1) M/\E 9= .int .i64 (k:Nat)/\E 11= .ptr q 0/\E 12= .int .i64 (i:Nat)/\getB H q=some [pu,pv]) (n:=n-(k+1))
  ⟨k+1,M,by omega,by omega,hD,hE,h9,h11,h12,hgq⟩ ?_
 clear hD hE h9 h11 h12 hgq M E H;rintro m E H ⟨i,M,him,hki,hD,hE,h9,h11,h12,hgq⟩;refine wM ?_;have e3:=hD.e3;simp only[l157_3,r157_24,SS,reduceIte,qQ,e3,h12];refine⟨λhlt=>?_,λhge=>?_⟩
 ·obtain⟨m,rfl⟩:∃m',m=m'+1:=⟨m-1,by omega⟩
  have w5:=wS1 i (by omega);have w6:=wS1 k (by omega);simp only[r157_25,SS,reduceIte,qQ,h9,w6];refine jfu hR hk ⟨hki,by omega⟩ hq hp (hD.frame (by simp only[UU,qQ,and_self])) hE ?_ ?_ ?_ ?_ hgq (λE1 H1 M1 hD1 hE1 f9 f11 f12 hg1=>?rest)
  case rest=>
   simp only[r157_30,SS,reduceIte,qQ,f12,w5];refine⟨m,_,_,by omega,⟨i+1,M1,by omega,by omega,hD1.frame (by simp only[UU,qQ,and_self]),hE1.next,?_,?_,?_,hg1⟩,.refl⟩<;>simp only[UU,qQ,reduceIte, *]
  all_goals simp only[UU,qQ,reduceIte, *]
 ·obtain rfl:i=n:=by omega
  refine hQ _ _ M (hD.frame (by simp only[UU,qQ,and_self])) hE ?_ hgq;simp only[UU,qQ,h11]
theorem jfw(hR:Red n a)(hk:k<n){Q:Post}{E:Env}{H:Heap}{M:List (List Int)}{last:Int}(hD:PS n M last k E H ps b)(hE:EntI a n k (k+1) (k+1) M)(h9:E 9= .int .i64 (k:Nat))(h10:E 10= .int .i64 (k:Nat))
  (hQ:∀E',PS n M last k E' H ps b->E' 9= .int .i64 (k:Nat)->E' 10= .int .i64 (k:Nat)->Q (.exit 4) E' H):Wg 0 149 (.loop l157_2) E H Q:=by
 refine zaf (λm E H'=>H'=H/\PS n M last k E H ps b/\E 9= .int .i64 (k:Nat)/\E 10= .int .i64 (k:Nat)) (n:=0) ⟨rfl,hD,h9,h10⟩ ?_;clear hD h9 h10 E;rintro m E H' ⟨rfl,hD,h9,h10⟩;refine wM ?_;obtain⟨hM,hS,e2,e3,e4,e7,e8,e39,e40,hlast,hres,hnd⟩:=id hD;have hsl:=hS.len;have d1:decide ((k:Int)<(n:Nat))=true:=dT;obtain⟨csp,gp,lp,rp,fp⟩:=zdw hM (i:=k) (by omega);obtain⟨u,v,x,y⟩:=fp k hk;rw[hE.piv hk]at y;have op:=zbv (ps:=ps) (n:=n) (i:=k) (by rw[hM.len];omega);have hol:(ps.map (zck n)).length=n:=by rw[xK,hM.len];exact hsl
 have hou:=hM.outer;have t:=zwd y;have hps:=hR.pos k hk;rw[xN hps]at t;have c1:qW [.agg [u,v]]=true:=by simp only[qW,y.closed,qC]
 simp only[l157_2,r157_15,SS,fC,reduceIte,qQ,e3,e4,h9,h10,d1,qV,hou,hol,op,gp,lp,x];refine⟨⟨by omega,by omega⟩,by omega,⟨by omega,by omega⟩,by omega,?_⟩;refine zaa t ?_ c1;simp only[SS,fC,reduceIte,qQ,show decide ((1:Int)=0)=false from rfl];refine hQ _ (hD.frame (by simp only[UU,qQ,and_self])) ?_ ?_<;>simp only[UU,qQ, *]
end
theorem qlv{n b:Nat}(hb:n+2<=b):(0::b::1::(ps2 n n).map (·.1)).Nodup:=by
 have e:(ps2 n n).map (·.1)=(List.range n).map (· + 2):=by simp[ps2]
 have hm:∀x,x∈(List.range n).map (· + 2)->2<=x/\x<n+2:=λx hx=>by
  obtain⟨k,hk,rfl⟩:=List.mem_map.1 hx;have:=List.mem_range.1 hk;omega
 rw[e];simp only[xS,yA,not_or];refine⟨⟨by omega,by omega,λh=>?_⟩,⟨by omega,λh=>?_⟩,λh=>?_,?_⟩
 ·have:=hm _ h;omega
 ·have:=hm _ h;omega
 ·have:=hm _ h;omega
 ·refine List.pairwise_iff_getElem.2 (λi j hi hj hij=>?_);rw[xE,xE,xW,xW];omega
theorem jfx{n:Nat}{M:List (List Int)}{x:List AV}(hn:n<=16)(hS:Shp n M)(hrow:∀i,i<n->(M.map rowV).getD i .junk= .vec (zfv (M.getD i [])) n none/\RowC (M.getD i []) (zfv (M.getD i []))){Q:Post}{E:Env}{H:Heap}
  (hB:BP n n 0 M x H) (e2:E 2= .ptr 0 0) (e3:E 3= .int .i64 (n:Nat)) (e4:E 4= .sl 1 0 n 1 (some n)) (e19:E 19= .vec (M.map rowV) n none) (e20:E 20= .int .i64 (n:Nat)) (e21:E 21= .int .i64 0)
  (hQ:∀E' H',BP n n n M x H'->E' 2= .ptr 0 0->E' 3= .int .i64 (n:Nat)->E' 4= .sl 1 0 n 1 (some n)->Q (.exit 0) E' H'):Wg 0 149 (.loop l157_0) E H Q:=by
 have hsl:=hS.len
 refine zaf (λk E H=>∃i,i+k=n/\BP n n i M x H/\E 2= .ptr 0 0/\E 3= .int .i64 (n:Nat)/\E 4= .sl 1 0 n 1 (some n)/\E 19= .vec (M.map rowV) n none/\E 20= .int .i64 (n:Nat)/\E 21= .int .i64 (i:Nat)) (n:=n)
  ⟨0,by omega,hB,e2,e3,e4,e19,e20,e21⟩ ?_
 clear hB e2 e3 e4 e19 e20 e21 E H;rintro k E H ⟨i,hik,hB,e2,e3,e4,e19,e20,e21⟩;refine wM ?_;simp only[l157_0,r157_4,SS,reduceIte,e20,e21];refine⟨λhlt=>?_,λhge=>?_⟩
 ·obtain⟨k,rfl⟩:∃k',k=k'+1:=⟨k-1,by omega⟩
  have hi:i<n:=by omega
  obtain⟨hrv,hrc⟩:=hrow i hi;have hol:=znj (n:=n) (show i<=n by omega);have hol2:=znj (n:=n) (show i+1<=n by omega);have hog:=qcb (N:=n) (n:=n) (show i<i+1 by omega);have hl:=hB.len;have hR:=hB.row hi;have g1:getB (H++[some (zeh n [AV.bool false,AV.vec [] 0 (some 0)])]) 1=some (out2 n n i):=by rw[zca (by omega)];exact hB.h1
  have w5:=wS1 i (by omega);have hml:(M.map rowV).length=n:=by rw[xK,hsl]
  simp only[r157_5,SS,fC,reduceIte,qQ,e19,e21,qV,hrv,hml];refine⟨⟨by omega,by omega⟩,by omega,?_⟩;simp only[r157_6,SS,reduceIte,qJ,qQ,e3,e4,qV,g1,hol];refine⟨by omega,⟨by omega,by omega,by omega,by omega⟩,⟨by omega,by omega⟩,by omega,?_⟩;have q1:=hR.h1;obtain⟨cs,gc,rc⟩:=hR.row;have hcp:=hR.copy hrc;have hcl:=zcp rc;rw[zkp]at hcl;have hcl2:=zcp hrc;rw[hS.row i hi]at hcl2;have hse:=qsg (xs:=zfv (M.getD i [])) (cs:=cs) (by omega);change getB ((H++[some (zeh n [AV.bool false,AV.vec [] 0 (some 0)])]).set 1 (some ((out2 n n i).set i (.sl H.length 0 n 2 (some n))))) 1=_ at q1;change BP n n (i+1) M x (((H++[some (zeh n [AV.bool false,AV.vec [] 0 (some 0)])]).set 1 (some ((out2 n n i).set i (.sl H.length 0 n 2 (some n))))).set (i+2) _)at hcp;change getB ((H++[some (zeh n [AV.bool false,AV.vec [] 0 (some 0)])]).set 1 (some ((out2 n n i).set i (.sl H.length 0 n 2 (some n))))) (i+2)=_ at gc;generalize (H++[some (zeh n [AV.bool false,AV.vec [] 0 (some 0)])]).set 1 (some ((out2 n n i).set i (.sl H.length 0 n 2 (some n))))=H1 at*;simp only[r157_7,SS,fC,reduceIte,qQ,e4,qV,q1,hol2,hog];refine⟨⟨by omega,by omega⟩,by omega,?_⟩;refine jft (id:=i+2) (off:=0) (n:=n) (c:=some n) (c':=none) (xs:=zfv (M.getD i [])) (cs:=cs) ?_ ?_ gc hcl2 (by omega) (zhy hrc) ?_
  ·simp only[SS,reduceIte,qQ]
  ·simp only[SS,reduceIte,qQ]
  rw[hse];simp only[r157_8,SS,reduceIte,qQ,e21,w5];refine⟨k,_,_,by omega,⟨i+1,by omega,hcp,?_,?_,?_,?_,?_,?_⟩,.refl⟩<;>simp only[UU,qQ,reduceIte, *]
 ·obtain rfl:i=n:=by omega
  refine hQ _ _ hB ?_ ?_ ?_<;>simp only[UU,qQ, *]
theorem jfy{n b:Nat}{a:Nat->Row}{ps:List (Nat×Option Nat)}(hR:Red n a){Q:Post}{E:Env}{H:Heap}{M:List (List Int)}
  (hD:PS n M (lead a 0) 0 E H ps b) (hE:EntI a n 0 1 1 M) (hQ:∀E' H' M',PS n M' (lead a n) n E' H' ps b->Q (.exit 2) E' H'):Wg 0 149 (.loop l157_1) E H Q:=by
 have h8:=hR.n8;refine zaf (λm E H=>∃k M,k+m=n/\PS n M (lead a k) k E H ps b/\EntI a n k (k+1) (k+1) M) (n:=n) ⟨0,M,by omega,hD,hE⟩ ?_;clear hD hE E H M;rintro m E H ⟨k,M,hkm,hD,hE⟩;refine wM ?_;obtain⟨e39,e40⟩:=And.intro hD.e39 hD.e40;simp only[l157_1,r157_12,SS,reduceIte,e39,e40];refine⟨λhlt=>?_,λhge=>?_⟩
 ·obtain⟨m,rfl⟩:∃m',m=m'+1:=⟨m-1,by omega⟩
  have hk:k<n:=by omega
  have w5:=wS1 k (by omega);simp only[r157_13,r157_14,SS,reduceIte,qQ,e40];refine jfw hR hk (hD.frame (by simp only[UU,qQ,and_self])) hE ?_ ?_ (λE1 hD1 f9 f10=>?rest)
  case rest=>
   have hD10:=hD1;obtain⟨hM,hS,e2,e3,e4,e7,e8,e39,e40,⟨lu,lv,hlast,hl⟩,⟨ru,rv,hres⟩,hnd⟩:=hD1;have hsl:=hS.len;have d1:decide ((k:Int)=(n:Nat))=false:=dF;obtain⟨csp,gp,lp,rp,fp⟩:=zdw hM (i:=k) (by omega);obtain⟨u,v,x,y⟩:=fp k hk;rw[hE.piv hk]at y;obtain⟨ly,cy,hy1,hy2⟩:=zam y;subst hy1 hy2;have op:=zbv (ps:=ps) (n:=n) (i:=k) (by rw[hM.len];omega);have hol:(ps.map (zck n)).length=n:=by rw[xK,hM.len];exact hsl
   have hou:=hM.outer;simp only[r157_17,SS,fC,reduceIte,qQ,e3,f10,d1];simp only[r157_19,SS,fC,reduceIte,qQ,f9,f10,ne_eq,not_true_eq_false,decide_false];simp only[r157_22,SS,fC,reduceIte,qJ,qQ,e4,f9,qV,hou,hol,op,gp,lp,x];refine⟨⟨by omega,by omega⟩,by omega,⟨by omega,by omega⟩,by omega,?_⟩;simp only[SS,qJ,qZ,zbr,ziw];simp only[r157_23,SS,reduceIte,qQ,f9,w5];have hap:=hD10.apart;refine jfv hR hk (q:=H.length) hap y (hD10.app.frame ?fr) hE ?_ ?_ ?_ zbr (λE3 H3 M3 hD3 hE3 g11 gq=>?rest2)
   case fr=>simp only[UU,qQ,and_self]
   case rest2=>
    obtain⟨hM3,hS3,g2,g3,g4,g7,g8,g39,g40,⟨lu3,lv3,hlast3,hl3⟩,⟨ru3,rv3,hres3⟩,hnd3⟩:=hD3;have hnd5:=hnd3;simp only[xS,yA,not_or]at hnd5;simp only[r157_31,SS,reduceIte,qJ,qQ,qZ,g8,g11,gq,hlast3];simp only[r157_32,SS,reduceIte,qQ,g40,w5];refine⟨m,_,_,by omega,⟨k+1,M3,by omega,⟨zpc hM3 hnd5.2.1.1 hnd5.2.1.2,hS3,?_,?_,?_,?_,?_,?_,?_,⟨_,_,zbd (zal hlast3),y⟩,⟨ru3,rv3,?_⟩,hnd3⟩,hE3.done⟩,.refl⟩
    case refine_8=>rw[zah (λe=>hnd5.1.1 e.symm)];exact hres3
    all_goals simp only[UU,qQ,reduceIte, *]
   all_goals simp only[UU,qQ,reduceIte, *]
  all_goals simp only[UU,qQ,reduceIte, *]
 ·obtain rfl:k=n:=by omega
  exact hQ _ _ M (hD.frame (by simp only[UU,qQ,and_self]))
theorem zuf{n:Nat}{M:List (List Int)}(hS:Shp n M)(hR:Red n (rowF M))(hF:qfq M):Rt 157 [matC M] [] (intV (lead (rowF M) n)) []:=by
 have h8:=hR.n8;have h1:=hR.n1;have hsl:=hS.len;obtain⟨v1,hv1,ts⟩:=zue;obtain⟨l1,c1,rfl⟩:=hv1.shape
 have hrow:∀i,i<n->(M.map rowV).getD i .junk= .vec (zfv (M.getD i [])) n none/\RowC (M.getD i []) (zfv (M.getD i [])):=λi hi=>by
  have hi':i<M.length:=by omega
  have e:M.getD i []=M[i]:=by rw[qX,qK hi'];rfl
  refine⟨?_,zia (by rw[e];exact hF _ (xX hi'))⟩;rw[qX,qL,qK hi',e]
  show AV.vec (zfv M[i]) M[i].length none=_
  rw[<-e,hS.row i hi]
 refine oFw o157 ?_;simp only[c157,r157_0,r157_1,r157_2,r157_3,SS,reduceCtorEq,reduceIte,qQ,matC,hsl,qV];refine⟨by omega,⟨by omega,by omega,by omega,by omega⟩,?_⟩;refine jfx (x:=[.bool false,.vec [] 0 (some 0)]) (by omega) hS hrow ?hb ?_ ?_ ?_ ?_ ?_ ?_ (λE1 H1 hB e2 e3 e4=>?rest)
 case hb=>exact⟨rfl,rfl,by simp[out2,ps2,getB],λk hk=>absurd hk (by omega)⟩
 case rest=>
  have hMH:=hB.mat hsl (λi hi=>hS.row i hi);have hl:=hB.len;have g0:=hB.h0;simp only[r157_9,SS,reduceCtorEq,reduceIte];simp only[r157_10,SS];refine zaa ts ?_;simp only[SS,reduceIte,qJ,qQ,qZ,zbr,ziw];simp only[r157_11,SS,reduceIte,qQ,e3];refine jfy (b:=H1.length) (ps:=ps2 n n) (M:=M) hR ⟨zzr hMH,hS,?_,?_,?_,?_,?_,?_,?_,⟨_,_,zbr,hv1⟩,⟨_,_,(zca (zal g0)).trans g0⟩,qlv (by omega)⟩ (qga M n) (λE2 H2 M2 hD2=>?rest2)
  case rest2=>
   obtain⟨hM3,hS3,g2,g3,g4,g7,g8,g39,g40,⟨lu3,lv3,hlast3,hl3⟩,⟨ru3,rv3,hres3⟩,hnd3⟩:=hD2;have c4:qW [.agg [lu3,lv3]]=true:=by simp only[qW,hl3.closed,qC]
   obtain⟨w,hw,tn⟩:=zlx hl3;have hw0:=hw;obtain⟨lw,cw,rfl⟩:=hw0.shape;simp only[r157_33,SS,fC,reduceCtorEq,reduceIte,g7];simp only[r157_35,SS,reduceIte,qJ,qQ,qZ,g8,hlast3];refine zaa tn ?_ c4;simp only[SS,reduceIte,qJ,qQ,qZ,g2,hres3];refine⟨.inl trivial,_,_,zeu (id:=0) (by simp only[UU,qQ,g2]) (zbd (zal hres3)),.drop _ _ rfl (by intro i cs h;omega),hw.wk⟩
  all_goals simp only[UU,qQ,reduceIte, *]
  rfl
 all_goals simp only[UU,qQ,reduceIte, *]
end Go.Proofs.YtpflahgcdgdkjaaGreatDoor
namespace Go.Proofs.YtpflahgcdgdkjaaGreatDoor
open Nat renaming reduceEqDiff -> qQ
open List renaming getD_eq_getElem?_getD -> qX, getElem?_eq_getElem -> qK, getElem?_cons_succ -> qY, getElem?_cons_zero -> qU, getElem_of_mem -> yU
open Go.AL.AV.closed renaming closedL -> qW
open Bool renaming and_self -> qC, and_eq_true -> yN
open Option renaming bind_eq_some_iff -> qS, getD_some -> xZ
open Option.some renaming injEq -> qT
open Go Go.AL Go.Proofs Go.Limb
theorem qlw{B:Nat}{M:List (List Int)}{ds:List Int}{m i:Nat}{b:Bool}(h:redI B M ds (m+1) i=some b):
  ∃b1,redJ B M ds i i 0=some b1/\(b1=false->b=false)/\(b1=true->i=0->redI B M ds m (i+1)=some b)/\(b1=true->0<i->∃b2,lovO B M ds i=some b2/\(b2=false->b=false)/\(b2=true->redI B M ds m (i+1)=some b)):=by
 simp only[redI,qS]at h;obtain⟨b1,h1,h2⟩:=h;refine⟨b1,h1,λe=>?_,λe e0=>?_,λe e0=>?_⟩
 ·subst e;simpa using h2.symm
 ·subst e;subst e0;simpa using h2
 ·subst e;rw[if_neg (by decide),if_neg (by omega),qS]at h2;obtain⟨b2,h3,h4⟩:=h2;refine⟨b2,h3,λe=>?_,λe=>?_⟩
  ·subst e;simpa using h4.symm
  ·subst e;simpa using h4
theorem qlx{B:Nat}{M:List (List Int)}{ds:List Int}{m i j:Nat}{b:Bool}(h:redJ B M ds i (m+1) j=some b):
  ∃b1,zkl B M ds i j=some b1/\(b1=false->b=false)/\(b1=true->redJ B M ds i m (j+1)=some b):=by
 simp only[redJ,qS]at h;obtain⟨b1,h1,h2⟩:=h;refine⟨b1,h1,λe=>?_,λe=>?_⟩
 ·subst e;simpa using h2.symm
 ·subst e;simpa using h2
theorem qsh{B n:Nat}{M:List (List Int)}{a:AV}{ds:List Int}{b:Bool}(hB:DivB B)(h:Sq n M a)(hd:zkk B M=some ds)(hb:redI B M ds n 0=some b):
  Rt 73 [a] [] (.bool b) []:=by
 have hL:=qkq h hd;have t1:=ztp hB h hd;have c1:qW [a]=true:=by simp only[qW,h.closed,qC]
 have hs:=h;obtain⟨⟨rows,c,rfl,hl,hr⟩,hlen,hc,hlo,hhi⟩:=h;rw[hlen]at hs t1 c1 ⊢;refine oF o73 ?_;simp only[c73,r73_0,r73_1,SS,reduceCtorEq,reduceIte];refine zaa t1 ?_ c1;simp only[SS,reduceIte,qQ,qU,qY];simp only[r73_2,SS,reduceCtorEq,reduceIte,qQ];refine zaf (λm E H=>∃i,i+m=n/\E 0= .vec rows n c/\E 3=rowV ds/\E 13= .int .i64 (n:Nat)/\E 14= .int .i64 (i:Nat)/\H=[]/\redI B M ds m i=some b) (n:=n) ⟨0,by omega,?_,?_,?_,?_,rfl,hb⟩ ?_
 ·simp only[UU,qQ]
 ·simp only[UU,qQ,reduceIte]
 ·simp only[UU,qQ,reduceIte]
 ·simp only[UU,qQ,reduceIte];rfl
 rintro m E H ⟨i,him,e0,e3,e13,e14,rfl,hi0⟩;refine wM ?_;simp only[l73_0,r73_3,SS,reduceCtorEq,reduceIte,e13,e14];refine⟨λhlt=>?_,λhge=>?_⟩
 ·obtain⟨m,rfl⟩:∃m',m=m'+1:=⟨m-1,by omega⟩
  have hi:i<n:=by omega
  have w5:=wS1 i (by omega);obtain⟨b1,hj0,k1,k2,k3⟩:=qlw hi0;simp only[r73_4,r73_5,SS,reduceIte,qQ,e14];refine zaf (λm2 E H=>∃j,j+m2=i/\E 0= .vec rows n c/\E 3=rowV ds/\E 5= .int .i64 (i:Nat)/\E 6= .int .i64 (j:Nat)/\E 13= .int .i64 (n:Nat)/\E 14= .int .i64 (i:Nat)/\H=[]/\redJ B M ds i m2 j=some b1) (n:=i) ⟨0,by omega,?_,?_,?_,?_,?_,?_,rfl,hj0⟩ ?_
  ·simp only[UU,qQ,e0]
  ·simp only[UU,qQ,e3]
  ·simp only[UU,qQ,reduceIte]
  ·simp only[UU,qQ,reduceIte];rfl
  ·simp only[UU,qQ,e13]
  ·simp only[UU,qQ,e14]
  rintro m2 E2 H2 ⟨j,hjm,f0,f3,f5,f6,f13,f14,rfl,hj1⟩;refine wM ?_;simp only[l73_1,r73_6,SS,reduceCtorEq,reduceIte,qQ,f5,f6];refine⟨λhlt3=>?_,λhge3=>?_⟩
  ·obtain⟨m2,rfl⟩:∃m',m2=m'+1:=⟨m2-1,by omega⟩
   obtain⟨b2,hs2,q1,q2⟩:=qlx hj1;have t2:=quy hB hs hL hi (show j<n by omega) hs2
   have c2:qW [.vec rows n c,rowV ds,.int .i64 (i:Nat),.int .i64 (j:Nat)]=true:=by
    simp only[qW,yN]at c1 ⊢;exact⟨c1.1,rfl,rfl,rfl,trivial⟩
   have w6:=wS1 j (by omega);cases b2 with
   |false=>
    have hb1:=q1 rfl;subst hb1;have hb0:=k1 rfl;subst hb0;simp only[r73_7,SS,reduceCtorEq,reduceIte,qQ,f0,f3,f5,f6];refine zaa t2 ?_ c2;simp only[r73_8,SS,fC,reduceIte,qQ];exact dR
   |true=>
    simp only[r73_7,SS,reduceCtorEq,reduceIte,qQ,f0,f3,f5,f6];refine zaa t2 ?_ c2;simp only[r73_9,SS,fC,reduceIte,qQ,f6,w6];refine⟨m2,_,_,by omega,⟨j+1,by omega,?_,?_,?_,?_,?_,?_,rfl,q2 rfl⟩,.refl⟩<;>simp only[UU,qQ,reduceIte, *]
  ·have hm2:m2=0:=by omega
   subst hm2;simp only[redJ,qT]at hj1;subst hj1;rcases Nat.eq_zero_or_pos i with h0 | h0
   ·have d0:decide ((0:Int)<(i:Nat))=false:=dF;simp only[r73_10,r73_12,SS,fC,reduceCtorEq,reduceIte,qQ,f0,f3,f5,f14,d0,w5];refine⟨m,_,_,by omega,⟨i+1,by omega,?_,?_,?_,?_,rfl,k2 rfl h0⟩,.refl⟩<;>simp only[UU,qQ,reduceIte, *]
   ·have d0:decide ((0:Int)<(i:Nat))=true:=dT;obtain⟨b2,hl2,q1,q2⟩:=k3 rfl h0;have t3:=qkr hB hs hL h0 hi hl2
    have c3:qW [.vec rows n c,rowV ds,.int .i64 (i:Nat)]=true:=by
     simp only[qW,yN]at c1 ⊢;exact⟨c1.1,rfl,rfl,trivial⟩
    cases b2 with
    |false=>
     have hb0:=q1 rfl;subst hb0;simp only[r73_10,SS,fC,reduceCtorEq,reduceIte,qQ,f0,f3,f5,d0];refine zaa t3 ?_ c3;simp only[r73_11,SS,fC,reduceIte,qQ];exact dR
    |true=>
     simp only[r73_10,SS,fC,reduceCtorEq,reduceIte,qQ,f0,f3,f5,d0];refine zaa t3 ?_ c3;simp only[r73_12,SS,fC,reduceIte,qQ,f14,w5];refine⟨m,_,_,by omega,⟨i+1,by omega,?_,?_,?_,?_,rfl,q2 rfl⟩,.refl⟩<;>simp only[UU,qQ,reduceIte, *]
 ·have hm:m=0:=by omega
  subst hm;simp only[redI,qT]at hi0;subst hi0;simp only[r73_13,SS];exact dR
open Go.Det
theorem znm{A0:Nat}{M:List (List Int)}(hb:Bnd A0 M)(hA:A0<BIG):qfq M:=by
 intro r hr z hz;obtain⟨i,hi,rfl⟩:=yU hr;obtain⟨j,hj,rfl⟩:=yU hz;have:=hb i j;unfold ent at this;rw[qX (l:=M),qK hi,xZ,qX,qK hj,xZ]at this;omega
theorem zug{n A0:Nat}{M:List (List Int)}(hS:Shp n M)(hn:1<=n/\n<=8)(hb:Bnd A0 M)(hA:A0<BIG):Sq n M (matC M):=⟨zly (znm hb hA),hS.len,hS.row,hn.1,hn.2⟩
theorem qgb{B n N A0:Nat}{M:List (List Int)}{a:AV}(hB:DivB B)(h:ImV M a)(hS:Shp n M)(hn:1<=n/\n<=8)(hnN:n<=N)(hF:FitN N B A0)(hb:Bnd A0 M){b:Bool}(hr:b=true↔Red n (rowF M)):
  Rt 29 [a] [] (.bool b) []:=by
 have hlt:=hF.lt;have hBB:=hB.1
 have hA:A0<BIG:=by
  have:=(hF.all (k:=0) (by omega)).1;have e:bndS A0 0=A0:=rfl;omega
 have hsq:=zug hS hn hb hA;have t0:=zpe h (n:=n) (by omega) (by rw[hS.len];omega) (λi hi=>hS.row i (by rw[hS.len]at hi;exact hi));obtain⟨ds,hds,hdf⟩:=znl hF hb n hnN;have hds':zkk B M=some ds:=by unfold zkk;rw[hS.len];exact hds
 obtain⟨d0,hd0,hd0f⟩:=zpl (B:=B) hF.one (λk hk=>(hF.all (k:=k) (by omega)).2) hS hb;have hd0B:d0.natAbs<B:=by have:=(hF.all hnN).1;omega
 obtain⟨br,hbr⟩:=qza hF hb hdf n 0 (by omega);have t1:=zpd hB hsq hds';have t2:=qux hB hsq hd0 hd0B;have t3:=qsh hB hsq hds' hbr;have hcl:=hsq.closed
 have hiff:(valZ M ds=0/\d0<=10000/\br=true)↔b=true:=by
  rw[hr];constructor
  ·rintro⟨h1,h2,h3⟩;exact qyu hS hn.1 hn.2 hds hd0 ⟨h1,h2,br,hbr,h3⟩
  ·intro hR;obtain⟨h1,h2,h3⟩:=qyv hS hds hd0 hR;exact⟨h1,h2,h3 br hbr⟩
 have hca:a.closed=true:=h.closed;have c1:qW [a]=true:=by simp only[qW,hca,qC]
 have c2:qW [matC M]=true:=by simp only[qW,hcl,qC]
 refine oF o29 ?_;simp only[c29,r29_0,r29_1,SS,reduceCtorEq,reduceIte];refine zaa t0 ?_ c1;simp only[SS,reduceIte,qQ,qU,qY];simp only[r29_2,SS,fC,reduceIte,qQ];refine zaa t1 ?_ c2;simp only[SS,fC,reduceIte,qQ];refine⟨λh1=>?_,λh1=>?_⟩
 ·refine zaa t2 ?_ c2;simp only[SS,fC,reduceIte,qQ];refine⟨λh2=>?_,λh2=>?_⟩
  ·refine zaa t3 ?_ c2;simp only[SS,reduceIte,qQ]
   have hbb:b=br:=by
    cases br with
    |true=>exact hiff.1 ⟨h1,h2,rfl⟩
    |false=>
     cases b with
     |false=>rfl
     |true=>exact absurd (hiff.2 rfl).2.2 (by simp)
   subst hbb;exact dR
  ·have d2:decide (d0<=10000)=false:=decide_eq_false h2
   have hbb:b=false:=by
    cases b with
    |false=>rfl
    |true=>exact absurd (hiff.2 rfl).2.1 h2
   subst hbb;simp only[d2];exact dR
 ·have d1:decide (valZ M ds=0)=false:=decide_eq_false h1
  have hbb:b=false:=by
   cases b with
   |false=>rfl
   |true=>exact absurd (hiff.2 rfl).1 h1
  subst hbb;simp only[d1];exact dR
end Go.Proofs.YtpflahgcdgdkjaaGreatDoor
namespace Go.Proofs.YtpflahgcdgdkjaaGreatDoor
open Nat renaming reduceEqDiff -> qQ, reduceLeDiff -> qZ, reduceAdd -> qJ, le_refl -> qE, sub_self -> qN, zero_add -> qO, mul_one -> yZ, not_lt_zero -> yT
open List renaming getD_eq_getElem?_getD -> qX, getElem?_eq_getElem -> qK, getElem?_cons_succ -> qY, getElem?_cons_zero -> qU, take_of_length_le -> qA, getElem?_set_self -> qB, getElem?_append_right -> qD, set_append_right -> qG, replicate_zero -> qH, ext_getElem -> qI, getElem?_map -> qL, getElem?_set_ne -> qR, append_nil -> xJ, getElem_range -> xW, take_add_one -> xU, getElem_map -> xE, getElem_set -> xG, length_take -> xH, set_set -> xO, length_set -> xR, drop_zero -> yJ, mapM_cons -> yK, map_set -> yH, range_succ -> yS
open Go.AL.AV.closed renaming closedL -> qW
open Int renaming toNat_natCast -> qV, toNat_zero -> xQ, tmod_lt_of_pos -> yB, lt_tmod_of_pos -> yC, emod_lt_of_pos -> yD, emod_nonneg -> zX
open Bool renaming and_self -> qC
open Option renaming getD_some -> xZ, map_some -> zQ
open Go Go.AL Go.Proofs Go.Limb
def zpu(n i:Nat):List AV:=(List.range i).map λk=> .sl (k+1) 0 n 1 (some n)
def outS(N n i:Nat):List AV:=zpu n i++List.replicate (N-i) nilV
def bH(N n:Nat)(rows:List (List Int)):Heap:=some (outS N n rows.length)::rows.map λr=>some (i64z r)
theorem zig(n i:Nat):(zpu n i).length=i:=by simp[zpu]
theorem zew{N n i:Nat}(h:i<=N):(outS N n i).length=N:=by simp[outS,zig];omega
theorem zex{N n i k:Nat}(h:k<i):(outS N n i).getD k .junk= .sl (k+1) 0 n 1 (some n):=by
 unfold outS zpu;rw[qX,List.getElem?_append_left (by simpa using h),qL,List.getElem?_range h];rfl
theorem qct(N n:Nat)(rows:List (List Int)):(bH N n rows).length=rows.length+1:=by simp[bH]
theorem zec(N n:Nat)(rows:List (List Int)):getB (bH N n rows) 0=some (outS N n rows.length):=rfl
theorem zfy{N n i:Nat}{rows:List (List Int)}(h:i<rows.length):getB (bH N n rows) (i+1)=some (i64z (rows.getD i [])):=by
 unfold getB bH;rw[qY,qL,qX,qK h];rfl
theorem zhl{N n i:Nat}{rows:List (List Int)}(r:List Int):(bH N n rows).set (i+1) (some (i64z r))=bH N n (rows.set i r):=by
 unfold bH;rw[List.set_cons_succ,xR,yH]
theorem qly{N n i:Nat}(h:i<N):(outS N n i).set i (.sl (i+1) 0 n 1 (some n))=outS N n (i+1):=by
 unfold outS;have e:List.replicate (N-i) nilV=nilV::List.replicate (N-(i+1)) nilV:=by rw[<-List.replicate_succ];congr 1;omega
 have ez:zpu n (i+1)=zpu n i++[.sl (i+1) 0 n 1 (some n)]:=by simp[zpu,yS]
 rw[e,ez,qG _ _ (by rw[zig];omega),zig,qN];simp
theorem qcu{N n:Nat}{rows:List (List Int)}(r:List Int)(h:rows.length<N):(bH N n rows++[some (i64z r)]).set 0 (some ((outS N n rows.length).set rows.length (.sl (rows.length+1) 0 n 1 (some n))))=bH N n (rows++[r]):=by
 rw[qly h];unfold bH;simp
theorem zdu(r:List Int)(j:Nat)(z:Int):(i64z r).set j (.int .i64 z)=i64z (r.set j z):=by simp[i64z,yH]
theorem zkw(n:Nat)(z:Int):List.replicate n (AV.int .i64 z)=i64z (List.replicate n z):=by simp[i64z]
theorem zuh(r:List Int)(m d:Nat)(H:Heap):(i64z r).mapM (frzI m H (d+1))=some (i64z r):=by
 refine znh (λa ha=>?_);unfold i64z at ha;obtain⟨z,_,rfl⟩:=List.mem_map.1 ha;rfl
def zcx(n:Nat)(rows:List (List Int)):List AV:=rows.map λr=> .vec (i64z r) n (some n)
theorem qlz{N n:Nat}{rows:List (List Int)}(hN:rows.length=N)(hn:∀i,i<N->(rows.getD i []).length=n):frzI 0 (bH N n rows) 3 (.sl 0 0 N 1 (some N))=some (.vec (zcx n rows) N (some N)):=by
 have e0:outS N n rows.length=zpu n N:=by
  unfold outS;rw[hN,qN,qH,xJ]
 have key:(zpu n N).mapM (frzI 0 (bH N n rows) 2)=some (zcx n rows):=by
  have:zcx n rows=(List.range N).map λk=>AV.vec (i64z (rows.getD k [])) n (some n):=by
   refine qI (by simp[zcx,hN]) λk h1 h2=>?_
   simp only[zcx,xE,xW];have hk:k<rows.length:=by simpa[zcx]using h1
   rw[qX,qK hk];rfl
  rw[this];unfold zpu;rw[List.mapM_map]
  have:∀l:List Nat,(∀k∈l,k<N)->l.mapM (λk=>frzI 0 (bH N n rows) 2 (.sl (k+1) 0 n 1 (some n)))=some (l.map λk=>AV.vec (i64z (rows.getD k [])) n (some n)):=by
   intro l
   induction l with
   |nil=>intro _;rfl
   |cons k l ih=>
    intro h;have hk:=h k (by simp)
    have e:frzI 0 (bH N n rows) 2 (.sl (k+1) 0 n 1 (some n))=some (.vec (i64z (rows.getD k [])) n (some n)):=by
     rw[frzI];have hl:=hn k hk;simp only[yT,if_false,zfy (show k<rows.length by omega),need,qO,yZ,zbe,hl,qE,if_true,yJ];rw[qA (by rw[zbe];omega),zuh];rfl
    rw[yK,e,ih (λx hx=>h x (by simp[hx]))];rfl
  exact this _ (λk hk=>List.mem_range.1 hk)
 rw[frzI];simp only[yT,if_false,zec,e0,need,qO,yZ,zig,qE,if_true,yJ];rw[qA (by rw[zig];omega),key];rfl
theorem znn{N n:Nat}{rows:List (List Int)}{c:Option Nat}(hN:rows.length=N)(hn:∀i,i<N->(rows.getD i []).length=n)(hf:∀i j,In64 (ent rows i j)):ImV rows (.vec (zcx n rows) N c):=by
 refine⟨⟨zcx n rows,c,by rw[hN],by simp[zcx],λi hi=>⟨some n,?_⟩⟩,hf⟩;have hl:=hn i (by omega);unfold zcx;rw[qX,qL,qK hi];rw[qX,qK hi]at hl ⊢;simp only[zQ,xZ]at hl ⊢;rw[hl]
theorem qvg{z:Int}{a:AV}(ha:zag z a)(hz:In64 z):Rt 97 [a] [] (.tup [.int .i64 z,.bool true]) []:=by
 obtain⟨z1,z2⟩:=hz;obtain⟨l,ca,hc,hl,hv,rfl⟩:=ha;obtain⟨c1,t1⟩:=zmx l ca (by omega);have k1:=zaz hc.1;have kv:=(zbq l).trans hv;generalize zbf l=m at*;have hm2:=zdc k1 (by omega);have t2:=zlow m c1 k1.1 (by omega);rw[qA hm2,kv]at t2;have d1:decide ((2:Int)<(m.length:Nat))=false:=dF;by_cases hn:z<0
 ·have e1:decide (z<0)=true:=decide_eq_true hn;have d2:decide ((z.natAbs:Int)<=9223372036854775808)=true:=dT
  have w1:IntKind.i64.wrap (IntKind.u64.wrap (0-(z.natAbs:Int)))=z:=by
   simp[IntKind.wrap,IntKind.bits,IntKind.signed];omega
  refine oF o97 ?_;simp only[c97,r97_0,r97_1,SS,fC,reduceCtorEq,reduceIte,qJ,qQ,qZ,e1];refine zaa t1 ?_;simp only[SS,reduceIte,qQ];simp only[r97_2,SS,reduceIte,qQ];refine zaa t2 ?_;simp only[SS,reduceIte,qQ];simp only[r97_3,SS,fC,reduceIte,qQ,d1];simp only[r97_5,SS,fC,reduceIte,qJ,qQ,qZ,d2];simp only[r97_6,SS,reduceIte,qQ,w1];exact dR
 ·have e1:decide (z<0)=false:=decide_eq_false hn;have d2:decide ((z.natAbs:Int)<9223372036854775808)=true:=dT
  have w1:IntKind.i64.wrap (z.natAbs:Int)=z:=by
   rw[show(z.natAbs:Int)=z by omega];exact w64 z1 z2
  refine oF o97 ?_;simp only[c97,r97_0,r97_1,SS,fC,reduceCtorEq,reduceIte,qJ,qQ,qZ,e1];refine zaa t1 ?_;simp only[SS,reduceIte,qQ];simp only[r97_2,SS,reduceIte,qQ];refine zaa t2 ?_;simp only[SS,reduceIte,qQ];simp only[r97_3,SS,fC,reduceIte,qQ,d1];simp only[r97_5,SS,fC,reduceIte,qJ,qQ,qZ];simp only[r97_7,SS,fC,reduceIte,qJ,qQ,qZ,d2];simp only[r97_8,SS,reduceIte,qQ,w1];exact dR
theorem jdl{n:Nat}{M:List (List Int)}{rows:List AV}{c:Option Nat}(hn:1<=n/\n<=8)(hS:Shp n M)(hl:rows.length=n)(hr:∀i,i<n->zfu (M.getD i []) (rows.getD i .junk))(hf:∀i j,In64 (ent M i j)){i:Nat}(hi:i<n){rs:List (List Int)}(hrl:rs.length=i+1)(hr0:(rs.getD i []).length=n){E:Env}{Q:Post}
  (e0:E 0= .vec rows n c) (e5:E 5= .int .i64 (n:Nat)) (e7:E 7= .sl 0 0 n 1 (some n)) (e8:E 8= .int .i64 (i:Nat)) (e23:E 23= .int .i64 (n:Nat)) (e24:E 24= .int .i64 (i:Nat)) (e36:E 36= .int .i64 (n:Nat)) (e37:E 37= .int .i64 0)
  (hQ:∀E' r,r.length=n->(∀j,j<n->r.getD j 0=ent M i j)->E' 0= .vec rows n c->E' 5= .int .i64 (n:Nat)->E' 7= .sl 0 0 n 1 (some n)->E' 23= .int .i64 (n:Nat)->E' 24= .int .i64 (i:Nat)->Q (.exit 2) E' (bH n n (rs.set i r))):
  Wg 0 63 (.loop l61_1) E (bH n n rs) Q:=by
 refine zaf (λk E H=>∃j r,j+k=n/\r.length=n/\(∀t,t<j->r.getD t 0=ent M i t)/\H=bH n n (rs.set i r)/\E 0= .vec rows n c/\E 5= .int .i64 (n:Nat)/\E 7= .sl 0 0 n 1 (some n)/\E 8= .int .i64 (i:Nat)/\E 23= .int .i64 (n:Nat)/\E 24= .int .i64 (i:Nat)/\
  E 36= .int .i64 (n:Nat)/\E 37= .int .i64 (j:Nat)) (n:=n)
  ⟨0,rs.getD i [],by omega,hr0,λt ht=>absurd ht (by omega),?_,e0,e5,e7,e8,e23,e24,e36,e37⟩ ?_
 ·congr 1;refine qI (by simp) λt h1 h2=>?_
  rw[xG];split
  ·rename_i e;subst e;rw[qX,qK h1];rfl
  ·rfl
 clear e0 e5 e7 e8 e23 e24 e36 e37 E;rintro k E H ⟨j,r,hjk,hrm,hr',rfl,e0,e5,e7,e8,e23,e24,e36,e37⟩;refine wM ?_;simp only[l61_1,r61_10,SS,reduceIte,e36,e37];refine⟨λhlt=>?_,λhge=>?_⟩
 ·obtain⟨k,rfl⟩:∃k',k=k'+1:=⟨k-1,by omega⟩
  have hj:j<n:=by omega
  have lM:=hS.row i hi;obtain⟨csi,ci,hei,hci⟩:=hr i hi;have hcl:=zcp hci;obtain⟨u,v,hu,hz⟩:=zev hci j (by omega);obtain⟨lz,cz,hz1,hz2⟩:=zam hz;subst hz1 hz2;have ts:=qvg hz (hf i j);have w5:=wS1 j (by omega);have hset:(rs.set i r).length=i+1:=by simp[hrl]
  have gr:=zfy (N:=n) (n:=n) (i:=i) (rows:=rs.set i r) (by omega);have gri:(rs.set i r).getD i []=r:=by rw[qX,qB (by omega)];rfl
  rw[gri]at gr;have go:getB (bH n n (rs.set i r)) 0=some (outS n n (i+1)):=by rw[zec,hset]
  have gol:=zew (N:=n) (n:=n) (i:=i+1) (by omega);have gog:=zex (N:=n) (n:=n) (i:=i+1) (k:=i) (by omega);have hent:(M.getD i []).getD j 0=ent M i j:=rfl;rw[hent]at ts;simp only[r61_11,r61_12,SS,fC,reduceCtorEq,reduceIte,qQ,e0,e8,e37,qV,hl,hei,hcl,lM,hu];refine⟨⟨by omega,by omega⟩,by omega,⟨by omega,by omega⟩,by omega,?_⟩;refine zaa ts ?_;simp only[SS,reduceIte,qQ,qU,qY];simp only[r61_13,SS,fC,reduceIte,qQ];simp only[r61_15,SS,fC,reduceIte,qQ,e7,e8,qV,go,gol,gog,gr,hrm,zbe,zdu];refine⟨⟨by omega,by omega⟩,by omega,⟨by omega,by omega⟩,by omega,?_⟩;simp only[r61_16,SS,reduceIte,qQ,e37,w5,zhl];refine⟨k,_,_,by omega,⟨j+1,r.set j (ent M i j),by omega,by simp[hrm],λt ht=>?_,?_,?_,?_,?_,?_,?_,?_,?_,?_⟩,.refl⟩
  ·rw[qX];rcases(by omega:t<j\/t=j)with e | e
   ·rw[qR (by omega),<-qX];exact hr' t e
   ·rw[e,qB (by omega)];rfl
  ·rw[xO]
  all_goals simp only[UU,qQ,reduceIte, *]
 ·have hjm:j=n:=by omega
  subst hjm;exact hQ _ r hrm hr' (by simp only[UU,qQ,e0]) (by simp only[UU,qQ,e5]) (by simp only[UU,qQ,e7]) (by simp only[UU,qQ,e23]) (by simp only[UU,qQ,e24])
theorem qzp{n:Nat}{M:List (List Int)}{a:AV}(h:Sq n M a)(hf:∀i j,In64 (ent M i j)):Rt 61 [a] [] (.tup [.vec (zcx n M) n (some n),.bool true]) []:=by
 have hn:1<=n/\n<=8:=⟨h.lo,h.hi⟩
 have hS:Shp n M:=⟨h.len,h.cols⟩
 have t1:=zwe h.mat h.shape;rw[h.cols 0 (by omega),h.len]at t1;have c1:qW [a]=true:=by simp only[qW,h.closed,qC]
 obtain⟨rows,c,hae,hl,hr⟩:=h.mat;subst hae;rw[h.len]at hl hr t1 c1 ⊢;have hTl:=hS.len;refine oF o61 ?_;simp only[c61,r61_0,r61_1,SS,reduceCtorEq,reduceIte];refine zaa t1 ?_ c1;simp only[SS,reduceIte,qQ,qU,qY];simp only[r61_2,SS,fC,reduceIte,qQ];simp only[r61_4,SS,reduceIte,qQ,qV];refine⟨by decide,⟨by omega,by omega,by omega,by omega⟩,?_⟩;simp only[r61_5,SS,reduceIte,qQ];have hb0:[some (List.replicate n (AV.vec [] 0 (some 0)))]=bH n n []:=rfl;rw[hb0]
 refine zaf (λk E H=>∃i,i+k=n/\H=bH n n (M.take i)/\E 0= .vec rows n c/\E 5= .int .i64 (n:Nat)/\E 7= .sl 0 0 n 1 (some n)/\E 23= .int .i64 (n:Nat)/\E 24= .int .i64 (i:Nat)) (n:=n)
  ⟨0,by omega,rfl,by simp only[UU,qQ],by simp only[UU,qQ,reduceIte],by simp only[UU,qQ,reduceIte],by simp only[UU,qQ,reduceIte],by simp only[UU,qQ,reduceIte];rfl⟩ ?_
 rintro k E H ⟨i,hik,rfl,e0,e5,e7,e23,e24⟩;refine wM ?_;simp only[l61_0,r61_6,SS,reduceCtorEq,reduceIte,e23,e24];refine⟨λhlt=>?_,λhge=>?_⟩
 ·obtain⟨k,rfl⟩:∃k',k=k'+1:=⟨k-1,by omega⟩
  have hi:i<n:=by omega
  have htl:(M.take i).length=i:=by rw[xH];omega
  have w5:=wS1 i (by omega);have hbl:(bH n n (M.take i)).length=i+1:=by rw[qct,htl]
  have go:getB (bH n n (M.take i)++[some (i64z (List.replicate n 0))]) 0=some (outS n n i):=by
   have:getB (bH n n (M.take i)) 0=some (outS n n i):=by rw[zec,htl]
   exact this
  have gol:=zew (N:=n) (n:=n) (i:=i) (by omega);have hnew:=qcu (N:=n) (n:=n) (rows:=M.take i) (List.replicate n 0) (by omega);rw[htl]at hnew;simp only[r61_7,r61_8,SS,reduceIte,qQ,e5,e7,e24,qV,hbl,zkw,go,gol];refine⟨by decide,⟨by omega,by omega,by omega,by omega⟩,⟨by omega,by omega⟩,by omega,?_⟩;rw[hnew];have hrl:(M.take i++[List.replicate n 0]).length=i+1:=by simp;omega
  have hg0:getB (bH n n (M.take i++[List.replicate n 0])) 0=some (outS n n (i+1)):=by rw[zec,hrl]
  have hgl:=zew (N:=n) (n:=n) (i:=i+1) (by omega);have hgg:=zex (N:=n) (n:=n) (i:=i+1) (k:=i) (by omega);simp only[r61_9,SS,fC,reduceIte,qQ,e7,qV,hg0,hgl,hgg];refine⟨⟨by omega,by omega⟩,by omega,?_⟩;refine jdl (rows:=rows) (c:=c) hn hS hl hr hf hi (rs:=M.take i++[List.replicate n 0]) hrl ?_ (by simp only[UU,qQ,e0]) (by simp only[UU,qQ,e5]) (by simp only[UU,qQ,e7]) (by simp only[UU,qQ,reduceIte]) (by simp only[UU,qQ,e23]) (by simp only[UU,qQ,e24]) (by simp only[UU,qQ,reduceIte]) (by simp only[UU,qQ,reduceIte]) ?_
  ·rw[qX,qD (by omega),htl,qN];simp
  intro E' r hrm hr' f0 f5 f7 f23 f24
  have er:r=M.getD i []:=by
   have hTi:=hS.row i hi;refine qI (by omega) λt h1 h2=>?_
   have h3:=hr' t (by omega);unfold ent at h3;rw[qX,qK h1,qX (l:=M.getD i []),qK h2]at h3;exact h3
  have eset:(M.take i++[List.replicate n 0]).set i r=M.take (i+1):=by
   rw[qG _ _ (by omega),htl,qN,er];rw[xU,qX,qK (by omega)];rfl
  rw[eset];simp only[r61_17,SS,reduceCtorEq,reduceIte,qQ,f24,w5];refine⟨k,_,_,by omega,⟨i+1,by omega,rfl,?_,?_,?_,?_,?_⟩,.refl⟩
  all_goals simp only[UU,qQ,reduceIte, *]
 ·have hin:i=n:=by omega
  have htl:M.take i=M:=qA (by omega);rw[htl];simp only[r61_18,SS,reduceIte,qQ,e7];have this:=qlz (N:=n) (n:=n) (rows:=M) hS.len hS.row
  have key:frzI 0 (bH n n M) 4 (.tup [.sl 0 0 n 1 (some n),.bool true])=some (.tup [.vec (zcx n M) n (some n),.bool true]):=by
   rw[frzI];simp only[yK,List.mapM_nil,this];rfl
  exact⟨.inl trivial,.tup [.sl 0 0 n 1 (some n),.bool true],rfl,.freeze 4 _ _ _ key (by intro i cs h;omega)⟩
theorem qsi{x m:Int}(hm:0<m):Int.tmod (Int.tmod x m+m) m=x%m:=by
 have h1:=yB x hm;have h2:=yC x hm;have h3:0<=Int.tmod x m+m:=by omega
 rw[Int.tmod_eq_emod_of_nonneg h3,Int.add_emod_right];have h4:=Int.mul_tdiv_add_tmod x m;have h5:Int.tmod x m=x+m*(-(Int.tdiv x m)):=by rw[Int.mul_neg];omega
 rw[h5,Int.add_mul_emod_self_left]
theorem qzq{m:Int}(hm:2<=m/\m<=2147483647):Rt 140 [.int .i64 m] [] (.int .i64 0) []:=by
 have d1:decide (m<2)=false:=dF;have d2:decide (2147483647<m)=false:=dF;refine oF o140 ?_;simp only[c140,r140_0,r140_1,SS,fC,reduceCtorEq,reduceIte,qQ,d1,d2];simp only[r140_3,SS];exact dR
theorem qzr{n:Nat}{M:List (List Int)}{a:AV}(h:ImV M a)(hS:Shp n M)(hn:1<=n/\n<=8):Rt 139 [a] [] (.bool true) []:=by
 obtain⟨rows,c,rfl,hl,hr⟩:=h.val;have hlen:=hS.len;obtain⟨c0,he0⟩:=hr 0 (by omega);have hc0:=hS.row 0 (by omega);have d1:decide ((n:Int)<1)=false:=dF;have d2:decide ((16:Int)<(n:Nat))=false:=dF;refine oF o139 ?_;simp only[c139,r139_0,r139_1,SS,fC,reduceCtorEq,reduceIte,qQ,he0,hc0,hl,hlen,xQ,d1,d2];refine⟨⟨by omega,by omega⟩,by omega,⟨by omega,by omega⟩,by omega,?_⟩;simp only[r139_3,SS,reduceCtorEq,reduceIte,qQ];refine zaf (λk E H=>∃i,i+k=n/\E 0= .vec rows n c/\E 27= .vec rows n c/\E 28= .int .i64 (n:Nat)/\E 29= .int .i64 (i:Nat)/\H=[]) (n:=n) ⟨0,by omega,by simp only[UU,qQ],by simp only[UU,qQ,reduceIte],by simp only[UU,qQ,reduceIte],by simp only[UU,qQ,reduceIte];rfl,rfl⟩ ?_;rintro k E H ⟨i,hik,e0,e27,e28,e29,rfl⟩;refine wM ?_;simp only[l139_0,r139_4,SS,reduceCtorEq,reduceIte,e28,e29];refine⟨λhlt=>?_,λhge=>?_⟩
 ·obtain⟨k,rfl⟩:∃k',k=k'+1:=⟨k-1,by omega⟩
  obtain⟨ci,hei⟩:=hr i (by omega);have hci:=hS.row i (by omega);have w5:=wS1 i (by omega);simp only[r139_5,r139_6,SS,fC,reduceCtorEq,reduceIte,qQ,e0,e27,e29,qV,xQ,he0,hc0,hei,hci,hl,hlen];refine⟨⟨by omega,by omega⟩,by omega,⟨by omega,by omega⟩,by omega,λhne=>absurd rfl hne,λ_=>?_⟩;simp only[r139_8,SS,reduceIte,qQ,e29,w5];refine⟨k,_,_,by omega,⟨i+1,by omega,?_,?_,?_,?_,rfl⟩,.refl⟩<;>simp only[UU,qQ,reduceIte, *]
 ·simp only[r139_9,SS];exact dR
def modM(n:Nat)(M:List (List Int))(m:Int):List (List Int):=mkM n λi j=>ent M i j%m
theorem qsj{n:Nat}{M:List (List Int)}{rows:List AV}{c:Option Nat}(hn:1<=n/\n<=8)(hS:Shp n M)(hf:∀i j,In64 (ent M i j)){m:Int}(hm:2<=m/\m<=2147483647){i:Nat}(hi:i<n){ci:Option Nat}{rs:List (List Int)}(hrl:rs.length=i+1)(hr0:(rs.getD i []).length=n){E:Env}{Q:Post}
  (e0:E 0= .vec rows n c) (e1:E 1= .int .i64 m) (e5:E 5= .sl 0 0 n 1 (some n)) (e6:E 6= .int .i64 (i:Nat)) (e13:E 13= .vec rows n c) (e14:E 14= .int .i64 (n:Nat)) (e15:E 15= .int .i64 (i:Nat)) (e26:E 26= .vec (i64z (M.getD i [])) n ci) (e27:E 27= .int .i64 (n:Nat)) (e28:E 28= .int .i64 0)
  (hQ:∀E' r,r.length=n->(∀j,j<n->r.getD j 0=ent M i j%m)->E' 0= .vec rows n c->E' 1= .int .i64 m->E' 5= .sl 0 0 n 1 (some n)->E' 13= .vec rows n c->E' 14= .int .i64 (n:Nat)->E' 15= .int .i64 (i:Nat)->Q (.exit 2) E' (bH n n (rs.set i r))):
  Wg 0 49 (.loop l141_1) E (bH n n rs) Q:=by
 refine zaf (λk E H=>∃j r,j+k=n/\r.length=n/\(∀t,t<j->r.getD t 0=ent M i t%m)/\H=bH n n (rs.set i r)/\E 0= .vec rows n c/\E 1= .int .i64 m/\E 5= .sl 0 0 n 1 (some n)/\E 6= .int .i64 (i:Nat)/\E 13= .vec rows n c/\E 14= .int .i64 (n:Nat)/\E 15= .int .i64 (i:Nat)/\
  E 26= .vec (i64z (M.getD i [])) n ci/\E 27= .int .i64 (n:Nat)/\E 28= .int .i64 (j:Nat)) (n:=n)
  ⟨0,rs.getD i [],by omega,hr0,λt ht=>absurd ht (by omega),?_,e0,e1,e5,e6,e13,e14,e15,e26,e27,e28⟩ ?_
 ·congr 1;refine qI (by simp) λt h1 h2=>?_
  rw[xG];split
  ·rename_i e;subst e;rw[qX,qK h1];rfl
  ·rfl
 clear e0 e1 e5 e6 e13 e14 e15 e26 e27 e28 E;rintro k E H ⟨j,r,hjk,hrm,hr,rfl,e0,e1,e5,e6,e13,e14,e15,e26,e27,e28⟩;refine wM ?_;simp only[l141_1,r141_7,SS,reduceIte,e27,e28];refine⟨λhlt=>?_,λhge=>?_⟩
 ·obtain⟨k,rfl⟩:∃k',k=k'+1:=⟨k-1,by omega⟩
  have hj:j<n:=by omega
  have lM:=hS.row i hi;have g1:(i64z (M.getD i [])).getD j .junk= .int .i64 (ent M i j):=zcf _ j (by omega) _;have w5:=wS1 j (by omega);have hset:(rs.set i r).length=i+1:=by simp[hrl]
  have gr:=zfy (N:=n) (n:=n) (i:=i) (rows:=rs.set i r) (by omega);have gri:(rs.set i r).getD i []=r:=by rw[qX,qB (by omega)];rfl
  rw[gri]at gr;have go:getB (bH n n (rs.set i r)) 0=some (outS n n (i+1)):=by rw[zec,hset]
  have gol:=zew (N:=n) (n:=n) (i:=i+1) (by omega);have gog:=zex (N:=n) (n:=n) (i:=i+1) (k:=i) (by omega);have h1:=yB (ent M i j) (show 0<m by omega);have h2:=yC (ent M i j) (show 0<m by omega);have h3:=zX (ent M i j) (show m≠0 by omega);have h4:=yD (ent M i j) (show 0<m by omega);have t1:=qsi (x:=ent M i j) (show 0<m by omega);have w1:IntKind.i64.wrap (Int.tmod (ent M i j) m)=Int.tmod (ent M i j) m:=w64 (by omega) (by omega);have w2:IntKind.i64.wrap (Int.tmod (ent M i j) m+m)=Int.tmod (ent M i j) m+m:=w64 (by omega) (by omega);have w3:IntKind.i64.wrap (ent M i j%m)=ent M i j%m:=w64 (by omega) (by omega);simp only[r141_8,r141_9,SS,fC,reduceIte,qQ,e1,e5,e6,e26,e28,qV,go,gol,gog,lM,g1,zbe,w2,t1,gr,hrm,zdu];refine⟨⟨by omega,by omega⟩,by omega,⟨by omega,by omega⟩,by omega,by omega,by omega,⟨by omega,by omega⟩,by omega,rfl,?_⟩;simp only[r141_10,SS,reduceIte,qQ,e28,w5,zhl];refine⟨k,_,_,by omega,⟨j+1,r.set j (ent M i j%m),by omega,by simp[hrm],λt ht=>?_,?_,?_,?_,?_,?_,?_,?_,?_,?_,?_,?_⟩,.refl⟩
  ·rw[qX];rcases(by omega:t<j\/t=j)with e | e
   ·rw[qR (by omega),<-qX];exact hr t e
   ·rw[e,qB (by omega)];rfl
  ·rw[xO]
  all_goals simp only[UU,qQ,reduceIte, *]
 ·have hjm:j=n:=by omega
  subst hjm;exact hQ _ r hrm hr (by simp only[UU,qQ,e0]) (by simp only[UU,qQ,e1]) (by simp only[UU,qQ,e5]) (by simp only[UU,qQ,e13]) (by simp only[UU,qQ,e14]) (by simp only[UU,qQ,e15])
theorem qgc{T:List (List Int)}{i:Nat}(hi:i<T.length):T.take i++[T.getD i []]=T.take (i+1):=by
 rw[xU,qX,qK hi];rfl
theorem jfz{n:Nat}{M:List (List Int)}{a:AV}(h:ImV M a)(hS:Shp n M)(hn:1<=n/\n<=8){m:Int}(hm:2<=m/\m<=2147483647):Rt 141 [a,.int .i64 m] [] (.vec (zcx n (modM n M m)) n (some n)) []:=by
 have hf:=h.fit;obtain⟨rows,c,rfl,hl,hr⟩:=h.val;have hlen:=hS.len;have hTs:Shp n (modM n M m):=zct _ _;rw[hlen];refine oF o141 ?_;simp only[c141,r141_0,r141_1,SS,reduceCtorEq,reduceIte,qQ,qV];refine⟨by decide,⟨by omega,by omega,by omega,by omega⟩,?_⟩;simp only[r141_2,SS,reduceCtorEq,reduceIte,qQ];have hb0:[some (List.replicate n (AV.vec [] 0 (some 0)))]=bH n n []:=rfl;rw[hb0]
 refine zaf (λk E H=>∃i,i+k=n/\H=bH n n ((modM n M m).take i)/\E 0= .vec rows n c/\E 1= .int .i64 m/\E 5= .sl 0 0 n 1 (some n)/\E 13= .vec rows n c/\E 14= .int .i64 (n:Nat)/\E 15= .int .i64 (i:Nat)) (n:=n)
  ⟨0,by omega,rfl,by simp only[UU,qQ],by simp only[UU,qQ],by simp only[UU,qQ,reduceIte],by simp only[UU,qQ,reduceIte],by simp only[UU,qQ,reduceIte],by simp only[UU,qQ,reduceIte];rfl⟩ ?_
 rintro k E H ⟨i,hik,rfl,e0,e1,e5,e13,e14,e15⟩;refine wM ?_;simp only[l141_0,r141_3,SS,reduceCtorEq,reduceIte,e14,e15];refine⟨λhlt=>?_,λhge=>?_⟩
 ·obtain⟨k,rfl⟩:∃k',k=k'+1:=⟨k-1,by omega⟩
  have hi:i<n:=by omega
  have hTl:=hTs.len;obtain⟨ci,hei⟩:=hr i (by omega);have hci:=hS.row i hi;have htl:((modM n M m).take i).length=i:=by rw[xH];omega
  have w5:=wS1 i (by omega);have hbl:(bH n n ((modM n M m).take i)).length=i+1:=by rw[qct,htl]
  have go:getB (bH n n ((modM n M m).take i)++[some (i64z (List.replicate n 0))]) 0=some (outS n n i):=by
   have:getB (bH n n ((modM n M m).take i)) 0=some (outS n n i):=by rw[zec,htl]
   exact this
  have gol:=zew (N:=n) (n:=n) (i:=i) (by omega);have hnew:=qcu (N:=n) (n:=n) (rows:=(modM n M m).take i) (List.replicate n 0) (by omega);rw[htl]at hnew;simp only[r141_4,r141_5,SS,fC,reduceIte,qQ,e5,e13,e15,qV,hei,hci,hl,hlen,hbl,zkw,go,gol];refine⟨⟨by omega,by omega⟩,by omega,by decide,⟨by omega,by omega,by omega,by omega⟩,⟨by omega,by omega⟩,by omega,?_⟩;rw[hnew];simp only[r141_6,SS,reduceIte,qQ];refine qsj (rows:=rows) (c:=c) hn hS hf hm hi (ci:=ci) (rs:=(modM n M m).take i++[List.replicate n 0]) (by simp;omega) ?_ (by simp only[UU,qQ,e0]) (by simp only[UU,qQ,e1]) (by simp only[UU,qQ,e5]) (by simp only[UU,qQ,reduceIte]) (by simp only[UU,qQ,e13]) (by simp only[UU,qQ,e14]) (by simp only[UU,qQ,e15]) (by simp only[UU,qQ,reduceIte]) (by simp only[UU,qQ,reduceIte]) (by simp only[UU,qQ,reduceIte]) ?_
  ·rw[qX,qD (by omega),htl,qN];simp
  intro E' r hrm hr' f0 f1 f5 f13 f14 f15
  have er:r=(modM n M m).getD i []:=by
   have hTi:=hTs.row i hi;refine qI (by omega) λt h1 h2=>?_
   have h3:=hr' t (by omega);have h4:ent (modM n M m) i t=ent M i t%m:=zco hi (by omega);rw[<-h4]at h3;unfold ent at h3;rw[qX,qK h1,qX (l:=(modM n M m).getD i []),qK h2]at h3;exact h3
  have eset:((modM n M m).take i++[List.replicate n 0]).set i r=(modM n M m).take (i+1):=by
   rw[qG _ _ (by omega),htl,qN,er];exact qgc (by omega)
  rw[eset];simp only[r141_11,SS,reduceCtorEq,reduceIte,qQ,f15,w5];refine⟨k,_,_,by omega,⟨i+1,by omega,rfl,?_,?_,?_,?_,?_,?_⟩,.refl⟩
  all_goals simp only[UU,qQ,reduceIte, *]
 ·have hin:i=n:=by omega
  have htl:(modM n M m).take i=modM n M m:=qA (by rw[hTs.len];omega);rw[htl];simp only[r141_12,SS,reduceIte,qQ,e5];refine⟨.inl trivial,_,rfl,.freeze 3 _ _ _ ?_ (by intro i cs h;omega)⟩;exact qlz hTs.len hTs.row
theorem qgd{n:Nat}{M:List (List Int)}{a:AV}(h:ImV M a)(hS:Shp n M)(hn:1<=n/\n<=8){m:Int}(hm:2<=m/\m<=2147483647):Rt 72 [a,.int .i64 m] [] (.tup [.vec (zcx n (modM n M m)) n (some n),.int .i64 0]) []:=by
 have t1:=qzr h hS hn;have t2:=qzq hm;have t3:=jfz h hS hn hm;have hc:AV.closed (.vec (zcx n (modM n M m)) n (some n))=true:=rfl;obtain⟨rows,c,rfl,hl,hr⟩:=h.val;refine oF o72 ?_;simp only[c72,r72_0,r72_1,SS,reduceCtorEq,reduceIte];refine zaa t1 ?_;simp only[SS,fC,reduceIte,qQ];simp only[r72_3,SS,reduceIte,qQ];refine zaa t2 ?_;simp only[SS,reduceIte,qQ];simp only[r72_4,SS,reduceIte,qQ];refine⟨λhne=>absurd rfl hne,λ_=>?_⟩;simp only[r72_6,SS,reduceCtorEq,reduceIte,qQ];refine zaa t3 ?_;simp only[SS,reduceIte,qQ];exact dR
end Go.Proofs.YtpflahgcdgdkjaaGreatDoor
namespace Go.Count
open Nat renaming le_refl -> qE, zero_add -> qO, add_mod -> xA, mul_mod -> xB, mod_lt -> xP, mul_one -> yZ, add_zero -> yI, zero_mod -> yL
open List renaming getD_eq_getElem?_getD -> qX, getElem?_set_self -> qB, getElem?_append_right -> qD, set_append_right -> qG, replicate_zero -> qH, getElem?_set_ne -> qR, flatMap_cons -> xC, countP_cons -> xI, getElem?_replicate -> xL, foldl_cons -> xT, replicate_succ' -> yW, range_eq_range' -> yV, mem_replicate -> yE, countP_append -> yG, append_assoc -> yM, length_cons -> yO, range'_succ -> yP, range_succ -> yS, nil_append -> zZ, countP_nil -> zJ
open Option renaming map_some -> zQ
open Option.some renaming injEq -> qT
section
variable(g:List (List Nat))(n M:Nat)
def addR(row:List Nat):Nat->Nat->List Nat->List Nat
 |0,_,l=>l
 |k+1,j,l=>addR row k (j+1) (l.set j ((l.getD j 0+row.getD j 0)%M))
def bump:Nat->Nat->Nat->List Nat->List Nat->Option (Nat×List Nat×List Nat)
 |0,_,_,_,_=>none
 |k+1,i,norm,inner,x=>
  if x.getD i 0+1<M then some ((norm+2*inner.getD i 0+(g.getD i []).getD i 0)%M,addR M (g.getD i []) n 0 inner,x.set i (x.getD i 0+1))
  else bump k (i+1) ((norm+2*inner.getD i 0+(g.getD i []).getD i 0)%M) (addR M (g.getD i []) n 0 inner) ((x.set i (x.getD i 0+1)).set i 0)
def runC:Nat->List Nat->Nat->List Nat->List Nat->Option (List Nat)
 |0,_,_,_,_=>none
 |f+1,cts,norm,inner,x=>match bump g n M n 0 norm inner x with
  |none=>some (cts.set norm (cts.getD norm 0+1))
  |some (norm',inner',x')=>runC f (cts.set norm (cts.getD norm 0+1)) norm' inner' x'
end
def ent(g:List (List Nat))(i j:Nat):Nat:=(g.getD i []).getD j 0
def sumN(f:Nat->Nat):Nat->Nat
 |0=>0
 |n+1=>sumN f n+f n
def gx(g:List (List Nat))(n:Nat)(x:List Nat)(j:Nat):Nat:=sumN (λi=>ent g i j*x.getD i 0) n
def nrm(g:List (List Nat))(n:Nat)(x:List Nat):Nat:=sumN (λj=>gx g n x j*x.getD j 0) n
theorem zmc{f h:Nat->Nat}{n:Nat}(e:∀i,i<n->f i=h i):sumN f n=sumN h n:=by
 induction n with
 |zero=>rfl
 |succ n ih=>simp only[sumN];rw[ih (λi hi=>e i (by omega)),e n (by omega)]
theorem zno(f h:Nat->Nat)(n:Nat):sumN (λi=>f i+h i) n=sumN f n+sumN h n:=by
 induction n with
 |zero=>rfl
 |succ n ih=>simp only[sumN,ih];omega
theorem zkx{f:Nat->Nat}{n:Nat}(e:∀i,i<n->f i=0):sumN f n=0:=by
 induction n with
 |zero=>rfl
 |succ n ih=>simp only[sumN];rw[ih (λi hi=>e i (by omega)),e n (by omega)]
theorem qcv{f:Nat->Nat}{n i:Nat}(hi:i<n)(e:∀j,j<n->j≠i->f j=0):sumN f n=f i:=by
 induction n with
 |zero=>omega
 |succ n ih=>
  simp only[sumN];by_cases h:i=n
  ·subst h;rw[zkx (λj hj=>e j (by omega) (by omega)),qO]
  ·rw[ih (by omega) (λj hj hne=>e j (by omega) hne),e n (by omega) (by omega),yI]
theorem qcw{f h:Nat->Nat}{n M:Nat}(e:∀i,i<n->f i%M=h i%M):sumN f n%M=sumN h n%M:=by
 induction n with
 |zero=>rfl
 |succ n ih=>
  simp only[sumN];rw[xA,ih (λi hi=>e i (by omega)),e n (by omega),<-xA]
theorem zky{x:List Nat}{i j a:Nat}(hi:i<x.length):(x.set i a).getD j 0=if j=i then a else x.getD j 0:=by
 rw[qX];by_cases h:j=i
 ·subst h;rw[qB hi,if_pos rfl];rfl
 ·rw[qR (λe=>h e.symm),if_neg h,qX]
theorem qma{g:List (List Nat)}{n i j:Nat}{x:List Nat}(hx:x.length=n)(hi:i<n):gx g n (x.set i (x.getD i 0+1)) j=gx g n x j+ent g i j:=by
 unfold gx
 have e:sumN (λk=>ent g k j*(x.set i (x.getD i 0+1)).getD k 0) n=sumN (λk=>ent g k j*x.getD k 0+(if k=i then ent g i j else 0)) n:=by
  refine zmc λk _=>?_
  rw[zky (by omega)];split
  ·rename_i h;subst h;rw[Nat.mul_add,yZ]
  ·rw[yI]
 rw[e,zno,qcv hi (f:=λk=>if k=i then ent g i j else 0) (λk _ hne=>if_neg hne),if_pos rfl]
theorem qsk{g:List (List Nat)}{n i:Nat}{x:List Nat}(hx:x.length=n)(hi:i<n)(hs:∀j k,j<n->k<n->ent g j k=ent g k j):
  nrm g n (x.set i (x.getD i 0+1))=nrm g n x+2*gx g n x i+ent g i i:=by
 unfold nrm
 have e:sumN (λj=>gx g n (x.set i (x.getD i 0+1)) j*(x.set i (x.getD i 0+1)).getD j 0) n=sumN (λj=>gx g n x j*x.getD j 0+(ent g j i*x.getD j 0+(if j=i then gx g n x i+ent g i i else 0))) n:=by
  refine zmc λj hj=>?_
  rw[qma hx hi,zky (by omega),hs j i hj hi];split
  ·rename_i h;subst h;simp only[Nat.add_mul,Nat.mul_add,yZ];omega
  ·simp only[Nat.add_mul,yI]
 rw[e,zno,zno,qcv hi (f:=λj=>if j=i then gx g n x i+ent g i i else 0) (λk _ hne=>if_neg hne),if_pos rfl];have:sumN (λj=>ent g j i*x.getD j 0) n=gx g n x i:=rfl;omega
theorem qvh{g:List (List Nat)}{n j M:Nat}{x y:List Nat}(h:∀i,i<n->x.getD i 0%M=y.getD i 0%M):gx g n x j%M=gx g n y j%M:=
 qcw λi hi=>by rw[xB,h i hi,<-xB]
theorem qzs{g:List (List Nat)}{n M:Nat}{x y:List Nat}(h:∀i,i<n->x.getD i 0%M=y.getD i 0%M):nrm g n x%M=nrm g n y%M:=
 qcw λi hi=>by rw[xB,qvh h,h i hi,<-xB]
theorem qsl(M:Nat)(row:List Nat):∀(k j:Nat) (l:List Nat),(addR M row k j l).length=l.length:=by
 intro k
 induction k with
 |zero=>intro j l;rfl
 |succ k ih=>intro j l;simp only[addR];rw[ih];simp
theorem qsm{M:Nat}(row:List Nat):∀(k j:Nat) (l:List Nat),j+k<=l.length->∀i,(addR M row k j l).getD i 0=if j<=i/\i<j+k then(l.getD i 0+row.getD i 0)%M else l.getD i 0:=by
 intro k
 induction k with
 |zero=>intro j l _ i;simp only[addR];rw[if_neg (by omega)]
 |succ k ih=>
  intro j l h i;simp only[addR];rw[ih _ _ (by simp;omega),zky (by omega)];by_cases h1:i=j
  ·subst h1;rw[if_neg (by omega),if_pos rfl,if_pos (by omega)]
  ·rw[if_neg h1];by_cases h2:j+1<=i/\i<j+1+k
   ·rw[if_pos h2,if_pos (by omega)]
   ·rw[if_neg h2,if_neg (by omega)]
structure At(g:List (List Nat))(n M:Nat)(norm:Nat)(inner x:List Nat):Prop where
 xlen:x.length=n
 ilen:inner.length=n
 norm:norm=nrm g n x%M
 inner:∀j,j<n->inner.getD j 0=gx g n x j%M
theorem qzt{g:List (List Nat)}{n M norm:Nat}{inner x:List Nat}{i:Nat}(h:At g n M norm inner x)(hi:i<n)(hs:∀j k,j<n->k<n->ent g j k=ent g k j):
  At g n M ((norm+2*inner.getD i 0+(g.getD i []).getD i 0)%M) (addR M (g.getD i []) n 0 inner) (x.set i (x.getD i 0+1)):=by
 refine⟨by simp[h.xlen],by rw[qsl,h.ilen],?_,λj hj=>?_⟩
 ·rw[qsk h.xlen hi hs,h.norm,h.inner i hi];show(nrm g n x%M+2*(gx g n x i%M)+ent g i i)%M=_
  simp only[xA,xB,Nat.mod_mod]
 ·rw[qsm _ _ _ _ (by rw[h.ilen];omega),if_pos (by omega),h.inner j hj,qma h.xlen hi];show(gx g n x j%M+ent g i j)%M=_
  rw[xA,Nat.mod_mod,<-xA]
theorem qzu{g:List (List Nat)}{n M norm:Nat}{inner x:List Nat}{i:Nat}(h:At g n M norm inner x)(hi:i<n)(hM:x.getD i 0%M=0):At g n M norm inner (x.set i 0):=by
 have e:∀k,k<n->(x.set i 0).getD k 0%M=x.getD k 0%M:=by
  intro k hk;rw[zky (by rw[h.xlen];exact hi)];split
  ·rename_i e;subst e;rw[hM,yL]
  ·rfl
 exact⟨by simp[h.xlen],h.ilen,by rw[qzs e];exact h.norm,λj hj=>by rw[qvh e];exact h.inner j hj⟩
def inc(M:Nat):List Nat->Option (List Nat)
 | []=>none
 |a::r=>if a+1<M then some ((a+1)::r)else(inc M r).map (0:: ·)
theorem qmb{g:List (List Nat)}{n M:Nat}(hM:0<M)(hs:∀j k,j<n->k<n->ent g j k=ent g k j):∀(r:List Nat) (i norm:Nat) (inner:List Nat),i+r.length=n->(∀a∈r,a<M)->At g n M norm inner (List.replicate i 0++r)->
  match inc M r with
  |none=>bump g n M r.length i norm inner (List.replicate i 0++r)=none
  |some r'=>∃norm' inner',bump g n M r.length i norm inner (List.replicate i 0++r)=some (norm',inner',List.replicate i 0++r')/\At g n M norm' inner' (List.replicate i 0++r'):=by
 intro r
 induction r with
 |nil=>intro i norm inner _ _ _;rfl
 |cons a r ih=>
  intro i norm inner hl ha h;have hi:i<n:=by simp at hl;omega
  have hst:=qzt h hi hs
  have hg:(List.replicate i 0++a::r).getD i 0=a:=by
   rw[qX,qD (by simp)];simp
  have hset:∀b:Nat,(List.replicate i 0++a::r).set i b=List.replicate i 0++b::r:=by
   intro b;rw[qG _ _ (by simp)];simp
  rw[hg,hset]at hst;simp only[inc,yO,bump,hg,hset];by_cases hlt:a+1<M
  ·simp only[if_pos hlt];exact⟨_,_,rfl,hst⟩
  ·simp only[if_neg hlt];have haM:a+1=M:=by have:=ha a (by simp);omega
   have hset2:(List.replicate i 0++(a+1)::r).set i 0=List.replicate (i+1) 0++r:=by
    rw[qG _ _ (by simp),yW,yM];simp
   have hg2:(List.replicate i 0++(a+1)::r).getD i 0=a+1:=by
    rw[qX,qD (by simp)];simp
   have hw:=qzu hst hi (by rw[hg2,haM,Nat.mod_self]);rw[hset2]at hw ⊢;have:=ih (i+1) _ _ (by simp at hl;omega) (λb hb=>ha b (by simp[hb])) hw;cases hinc:inc M r with
   |none=>rw[hinc]at this;exact this
   |some r'=>
    rw[hinc]at this;obtain⟨norm',inner',h1,h2⟩:=this;have e:List.replicate (i+1) 0++r'=List.replicate i 0++0::r':=by rw[yW,yM];rfl
    rw[e]at h1 h2;exact⟨norm',inner',h1,h2⟩
def allV(M:Nat):Nat->List (List Nat)
 |0=>[[]]
 |n+1=>(allV M n).flatMap λr=>(List.range M).map λa=>a::r
inductive Chain(M:Nat):List Nat->List (List Nat)->Prop
 |last {x:List Nat}:inc M x=none->Chain M x [x]
 |next {x y:List Nat} {l:List (List Nat)}:inc M x=some y->Chain M y l->Chain M x (x::l)
theorem qge{M:Nat}{r:List Nat}{l:List (List Nat)}(h:Chain M r l):∀(k a:Nat),a+k+1=M->Chain M (a::r) (((List.range' a (k+1)).map λb=>b::r)++l.tail.flatMap λs=>(List.range M).map λb=>b::s):=by
 induction h with
 |last hn=>
  rename_i x;intro k
  induction k with
  |zero=>
   intro a ha;refine .last ?_;simp only[inc];rw[if_neg (by omega),hn];rfl
  |succ k ih=>
   intro a ha;rw[yP];refine .next (y:=(a+1)::x) ?_ (ih (a+1) (by omega));simp only[inc];rw[if_pos (by omega)]
 |next hn hc ih0=>
  rename_i x y l;intro k
  induction k with
  |zero=>
   intro a ha;have:=ih0 (M-1) 0 (by omega);refine .next (y:=0::y) ?_ ?_
   ·simp only[inc];rw[if_neg (by omega),hn];rfl
   ·have e:(List.range' 0 (M-1+1)).map (λb=>b::y)=(List.range M).map λb=>b::y:=by
     rw[yV,show M-1+1=M by omega]
    rw[e]at this;cases hc with
    |last h1=>simpa using this
    |next h1 h2=>simpa using this
  |succ k ih=>
   intro a ha;rw[yP];refine .next (y:=(a+1)::x) ?_ (ih (a+1) (by omega));simp only[inc];rw[if_pos (by omega)]
theorem qgf{M:Nat}{x:List Nat}{l:List (List Nat)}(h:Chain M x l):l=x::l.tail:=by
 cases h<;>rfl
theorem qmc{M:Nat}(hM:0<M):∀n,Chain M (List.replicate n 0) (allV M n):=by
 intro n
 induction n with
 |zero=>exact .last rfl
 |succ n ih=>
  have:=qge ih (M-1) 0 (by omega);have h2:=qgf ih
  have e:allV M (n+1)=((List.range' 0 (M-1+1)).map λb=>b::List.replicate n 0)++(allV M n).tail.flatMap λs=>(List.range M).map λb=>b::s:=by
   show(allV M n).flatMap _=_
   rw[h2,xC,show M-1+1=M by omega,<-yV];rw[<-h2]
  rw[e];exact this
def zqq(c:List Nat)(s:Nat):List Nat:=c.set s (c.getD s 0+1)
theorem qmd{g:List (List Nat)}{n M:Nat}(hM:0<M)(hs:∀j k,j<n->k<n->ent g j k=ent g k j){x:List Nat}{l:List (List Nat)}(h:Chain M x l):
  ∀{f norm:Nat} {inner cts:List Nat},l.length<=f->(∀a∈x,a<M)->At g n M norm inner x->runC g n M f cts norm inner x=some (l.foldl (λc y=>zqq c (nrm g n y%M)) cts):=by
 induction h with
 |last hn=>
  rename_i x;intro f norm inner cts hf hx ha;obtain⟨f,rfl⟩:∃k,f=k+1:=⟨f-1,by simp at hf;omega⟩
  have:=qmb hM hs x 0 norm inner (by rw[qO];exact ha.xlen) hx (by simpa using ha);rw[hn]at this;simp only[qH,zZ,ha.xlen]at this;simp only[runC,this,xT,List.foldl_nil,zqq];rw[<-ha.norm]
 |next hn hc ih=>
  rename_i x y l;intro f norm inner cts hf hx ha;obtain⟨f,rfl⟩:∃k,f=k+1:=⟨f-1,by simp at hf;omega⟩
  have:=qmb hM hs x 0 norm inner (by rw[qO];exact ha.xlen) hx (by simpa using ha);rw[hn]at this;simp only[qH,zZ,ha.xlen]at this;obtain⟨norm',inner',h1,h2⟩:=this
  have hy:∀a∈y,a<M:=by
   have key:∀(r r':List Nat),(∀a∈r,a<M)->inc M r=some r'->∀a∈r',a<M:=by
    intro r
    induction r with
    |nil=>intro r' _ h;simp[inc]at h
    |cons b r ihr=>
     intro r' hr h;simp only[inc]at h;split at h
     ·simp only[qT]at h;subst h;intro a ha;rcases List.mem_cons.1 ha with e | e
      ·omega
      ·exact hr a (by simp[e])
     ·cases hi:inc M r with
      |none=>rw[hi]at h;simp at h
      |some s=>
       rw[hi]at h;simp only[zQ,qT]at h;subst h;intro a ha;rcases List.mem_cons.1 ha with e | e
       ·omega
       ·exact ihr s (λc hc=>hr c (by simp[hc])) hi a e
   exact key _ _ hx hn
  have hr:=ih (f:=f) (cts:=zqq cts (nrm g n x%M)) (by simp at hf;omega) hy h2;simp only[runC,h1,xT,<-ha.norm]at hr ⊢;rw[<-hr];rfl
theorem qme(c:List Nat)(s:Nat):(zqq c s).length=c.length:=by simp[zqq]
theorem qmf{c:List Nat}{s t:Nat}(hs:s<c.length):(zqq c s).getD t 0=c.getD t 0+if t=s then 1 else 0:=by
 unfold zqq;rw[zky hs];split
 ·rename_i h;subst h;rfl
 ·rfl
theorem qai(f:List Nat->Nat)(M:Nat):∀(l:List (List Nat)) (c:List Nat),c.length=M->(∀y∈l,f y<M)->(l.foldl (λc y=>zqq c (f y)) c).length=M/\∀t,(l.foldl (λc y=>zqq c (f y)) c).getD t 0=c.getD t 0+l.countP λy=>decide (f y=t):=by
 intro l
 induction l with
 |nil=>intro c hc _;exact⟨hc,λt=>by simp⟩
 |cons y l ih=>
  intro c hc hf;obtain⟨h1,h2⟩:=ih (zqq c (f y)) ((qme _ _).trans hc) (λz hz=>hf z (by simp[hz]));refine⟨h1,λt=>?_⟩;rw[xT,h2,qmf (by rw[hc];exact hf y (by simp)),xI];by_cases h:t=f y
  ·rw[if_pos h,decide_eq_true h.symm];simp;omega
  ·rw[if_neg h,decide_eq_false (λe=>h e.symm)];simp
theorem allV_len(M:Nat):∀n,(allV M n).length=M^n:=by
 intro n
 induction n with
 |zero=>rfl
 |succ n ih=>
  have:∀l:List (List Nat),(l.flatMap λr=>(List.range M).map λa=>a::r).length=l.length*M:=by
   intro l
   induction l with
   |nil=>simp
   |cons x l ihl=>rw[xC,List.length_append,ihl,yO,Nat.succ_mul];simp;omega
  show(List.flatMap _ _).length=_
  rw[this,ih,Nat.pow_succ]
theorem qzv{g:List (List Nat)}{n M:Nat}:At g n M 0 (List.replicate n 0) (List.replicate n 0):=by
 have hz:∀k,(List.replicate n 0).getD k 0=0:=by
  intro k;rw[qX,xL];split<;>rfl
 have e:∀j,gx g n (List.replicate n 0) j=0:=λj=>zkx λi _=>by rw[hz,Nat.mul_zero]
 refine⟨by simp,by simp,?_,λj _=>by rw[hz,e,yL]⟩;unfold nrm;rw[zkx λi _=>by rw[hz,Nat.mul_zero],yL]
theorem runC_ok{g:List (List Nat)}{n M:Nat}(hM:0<M)(hs:∀j k,j<n->k<n->ent g j k=ent g k j):∃fin,runC g n M (M^n) (List.replicate M 0) 0 (List.replicate n 0) (List.replicate n 0)=some fin/\fin.length=M/\
  ∀t,fin.getD t 0=(allV M n).countP λy=>decide (nrm g n y%M=t):=by
 have h:=qmd hM hs (qmc hM n) (f:=M^n) (cts:=List.replicate M 0) (by rw[allV_len];exact qE _) (λa ha=>by rw[yE]at ha;omega) qzv;obtain⟨h1,h2⟩:=qai (λy=>nrm g n y%M) M (allV M n) (List.replicate M 0) (by simp) (λy _=>xP _ hM);refine⟨_,h,h1,λt=>?_⟩;rw[h2]
 have:(List.replicate M 0).getD t 0=0:=by
  rw[qX,xL];split<;>rfl
 omega
theorem zjr(P:List Nat->Bool)(M:Nat):∀l:List (List Nat),(l.flatMap λr=>(List.range M).map λa=>a::r).countP P=sumN (λa=>l.countP λr=>P (a::r)) M:=by
 intro l
 induction l with
 |nil=>simp only[List.flatMap_nil,zJ];exact(zkx λ_ _=>rfl).symm
 |cons x l ih=>
  rw[xC,yG,ih]
  have e:((List.range M).map λa=>a::x).countP P=sumN (λa=>if P (a::x)then 1 else 0) M:=by
   clear ih
   induction M with
   |zero=>rfl
   |succ M ihM=>
    rw[yS,List.map_append,yG,ihM];simp only[sumN,List.map_cons,List.map_nil,xI,zJ,qO]
  rw[e,<-zno];refine zmc λa _=>?_
  rw[xI];omega
end Go.Count
namespace Go.Proofs.YtpflahgcdgdkjaaGreatDoor
open Nat renaming reduceEqDiff -> qQ, reduceAdd -> qJ, le_refl -> qE, mod_lt -> xP
open List renaming getD_eq_getElem?_getD -> qX, getElem?_eq_getElem -> qK, getElem?_cons_succ -> qY, getElem?_cons_zero -> qU, take_of_length_le -> qA, getElem?_set_self -> qB, getElem_mem -> xX, mem_or_eq_of_mem_set -> xV, set_set -> xO, length_set -> xR, drop_zero -> yJ, mapM_cons -> yK, mem_replicate -> yE, map_set -> yH
open Int renaming toNat_natCast -> qV, natCast_add -> yQ
open Go Go.AL Go.Proofs Go.Count
def ints(l:List Nat):List AV:=l.map λ(n:Nat)=>AV.int .i64 (n:Int)
theorem zhf(l:List Nat):(ints l).length=l.length:=by simp[ints]
theorem qsn(l:List Nat)(i:Nat)(h:i<l.length):(ints l)[i]?=some (.int .i64 ((l.getD i 0:Nat):Int)):=by
 simp[ints,h]
theorem zfa(l:List Nat)(i:Nat)(h:i<l.length)(d:AV):(ints l).getD i d= .int .i64 ((l.getD i 0:Nat):Int):=by
 rw[qX,qsn l i h];rfl
theorem zui(l:List Nat)(i a:Nat):(ints l).set i (.int .i64 (a:Int))=ints (l.set i a):=by
 simp[ints,yH]
theorem zpv{a:Nat}(h:a<2^63):IntKind.i64.wrap ((a:Nat):Int)=(a:Int):=by
 simp[IntKind.wrap,IntKind.bits,IntKind.signed];omega
theorem jga{nt n M:Nat}(hM:0<M)(hM2:M<2^40)(hn:n<2^20){row:List Nat}{cr:Option Nat}(hrl:row.length=n)(hrow:∀a∈row,a<M)(cts xs:List AV)(fin:List Nat)(E0:Env):
  ∀{E:Env} {H:Heap} {Q:Post} (inner:List Nat),inner.length=n->(∀a∈inner,a<M)->addR M row n 0 inner=fin->
   (∀t,t∉[58,59,60,61,62,13,14,63,64,65,66,67,68,69,70,71,72,73,74]->E t=E0 t)->E 58= .int .i64 0->E0 57= .int .i64 n->E0 56= .vec (ints row) n cr->E0 9= .sl 2 0 n 1 (some n)->E0 1= .int .i64 M->
   H=[some cts,some xs,some (ints inner)]->
   (∀E',(∀t,t∉[58,59,60,61,62,13,14,63,64,65,66,67,68,69,70,71,72,73,74]->E' t=E0 t)->Q (.exit 2) E' [some cts,some xs,some (ints fin)])->
   Wg 0 nt (.loop l28_1) E H Q:=by
 intro E H Q inner hil hin hfin hE h58 h57 h56 h9 h1 hH hQ
 refine zaf (λk E H=>∃j inner,j+k=n/\inner.length=n/\(∀a∈inner,a<M)/\addR M row k j inner=fin/\
  (∀t,t∉[58,59,60,61,62,13,14,63,64,65,66,67,68,69,70,71,72,73,74]->E t=E0 t)/\E 58= .int .i64 (j:Int)/\H=[some cts,some xs,some (ints inner)]) ⟨0,inner,by omega,hil,hin,hfin,hE,h58,hH⟩ ?_
 rintro k E H ⟨j,inner,hjk,hil,hin,hfin,hE,h58,rfl⟩;refine wM ?_;have e57:E 57= .int .i64 n:=(hE 57 (by decide)).trans h57;have e56:E 56= .vec (ints row) n cr:=(hE 56 (by decide)).trans h56;have e9:E 9= .sl 2 0 n 1 (some n):=(hE 9 (by decide)).trans h9;have e1:E 1= .int .i64 M:=(hE 1 (by decide)).trans h1;simp only[l28_1,r28_12,SS,reduceIte,h58,e57]
 have hup:∀(E':Env) (d:Nat) (v:AV),d∈[58,59,60,61,62,13,14,63,64,65,66,67,68,69,70,71,72,73,74]->(∀t,t∉[58,59,60,61,62,13,14,63,64,65,66,67,68,69,70,71,72,73,74]->E' t=E0 t)->
   ∀t,t∉[58,59,60,61,62,13,14,63,64,65,66,67,68,69,70,71,72,73,74]->upd E' d v t=E0 t:=by
  intro E' d v hd h t ht;unfold upd;rw[if_neg (λe:t=d=>ht (by rw[e];exact hd))];exact h t ht
 refine⟨λhlt=>?_,λhnl=>?_⟩
 ·have hj:j<n:=by omega
  have hij:inner.getD j 0<M:=by
   rw[qX,qK (by omega)];exact hin _ (xX _)
  have hrj:row.getD j 0<M:=by
   rw[qX,qK (by omega)];exact hrow _ (xX _)
  have gi:=zfa inner j (by omega) AV.junk;have gr:=zfa row j (by omega) AV.junk
  have w1:IntKind.i64.wrap (((inner.getD j 0:Nat):Int)+((row.getD j 0:Nat):Int))=((inner.getD j 0+row.getD j 0:Nat):Int):=by
   rw[<-yQ];exact zpv (by omega)
  have w2:IntKind.i64.wrap ((j:Int)+1)=((j+1:Nat):Int):=by
   have:((j:Int)+1)=((j+1:Nat):Int):=by omega
   rw[this];exact zpv (by omega)
  have w3:Int.tmod ((inner.getD j 0+row.getD j 0:Nat):Int) (M:Int)=(((inner.getD j 0+row.getD j 0)%M:Nat):Int):=rfl;simp only[r28_13,r28_14,r28_15,SS,fC,reduceIte,qQ,h58,e56,e9,e1,qV,gi,gr,zhf,w1,w2,w3,zui];refine⟨⟨by omega,hlt⟩,by omega,⟨by omega,hlt⟩,by omega,by omega,⟨by omega,hlt⟩,by omega,?_⟩;obtain⟨k',rfl⟩:∃k',k=k'+1:=⟨k-1,by omega⟩
  refine⟨k',_,_,by omega,⟨j+1,inner.set j ((inner.getD j 0+row.getD j 0)%M),by omega,by simp[hil],?_,hfin,?_,rfl,rfl⟩,.refl⟩
  ·intro a ha;rcases xV ha with h | h
   ·exact hin a h
   ·subst h;exact xP _ hM
  ·repeat (refine hup _ _ _ (by decide) ?_)
   exact hE
 ·have hj:j=n:=by omega
  have hk:k=0:=by omega
  subst hk;have:inner=fin:=hfin;subst this;exact hQ _ (hup _ _ _ (by decide) hE)
structure PE(n M:Nat)(rows:List AV)(cg:Option Nat)(v5 v7:AV)(E:Env):Prop where
 e1:E 1= .int .i64 M
 e5:E 5=v5
 e7:E 7=v7
 e8:E 8= .sl 1 0 n 1 (some n)
 e9:E 9= .sl 2 0 n 1 (some n)
 e35:E 35= .vec rows n cg
 e36:E 36= .int .i64 n
theorem zuj{l:List Nat}{M i:Nat}(h:∀a∈l,a<M)(hi:i<l.length):l.getD i 0<M:=by
 rw[qX,qK hi];exact h _ (xX _)
theorem qcx{l:List Nat}{M i b:Nat}(h:∀a∈l,a<M)(hb:b<M):∀a∈l.set i b,a<M:=by
 intro a ha;rcases xV ha with h' | h'
 ·exact h a h'
 ·subst h';exact hb
theorem qzw{M:Nat}(hM:0<M)(row:List Nat):∀(k j:Nat) (l:List Nat),(∀a∈l,a<M)->(addR M row k j l).length=l.length/\∀a∈addR M row k j l,a<M:=by
 intro k
 induction k with
 |zero=>intro j l h;exact⟨rfl,h⟩
 |succ k ih=>
  intro j l h;obtain⟨h1,h2⟩:=ih (j+1) (l.set j ((l.getD j 0+row.getD j 0)%M)) (qcx h (xP _ hM));exact⟨h1.trans (by simp),h2⟩
theorem jgb{nt n M:Nat}(hM:0<M)(hM2:M<2^40)(hn:n<2^20){g:List (List Nat)}{rows:List AV}{cg:Option Nat}(hrl:rows.length=n)(hrows:∀i,i<n->∃c,rows[i]?=some (.vec (ints (g.getD i [])) n c))
  (hgl:∀i,i<n->(g.getD i []).length=n) (hgM:∀i,i<n->∀a∈g.getD i [],a<M) (v5 v7:AV) (cts:List AV) (res:Option (Nat×List Nat×List Nat))
  {E:Env} {H:Heap} {Q:Post} (norm:Nat) (inner x:List Nat) (hno:norm<M) (hil:inner.length=n) (hin:∀a∈inner,a<M) (hxl:x.length=n) (hx:∀a∈x,a<M) (hres:bump g n M n 0 norm inner x=res)
  (hE:PE n M rows cg v5 v7 E) (h37:E 37= .int .i64 0) (h10:E 10= .int .i64 norm) (hH:H=[some cts,some (ints x),some (ints inner)])
  (hQ1:res=none->∀E' a b,PE n M rows cg v5 v7 E'->Q (.exit 0) E' [some cts,some a,some b])
  (hQ2:∀norm' inner' x',res=some (norm',inner',x')->norm'<M->inner'.length=n->(∀a∈inner',a<M)->x'.length=n->(∀a∈x',a<M)->∀E',PE n M rows cg v5 v7 E'->E' 10= .int .i64 (norm':Int)->
   Q (.goto 0) E' [some cts,some (ints x'),some (ints inner')]):
  Wg 0 nt (.loop l28_0) E H Q:=by
 refine zaf (λk E H=>∃i norm inner x,i+k=n/\norm<M/\inner.length=n/\(∀a∈inner,a<M)/\x.length=n/\(∀a∈x,a<M)/\bump g n M k i norm inner x=res/\PE n M rows cg v5 v7 E/\
  E 37= .int .i64 (i:Int)/\E 10= .int .i64 (norm:Int)/\H=[some cts,some (ints x),some (ints inner)]) ⟨0,norm,inner,x,by omega,hno,hil,hin,hxl,hx,hres,hE,h37,h10,hH⟩ ?_
 rintro k E H ⟨i,norm,inner,x,hik,hno,hil,hin,hxl,hx,hres,hE,h37,h10,rfl⟩;refine wM ?_;obtain⟨e1,e5,e7,e8,e9,e35,e36⟩:=hE;simp only[l28_0,r28_8,SS,reduceIte,h37,e36];refine⟨λhlt=>?_,λhnl=>?_⟩
 ·have hi:i<n:=by omega
  obtain⟨k',rfl⟩:∃k',k=k'+1:=⟨k-1,by omega⟩
  obtain⟨cr,hr⟩:=hrows i hi;have hrD:rows.getD i AV.junk= .vec (ints (g.getD i [])) n cr:=by rw[qX,hr];rfl
  have gi:=zfa inner i (by omega) AV.junk;have gr:=zfa (g.getD i []) i (by rw[hgl i hi];exact hi) AV.junk;have bi:=zuj hin (i:=i) (by omega);have br:=zuj (hgM i hi) (i:=i) (by rw[hgl i hi];exact hi)
  have w1:IntKind.i64.wrap (2*((inner.getD i 0:Nat):Int))=((2*inner.getD i 0:Nat):Int):=by
   have:(2*((inner.getD i 0:Nat):Int))=((2*inner.getD i 0:Nat):Int):=by omega
   rw[this];exact zpv (by omega)
  have w2:IntKind.i64.wrap ((norm:Int)+((2*inner.getD i 0:Nat):Int))=((norm+2*inner.getD i 0:Nat):Int):=by
   rw[<-yQ];exact zpv (by omega)
  have w3:IntKind.i64.wrap (((norm+2*inner.getD i 0:Nat):Int)+(((g.getD i []).getD i 0:Nat):Int))=((norm+2*inner.getD i 0+(g.getD i []).getD i 0:Nat):Int):=by
   rw[<-yQ];exact zpv (by omega)
  have w4:Int.tmod ((norm+2*inner.getD i 0+(g.getD i []).getD i 0:Nat):Int) (M:Int)=(((norm+2*inner.getD i 0+(g.getD i []).getD i 0)%M:Nat):Int):=rfl;simp only[r28_9,r28_10,r28_11,SS,fC,reduceIte,qQ,h37,h10,e1,e9,e35,qV,hrD,gi,gr,zhf,hrl,hil,hgl i hi,w1,w2,w3,w4];refine⟨⟨by omega,hlt⟩,by omega,⟨by omega,hlt⟩,by omega,⟨by omega,hlt⟩,by omega,by omega,rfl,?_⟩;refine jga hM hM2 hn (hgl i hi) (hgM i hi) cts (ints x) (addR M (g.getD i []) n 0 inner) _ inner hil hin rfl (λ_ _=>rfl) rfl rfl rfl e9 e1 rfl ?_;intro E' hE';have f1:E' 1= .int .i64 M:=(hE' 1 (by decide)).trans e1;have f5:E' 5=v5:=(hE' 5 (by decide)).trans e5;have f7:E' 7=v7:=(hE' 7 (by decide)).trans e7;have f8:E' 8= .sl 1 0 n 1 (some n):=(hE' 8 (by decide)).trans e8;have f9:E' 9= .sl 2 0 n 1 (some n):=(hE' 9 (by decide)).trans e9;have f35:E' 35= .vec rows n cg:=(hE' 35 (by decide)).trans e35;have f36:E' 36= .int .i64 n:=(hE' 36 (by decide)).trans e36;have f37:E' 37= .int .i64 (i:Int):=(hE' 37 (by decide)).trans h37;have f10:E' 10= .int .i64 (((norm+2*inner.getD i 0+(g.getD i []).getD i 0)%M:Nat):Int):=(hE' 10 (by decide)).trans rfl;have f11:E' 11= .int .i64 (i:Int):=(hE' 11 (by decide)).trans rfl;clear hE';have gx:=zfa x i (by omega) AV.junk;have bx:=zuj hx (i:=i) (by omega);have gx2:=zfa (x.set i (x.getD i 0+1)) i (by simp;omega) AV.junk
  have hx2:(x.set i (x.getD i 0+1)).getD i 0=x.getD i 0+1:=by
   rw[qX,qB (by omega)];rfl
  rw[hx2]at gx2
  have w5:IntKind.i64.wrap (((x.getD i 0:Nat):Int)+1)=((x.getD i 0+1:Nat):Int):=by
   have:(((x.getD i 0:Nat):Int)+1)=((x.getD i 0+1:Nat):Int):=by omega
   rw[this];exact zpv (by omega)
  have w6:IntKind.i64.wrap ((i:Int)+1)=((i+1:Nat):Int):=by
   have:((i:Int)+1)=((i+1:Nat):Int):=by omega
   rw[this];exact zpv (by omega)
  have z0:AV.int .i64 0=AV.int .i64 ((0:Nat):Int):=rfl;obtain⟨ral,ram⟩:=qzw hM (g.getD i []) n 0 inner hin;simp only[bump]at hres;simp only[r28_16,r28_17,r28_18,r28_19,SS,fC,reduceIte,qQ,f1,f8,f11,f37,qV,gx,zhf,hxl,w5,w6,zui,gx2,xR,z0];refine⟨⟨by omega,hlt⟩,by omega,⟨by omega,hlt⟩,by omega,⟨by omega,hlt⟩,by omega,λhl=>?_,λhl=>?_⟩
  ·have hl':x.getD i 0+1<M:=by omega
   rw[if_pos hl']at hres;refine hQ2 _ _ _ hres.symm (xP _ hM) (ral.trans hil) ram (by simp[hxl]) (qcx hx (by omega)) _ ⟨?_,?_,?_,?_,?_,?_,?_⟩ ?_<;>simp only[zon,qQ,if_false, *]
  ·have hl':¬x.getD i 0+1<M:=by omega
   rw[if_neg hl']at hres;refine⟨⟨by omega,hlt⟩,by omega,?_⟩;refine⟨k',_,_,by omega,⟨i+1,_,_,_,by omega,xP _ hM,ral.trans hil,ram,by simp[hxl],(by rw[xO];exact qcx hx hM),hres,⟨?_,?_,?_,?_,?_,?_,?_⟩,?_,?_,rfl⟩,.refl⟩<;>simp only[zon,qQ,reduceIte,if_false, *]
 ·have hi:i=n:=by omega
  have hk:k=0:=by omega
  subst hk;refine hQ1 hres.symm _ _ _ ⟨?_,?_,?_,?_,?_,?_,?_⟩<;>simp only[zon,qQ,if_false, *]
def J79(g:List (List Nat))(n M F:Nat)(rows:List AV)(cg:Option Nat)(fin:List Nat)(f:Nat)(E:Env)(H:Heap):Prop:=
 ∃cts norm inner x,cts.length=M/\(∀a∈cts,a<F-f+1)/\f<=F/\norm<M/\inner.length=n/\(∀a∈inner,a<M)/\x.length=n/\(∀a∈x,a<M)/\runC g n M f cts norm inner x=some fin/\
  E 1= .int .i64 (M:Int)/\E 5= .vec rows n cg/\E 7= .sl 0 0 M 1 (some M)/\E 8= .sl 1 0 n 1 (some n)/\E 9= .sl 2 0 n 1 (some n)/\E 10= .int .i64 (norm:Int)/\H=[some (ints cts),some (ints x),some (ints inner)]
theorem qvi{g:List (List Nat)}{n M F:Nat}{rows:List AV}{cg:Option Nat}{fin:List Nat}(hM:0<M)(hM2:M<2^40)(hn:n<2^20)(hF:F<2^60)
  (hrl:rows.length=n) (hrows:∀i,i<n->∃c,rows[i]?=some (.vec (ints (g.getD i [])) n c)) (hgl:∀i,i<n->(g.getD i []).length=n) (hgM:∀i,i<n->∀a∈g.getD i [],a<M)
  {f:Nat} {E:Env} {H:Heap} (hJ:J79 g n M F rows cg fin f E H) {Jp:Env->Heap->Prop} {Q:Post} (h1:∀f' E' H',f'<f->J79 g n M F rows cg fin f' E' H'->Jp E' H')
  (h2:∀E' a b,E' 4= .sl 0 0 M 1 (some M)->Q .ret E' [some (ints fin),some a,some b]):
  wG 0 92 (.seq (.reg r28_6 none) (.seq (.seq (.reg r28_7 none) (.block 0 (.loop l28_0))) (.seq (.reg r28_20 none) .ret))) E H (qxm 0 Jp Q):=by
 obtain⟨cts,norm,inner,x,hcl,hcb,hfF,hno,hil,hin,hxl,hx,hrun,e1,e5,e7,e8,e9,e10,rfl⟩:=hJ;cases f with
 |zero=>simp[runC]at hrun
 |succ f=>
  have gc:=zfa cts norm (by omega) AV.junk;have bc:=zuj hcb (i:=norm) (by omega)
  have w1:IntKind.i64.wrap (((cts.getD norm 0:Nat):Int)+1)=((cts.getD norm 0+1:Nat):Int):=by
   have:(((cts.getD norm 0:Nat):Int)+1)=((cts.getD norm 0+1:Nat):Int):=by omega
   rw[this];exact zpv (by omega)
  simp only[r28_6,r28_7,r28_20,SS,fC,reduceIte,qQ,e7,e10,e5,qV,gc,w1,zhf,hcl,zui];refine⟨⟨by omega,by omega⟩,by omega,⟨by omega,by omega⟩,by omega,?_⟩
  refine jgb hM hM2 hn hrl hrows hgl hgM (.vec rows n cg) (.sl 0 0 M 1 (some M)) (ints (cts.set norm (cts.getD norm 0+1))) (bump g n M n 0 norm inner x) norm inner x hno hil hin hxl hx rfl
   ⟨e1,e5,e7,e8,e9,rfl,rfl⟩ rfl e10 rfl ?_ ?_
  ·intro hb E' a b hE';simp only[runC,hb]at hrun;have hfin:cts.set norm (cts.getD norm 0+1)=fin:=Option.some.inj hrun;rw[hfin];exact h2 _ _ _ hE'.e7
  ·intro norm' inner' x' hb q1 q2 q3 q4 q5 E' hE' q6;simp only[runC,hb]at hrun;refine⟨rfl,h1 f E' _ (by omega) ⟨_,norm',inner',x',?_,?_,by omega,q1,q2,q3,q4,q5,hrun,hE'.e1,hE'.e5,hE'.e7,hE'.e8,hE'.e9,q6,rfl⟩⟩
   ·simp[hcl]
   ·refine qcx (λa ha=>?_) (by omega);have:=hcb a ha;omega
theorem zpw{g:List (List Nat)}{n M F:Nat}{hs rows:List AV}{ch cg:Option Nat}{kd:IntKind}{en:Int}{fin:List Nat}(hM:0<M)(hM2:M<2^40)(hn:n<2^20)(hF:F<2^60)
  (hres:Rt 72 [.vec hs n ch,.int .i64 (M:Int)] [] (.tup [.vec rows n cg,.int kd en]) [])
  (hrl:rows.length=n) (hrows:∀i,i<n->∃c,rows[i]?=some (.vec (ints (g.getD i [])) n c)) (hgl:∀i,i<n->(g.getD i []).length=n) (hgM:∀i,i<n->∀a∈g.getD i [],a<M)
  (hrun:runC g n M F (List.replicate M 0) 0 (List.replicate n 0) (List.replicate n 0)=some fin) (hfl:fin.length=M):
  Rt 28 [.vec hs n ch,.int .i64 (M:Int)] [] (.vec (ints fin) M (some M)) []:=by
 refine oF o28 ?_;simp only[c28,r28_0,SS];have hrep:∀k:Nat,List.replicate k (AV.int IntKind.i64 0)=ints (List.replicate k 0):=by intro k;simp[ints]
 have hfinal:∀(E':Env) (a b:List AV),E' 4= .sl 0 0 M 1 (some M)->(λ(x:Exit) (E':Env) (H':Heap)=>(x=Exit.ret\/x=Exit.normal)/\∃v',resA Tryz.prog [ResultVar.tmp 4] E' H'=some v'/\AL.Fin 0 v' H' (AV.vec (ints fin) M (some M)) []) .ret E' [some (ints fin),some a,some b]:=by
  intro E' a b h4;refine⟨.inl rfl,.sl 0 0 M 1 (some M),by simp[resA,zdv,h4],.freeze 2 _ _ _ ?_ (by intro i cs h;omega)⟩
  have hm:∀l:List Nat,(ints l).mapM (frzI 0 [some (ints fin),some a,some b] 1)=some (ints l):=by
   intro l
   induction l with
   |nil=>rfl
   |cons y l ih=>
    have:ints (y::l)= .int .i64 (y:Int)::ints l:=rfl;rw[this,yK,ih];rfl
  have e:frzI 0 [some (ints fin),some a,some b] 2 (.sl 0 0 M 1 (some M))=need (0+M*1<=(ints fin).length) (((((ints fin).drop 0).take (M*1)).mapM (frzI 0 [some (ints fin),some a,some b] 1)).map λl=> .vec l M (some M)):=rfl;have ht:((ints fin).drop 0).take (M*1)=ints fin:=by rw[yJ,qA (by rw[zhf,hfl];omega)]
  rw[e,ht,hm];unfold need;rw[if_pos (by rw[zhf,hfl];omega)];rfl
 refine qjn 0 (λf E H=>J79 g n M F rows cg fin f E H) rfl ?_ ?_
 ·refine wM ?_;simp only[r28_1,r28_2,r28_3,r28_4,r28_5,SS,reduceCtorEq,reduceIte,qQ];refine zaa hres ?_;simp only[SS,reduceCtorEq,reduceIte,qJ,qQ,qV,qU,qY,hrep];refine⟨by omega,⟨by omega,by omega,by omega,by omega⟩,by omega,⟨by omega,by omega,by omega,by omega⟩,by omega,⟨by omega,by omega,by omega,by omega⟩,?_⟩
  have zr:∀(k B:Nat),0<B->∀a∈List.replicate k 0,a<B:=by
   intro k B hB a ha;rw[yE]at ha;omega
  refine qvi (f:=F) (E:=_) (H:=_) hM hM2 hn hF hrl hrows hgl hgM ⟨List.replicate M 0,0,List.replicate n 0,List.replicate n 0,by simp,zr _ _ (by omega),qE _,hM,by simp,zr _ _ hM,by simp,zr _ _ hM,hrun,rfl,rfl,rfl,rfl,rfl,rfl,rfl⟩
   (λf' E' H' hlt h=>⟨f',E',H',h,.refl⟩) hfinal
 ·intro f E H hJ;refine wM ?_;exact qvi hM hM2 hn hF hrl hrows hgl hgM hJ (λf' E' H' hlt h=>⟨f',E',H',hlt,h,.refl⟩) hfinal
end Go.Proofs.YtpflahgcdgdkjaaGreatDoor
namespace Go.Proofs.YtpflahgcdgdkjaaGreatDoor
open Nat renaming reduceEqDiff -> qQ, pow_le_pow_right -> yY
open List renaming getElem?_cons_succ -> qY, getElem?_cons_zero -> qU
open Go.AL.AV.closed renaming closedL -> qW
open Go Go.AL Go.Proofs
theorem qmg{p e:Nat}(hp:1<=p)(h:p^e<=2097152)(he:e<2^40):Rt 27 [.int .i64 (p:Int),.int .i64 (e:Int)] [] (.tup [.int .i64 ((p^e:Nat):Int),.bool true]) []:=by
 have hle:∀i,i<=e->p^i<=2097152:=λi hi=>Nat.le_trans (yY hp hi) h
 refine oF o27 ?_;simp only[c27,r27_0,r27_1,r27_2,SS,reduceCtorEq,reduceIte,qQ]
 refine zaf (λq E H=>∃i:Nat,i+q=e/\H=[]/\E 0= .int .i64 (p:Int)/\E 6= .int .i64 ((p^i:Nat):Int)/\E 7= .int .i64 (e:Int)/\E 8= .int .i64 (i:Int)) (n:=e)
  ⟨0,by omega,rfl,by simp only[UU,qQ],by simp only[UU,qQ,reduceIte];rfl,by simp only[UU,qQ,reduceIte],by simp only[UU,qQ,reduceIte];rfl⟩ ?_
 rintro q E H ⟨i,hiq,rfl,e0,e6,e7,e8⟩;refine wM ?_;simp only[l27_0,r27_3,SS,reduceCtorEq,reduceIte,e7,e8];refine⟨λhlt=>?_,λhge=>?_⟩
 ·obtain⟨q,rfl⟩:∃q',q=q'+1:=⟨q-1,by omega⟩
  have hs:=hle (i+1) (by omega);have em:((p^i:Nat):Int)*(p:Int)=((p^(i+1):Nat):Int):=by rw[Nat.pow_succ];exact(Int.natCast_mul _ _).symm
  have w5:=wS1 i (by omega);have w6:IntKind.i64.wrap ((p^(i+1):Nat):Int)=((p^(i+1):Nat):Int):=zpv (by omega);simp only[r27_4,r27_5,r27_6,r27_7,SS,reduceCtorEq,reduceIte,qQ,e0,e6,e8,em,w5,w6];refine⟨λhgt=>absurd hgt (by omega),λ_=>⟨q,_,_,by omega,⟨i+1,by omega,rfl,?_,?_,?_,?_⟩,.refl⟩⟩
  all_goals simp only[UU,qQ,reduceIte, *]
 ·have hie:i=e:=by omega
  subst hie;simp only[r27_8,SS,reduceIte,qQ,e6];exact kR
theorem qso{hs:List AV}{ch:Option Nat}{n p e:Nat}{v:AV}(hcl:(AV.vec hs n ch).closed=true)(hchk:Rt 26 [.vec hs n ch,.int .i64 (p:Int)] [] (.int .i64 0) [])
  (hp:1<=p) (he:1<=e) (he2:e<2^40) (hn:1<=n) (hn2:n<2^40) (hpow:(p^e)^n<=2097152) (hcnt:Rt 28 [.vec hs n ch,.int .i64 ((p^e:Nat):Int)] [] v []) (hv:v.closed=true):
  Rt 11 [.vec hs n ch,.int .i64 (p:Int),.int .i64 (e:Int)] [] (.tup [v,.int .i64 0]) []:=by
 have h1:1<=p^e:=Nat.one_le_pow _ _ hp;have hpe:p^e<=2097152:=Nat.le_trans (by have:=yY (n:=p^e) h1 hn;rwa[Nat.pow_one]at this) hpow;have t1:=qmg hp hpe he2;have t2:=qmg h1 hpow hn2;have c0:qW [.vec hs n ch,.int .i64 (p:Int)]=true:=by simp only[qW,hcl];rfl
 have c1:qW [.vec hs n ch,.int .i64 ((p^e:Nat):Int)]=true:=by simp only[qW,hcl];rfl
 refine oF o11 ?_;simp only[c11,r11_0,r11_1,SS,reduceCtorEq,reduceIte,qQ];refine zaa hchk ?_ c0;simp only[zay,SS,reduceIte,qQ];simp only[r11_2,SS,reduceIte,qQ];refine⟨λhne=>absurd rfl hne,λ_=>?_⟩;simp only[r11_4,SS,reduceIte,qQ];refine⟨λhlt=>absurd hlt (by omega),λ_=>?_⟩;simp only[r11_6,SS,reduceIte,qQ];refine zaa t1 ?_;simp only[zay,SS,reduceIte,qQ,qU,qY];simp only[r11_7,r11_9,SS,fC,reduceCtorEq,reduceIte,qQ];refine zaa t2 ?_;simp only[zay,SS,reduceIte,qQ,qU,qY];simp only[r11_10,r11_12,SS,fC,reduceCtorEq,reduceIte,qQ];refine zaa hcnt ?_ c1 hv;simp only[zay,SS,reduceIte,qQ];exact kR
end Go.Proofs.YtpflahgcdgdkjaaGreatDoor
namespace Go.Count
end Go.Count
namespace Go.Proofs.YtpflahgcdgdkjaaGreatDoor
open Nat renaming reduceEqDiff -> qQ, reduceLeDiff -> qZ, sub_self -> qN, zero_add -> qO
open List renaming getD_eq_getElem?_getD -> qX, getElem?_eq_getElem -> qK, take_of_length_le -> qA, getElem?_set_self -> qB, getElem?_append_right -> qD, set_append_right -> qG, ext_getElem -> qI, getElem?_map -> qL, getElem?_set_ne -> qR, take_add_one -> xU, getElem_set -> xG, length_take -> xH, set_set -> xO, length_drop -> yR
open Int renaming toNat_natCast -> qV, toNat_zero -> xQ, emod_lt_of_pos -> yD, emod_nonneg -> zX
open Option renaming getD_some -> xZ
open Go Go.AL Go.Proofs
def gN(n:Nat)(M:List (List Int))(m:Nat):List (List Nat):=(modM n M (m:Int)).map λr=>r.map Int.toNat
theorem qcy(n:Nat)(M:List (List Int))(m i:Nat):(gN n M m).getD i []=((modM n M (m:Int)).getD i []).map Int.toNat:=by
 unfold gN;rw[qX,qL,qX];cases (modM n M (m:Int))[i]?<;>rfl
theorem qmh{n:Nat}{M:List (List Int)}{m i j:Nat}:Count.ent (gN n M m) i j=(ent (modM n M (m:Int)) i j).toNat:=by
 unfold Count.ent;rw[qcy];unfold ent;generalize (modM n M (m:Int)).getD i []=r;rw[qX,qL,qX];cases r[j]?<;>rfl
theorem qmi{r:List Int}(h:∀z∈r,0<=z):i64z r=ints (r.map Int.toNat):=by
 unfold i64z ints;rw[List.map_map];refine List.map_congr_left λz hz=>?_
 show AV.int .i64 z= .int .i64 ((z.toNat:Nat):Int)
 rw[Int.toNat_of_nonneg (h z hz)]
theorem qcz{n:Nat}{M:List (List Int)}{m i:Nat}(hm:0<m):∀z∈(modM n M (m:Int)).getD i [],0<=z/\z<m:=by
 intro z hz;rw[qX]at hz;cases h:(modM n M (m:Int))[i]? with
 |none=>rw[h]at hz;simp at hz
 |some r=>
  rw[h,xZ]at hz;have hr:r∈modM n M (m:Int):=List.mem_of_getElem? h;unfold modM mkM at hr;obtain⟨i',_,rfl⟩:=List.mem_map.1 hr;obtain⟨j',_,rfl⟩:=List.mem_map.1 hz;exact⟨zX _ (by omega),yD _ (by omega)⟩
open Go.Limb Go.Det
def zkz(M:List (List Int)):Prop:=1<=M.length/\M.length<=8/\Shp M.length M/\∀i j,i<M.length->j<M.length->ent M i j=ent M j i/\ -262144<ent M i j/\ent M i j<262144
theorem qvj{M:List (List Int)}{a:AV}(h:ImV M a)(h62:M.length<4611686018427387904)(hr62:∀i,i<M.length->(M.getD i []).length<4611686018427387904){b:Bool}(hb:b=true↔zkz M):Rt 136 [a] [] (.bool b) []:=by
 have hf:=h.fit;obtain⟨rows,c,rfl,hl,hr⟩:=h.val
 have no:¬zkz M->b=false:=by
  intro hn;cases b with
  |false=>rfl
  |true=>exact absurd (hb.1 rfl) hn
 refine oF o136 ?_;by_cases h1:M.length<1\/8<M.length
 ·have hbf:=no (λhS=>by have:=hS.1;have:=hS.2.1;omega);subst hbf;by_cases h2:M.length<1
  ·have d1:decide ((M.length:Int)<1)=true:=dT;simp only[c136,r136_0,r136_1,r136_2,SS,fC,reduceCtorEq,reduceIte,qQ,d1];simp only[r136_3,SS];exact dR
  ·have d1:decide ((M.length:Int)<1)=false:=dF;have d2:decide ((8:Int)<(M.length:Nat))=true:=dT;simp only[c136,r136_0,r136_1,r136_2,SS,fC,reduceCtorEq,reduceIte,qQ,d1,d2];simp only[r136_3,SS];exact dR
 have d1:decide ((M.length:Int)<1)=false:=dF;have d2:decide ((8:Int)<(M.length:Nat))=false:=dF;simp only[c136,r136_0,r136_1,r136_2,SS,fC,reduceCtorEq,reduceIte,qQ,d1,d2];simp only[r136_4,SS,reduceCtorEq,reduceIte,qQ]
 refine zaf (λk E H=>∃i,i+k=M.length/\E 0= .vec rows M.length c/\E 3= .int .i64 (M.length:Nat)/\E 18= .vec rows M.length c/\E 19= .int .i64 (M.length:Nat)/\E 20= .int .i64 (i:Nat)/\H=[]/\∀s,s<i->(M.getD s []).length=M.length) (n:=M.length)
  ⟨0,by omega,by simp only[UU,qQ],by simp only[UU,qQ,reduceIte],by simp only[UU,qQ,reduceIte],by simp only[UU,qQ,reduceIte],by simp only[UU,qQ,reduceIte];rfl,rfl,λs hs=>absurd hs (by omega)⟩ ?_
 rintro k E H ⟨i,hik,e0,e3,e18,e19,e20,rfl,hsh⟩;refine wM ?_;simp only[l136_0,r136_5,SS,reduceCtorEq,reduceIte,e19,e20];refine⟨λhlt=>?_,λhge=>?_⟩
 ·obtain⟨k,rfl⟩:∃k',k=k'+1:=⟨k-1,by omega⟩
  have hi:i<M.length:=by omega
  obtain⟨ci,hei⟩:=hr i hi;have hri:=hr62 i hi;have w5:=wS1 i (by omega);simp only[r136_6,r136_7,SS,fC,reduceIte,qQ,e3,e18,e20,qV,hei,hl];refine⟨⟨by omega,by omega⟩,by omega,λhne=>?_,λheq=>?_⟩
  ·have hbf:=no (λhS=>hne (by rw[hS.2.2.1.row i hi]));subst hbf;simp only[r136_8,SS];exact dR
  ·have heq:(M.getD i []).length=M.length:=by
    have:=Decidable.not_not.1 heq;omega
   simp only[r136_9,SS,reduceIte,qQ,e20,w5];refine⟨k,_,_,by omega,⟨i+1,by omega,?_,?_,?_,?_,?_,rfl,λs hs=>?_⟩,.refl⟩
   ·simp only[UU,qQ, *]
   ·simp only[UU,qQ, *]
   ·simp only[UU,qQ, *]
   ·simp only[UU,qQ, *]
   ·simp only[UU,qQ,reduceIte, *]
   ·rcases(by omega:s<i\/s=i)with e | e
    ·exact hsh s e
    ·rw[e];exact heq
 ·have hin:i=M.length:=by omega
  subst hin;clear hge e20 e19 e18 hik k;have hS:Shp M.length M:=⟨rfl,hsh⟩
  simp only[r136_10,SS,reduceCtorEq,reduceIte,qQ,e0]
  refine zaf (λk E H=>∃i,i+k=M.length/\E 0= .vec rows M.length c/\E 29= .vec rows M.length c/\E 30= .int .i64 (M.length:Nat)/\E 31= .int .i64 (i:Nat)/\H=[]/\∀s t,s<i->t<M.length->ent M s t=ent M t s/\ -262144<ent M s t/\ent M s t<262144) (n:=M.length)
   ⟨0,by omega,by simp only[UU,qQ,e0],by simp only[UU,qQ,reduceIte],by simp only[UU,qQ,reduceIte],by simp only[UU,qQ,reduceIte];rfl,rfl,λs t hs=>absurd hs (by omega)⟩ ?_
  clear e0 e3 hsh E;rintro k E H ⟨i,hik,e0,e29,e30,e31,rfl,hP⟩;refine wM ?_;simp only[l136_1,r136_11,SS,reduceCtorEq,reduceIte,e30,e31];refine⟨λhlt=>?_,λhge=>?_⟩
  ·obtain⟨k,rfl⟩:∃k',k=k'+1:=⟨k-1,by omega⟩
   have hi:i<M.length:=by omega
   obtain⟨ci,hei⟩:=hr i hi;have w5:=wS1 i (by omega);have hcol:=hS.row i hi;simp only[r136_12,r136_13,SS,fC,reduceIte,qQ,e29,e31,qV,hei,hl,hcol];refine⟨⟨by omega,by omega⟩,by omega,?_⟩
   refine zaf (λk2 E H=>∃j,j+k2=M.length/\E 0= .vec rows M.length c/\E 6= .int .i64 (i:Nat)/\E 29= .vec rows M.length c/\E 30= .int .i64 (M.length:Nat)/\E 31= .int .i64 (i:Nat)/\E 36= .vec (i64z (M.getD i [])) M.length ci/\E 37= .int .i64 (M.length:Nat)/\E 38= .int .i64 (j:Nat)/\H=[]/\∀t,t<j->ent M i t=ent M t i/\ -262144<ent M i t/\ent M i t<262144) (n:=M.length)
    ⟨0,by omega,by simp only[UU,qQ,e0],by simp only[UU,qQ,reduceIte],by simp only[UU,qQ,e29],by simp only[UU,qQ,e30],by simp only[UU,qQ,e31],by simp only[UU,qQ,reduceIte],by simp only[UU,qQ,reduceIte],by simp only[UU,qQ,reduceIte];rfl,rfl,λt ht=>absurd ht (by omega)⟩ ?_
   clear e0 e29 e30 e31 E;rintro k2 E H ⟨j,hjk,e0,e6,e29,e30,e31,e36,e37,e38,rfl,hP2⟩;refine wM ?_;simp only[l136_2,r136_14,SS,reduceCtorEq,reduceIte,qQ,e37,e38];refine⟨λhlt2=>?_,λhge2=>?_⟩
   ·obtain⟨k2,rfl⟩:∃k',k2=k'+1:=⟨k2-1,by omega⟩
    have hj:j<M.length:=by omega
    obtain⟨cj,hej⟩:=hr j hj;have hcj:=hS.row j hj;have w6:=wS1 j (by omega);have g1:(i64z (M.getD i [])).getD j .junk= .int .i64 (ent M i j):=zcf _ j (by omega) _;have g2:(i64z (M.getD j [])).getD i .junk= .int .i64 (ent M j i):=zcf _ i (by omega) _;simp only[r136_15,r136_16,SS,fC,reduceCtorEq,reduceIte,qQ,e0,e6,e36,e38,qV,hej,hl,hcj,zbe,hcol,g1,g2];have bad:¬(ent M i j=ent M j i/\ -262144<ent M i j/\ent M i j<262144)->b=false:=λhn=>no λhSm=>hn (hSm.2.2.2 i j hi hj)
    refine⟨⟨by omega,by omega⟩,by omega,⟨by omega,by omega⟩,by omega,⟨by omega,by omega⟩,by omega,λh1=>⟨λh2=>⟨λh3=>?_,λh3=>?_⟩,λh2=>?_⟩,λh1=>?_⟩
    ·obtain rfl:=bad (by omega);simp only[r136_17,SS];exact dR
    ·simp only[r136_18,SS,reduceIte,qQ,e38,w6];refine⟨k2,_,_,by omega,⟨j+1,by omega,?_,?_,?_,?_,?_,?_,?_,?_,rfl,λt ht=>?_⟩,.refl⟩
     ·simp only[UU,qQ, *]
     ·simp only[UU,qQ, *]
     ·simp only[UU,qQ, *]
     ·simp only[UU,qQ, *]
     ·simp only[UU,qQ, *]
     ·simp only[UU,qQ, *]
     ·simp only[UU,qQ, *]
     ·simp only[UU,qQ,reduceIte, *]
     ·rcases(by omega:t<j\/t=j)with e | e
      ·exact hP2 t e
      ·rw[e];exact⟨Decidable.not_not.1 h1,by omega,by omega⟩
    ·obtain rfl:=bad (by omega);simp only[r136_17,SS];exact dR
    ·obtain rfl:=bad (λe=>h1 e.1);simp only[r136_17,SS];exact dR
   ·have hj:j=M.length:=by omega
    subst hj;simp only[r136_19,SS,reduceIte,qQ,e31,w5];refine⟨k,_,_,by omega,⟨i+1,by omega,?_,?_,?_,?_,rfl,λs t hs ht=>?_⟩,.refl⟩
    ·simp only[UU,qQ, *]
    ·simp only[UU,qQ, *]
    ·simp only[UU,qQ, *]
    ·simp only[UU,qQ,reduceIte, *]
    ·rcases(by omega:s<i\/s=i)with e | e
     ·exact hP s t e ht
     ·rw[e];exact hP2 t ht
  ·have hin:i=M.length:=by omega
   subst hin;obtain rfl:=hb.2 ⟨by omega,by omega,hS,λs t hs ht=>hP s t hs ht⟩;simp only[r136_20,SS];exact dR
def qda(n:Nat)(M:List (List Int)):Prop:=0<ent M 0 0/\ent M 0 0<65536/\∀i,0<i->i<n->2*ent M i 0<=ent M 0 0/\ -(2*ent M i 0)<=ent M 0 0
theorem qvk{n:Nat}{M:List (List Int)}{a:AV}(h:ImV M a)(hS:Shp n M)(hn:1<=n/\n<=8)(hbd:∀i,i<n-> -1099511627776<=ent M i 0/\ent M i 0<=1099511627776){b:Bool}(hb:b=true↔qda n M):Rt 137 [a] [] (.bool b) []:=by
 obtain⟨rows,c,rfl,hl,hr⟩:=h.val
 have no:¬qda n M->b=false:=by
  intro hn;cases b with
  |false=>rfl
  |true=>exact absurd (hb.1 rfl) hn
 have hlen:=hS.len;obtain⟨c0,he0⟩:=hr 0 (by omega);have hc0:=hS.row 0 (by omega);have g0:(i64z (M.getD 0 [])).getD 0 .junk= .int .i64 (ent M 0 0):=zcf _ 0 (by omega) _;have hb0:=hbd 0 (by omega);refine oF o137 ?_;simp only[c137,r137_0,r137_1,SS,fC,reduceCtorEq,reduceIte,qQ,he0,hc0,hl,hlen,g0,zbe,xQ];refine⟨⟨by omega,by omega⟩,by omega,⟨by omega,by omega⟩,by omega,?_⟩;simp only[r137_2,SS,fC,reduceIte,qQ];refine⟨λh1=>⟨λh2=>?_,λh2=>?_⟩,λh1=>?_⟩
 ·obtain rfl:=no (λhp=>by have:=hp.2.1;omega);simp only[r137_3,SS];exact dR
 ·simp only[r137_4,SS,reduceCtorEq,reduceIte,qQ,hl,hlen];have t1:Int.toNat 1=1:=rfl;have htail:List.take (n-1) (List.drop 1 rows)=rows.drop 1:=qA (by rw[yR];omega);have hdl:(rows.drop 1).length=n-1:=by rw[yR];omega
  have hdg:∀i,(rows.drop 1).getD i .junk=rows.getD (i+1) .junk:=by
   intro i;rw[qX,List.getElem?_drop,qX,Nat.add_comm]
  simp only[t1,htail];refine⟨by omega,⟨by omega,by omega,by omega⟩,?_⟩
  refine zaf (λk E H=>∃i,i+k=n-1/\E 3= .int .i64 (ent M 0 0)/\E 18= .vec (rows.drop 1) (n-1) (zdx 1 c)/\E 19= .int .i64 ((n-1:Nat):Int)/\E 20= .int .i64 (i:Nat)/\H=[]/\∀s,0<s->s<i+1->2*ent M s 0<=ent M 0 0/\ -(2*ent M s 0)<=ent M 0 0) (n:=n-1)
   ⟨0,by omega,by simp only[UU,qQ,reduceIte],by simp only[UU,qQ,reduceIte],by simp only[UU,qQ,reduceIte],by simp only[UU,qQ,reduceIte];rfl,rfl,λs hs hs2=>absurd hs2 (by omega)⟩ ?_
  rintro k E H ⟨i,hik,e3,e18,e19,e20,rfl,hP⟩;refine wM ?_;simp only[l137_0,r137_5,SS,reduceCtorEq,reduceIte,e19,e20];refine⟨λhlt=>?_,λhge=>?_⟩
  ·obtain⟨k,rfl⟩:∃k',k=k'+1:=⟨k-1,by omega⟩
   have hi:i+1<n:=by omega
   obtain⟨ci,hei⟩:=hr (i+1) (by omega);have hci:=hS.row (i+1) hi;have gi:(i64z (M.getD (i+1) [])).getD 0 .junk= .int .i64 (ent M (i+1) 0):=zcf _ 0 (by omega) _;have hbi:=hbd (i+1) hi;have w5:=wS1 i (by omega);have w6:IntKind.i64.wrap (2*ent M (i+1) 0)=2*ent M (i+1) 0:=w64 (by omega) (by omega);have w7:IntKind.i64.wrap (-2*ent M (i+1) 0)= -2*ent M (i+1) 0:=w64 (by omega) (by omega);have bad:¬(2*ent M (i+1) 0<=ent M 0 0/\ -(2*ent M (i+1) 0)<=ent M 0 0)->b=false:=λhne=>no λhp=>hne (hp.2.2 (i+1) (by omega) hi)
   simp only[r137_6,r137_7,SS,fC,reduceIte,qQ,e3,e18,e20,qV,hdg,hdl,hei,hci,gi,zbe,xQ,w6,w7];refine⟨⟨by omega,by omega⟩,by omega,⟨by omega,by omega⟩,by omega,λh3=>⟨⟨by omega,by omega⟩,by omega,λh4=>?_,λh4=>?_⟩,λh3=>?_⟩
   ·obtain rfl:=bad (by omega);simp only[r137_8,SS];exact dR
   ·simp only[r137_9,SS,reduceIte,qQ,e20,w5];refine⟨k,_,_,by omega,⟨i+1,by omega,?_,?_,?_,?_,rfl,λs h0 hs=>?_⟩,.refl⟩
    ·simp only[UU,qQ, *]
    ·simp only[UU,qQ, *]
    ·simp only[UU,qQ, *]
    ·simp only[UU,qQ,reduceIte, *]
    ·rcases(by omega:s<i+1\/s=i+1)with e | e
     ·exact hP s h0 e
     ·rw[e];exact⟨by omega,by omega⟩
   ·obtain rfl:=bad (by omega);simp only[r137_8,SS];exact dR
  ·have hin:i=n-1:=by omega
   subst hin;obtain rfl:=hb.2 ⟨by omega,by omega,λs h0 hs=>hP s h0 (by omega)⟩;simp only[r137_10,SS];exact dR
 ·obtain rfl:=no (λhp=>by have:=hp.1;omega);simp only[r137_3,SS];exact dR
def zbs(n k:Nat)(M:List (List Int)):List (List Int):=mkM (n-k) λi j=>stg (rowF M) k (k+i) (k+j)
theorem zpx(n k:Nat)(M:List (List Int)):Shp (n-k) (zbs n k M):=zct _ _
theorem zcv{n k i j:Nat}{M:List (List Int)}(hi:i<n-k)(hj:j<n-k):ent (zbs n k M) i j=stg (rowF M) k (k+i) (k+j):=zco hi hj
theorem qgg{n:Nat}{M:List (List Int)}(h:Shp n M):zbs n 0 M=M:=by
 refine zub (n:=n) (zpx n 0 M) h λi j hi hj=>?_
 rw[zcv (by omega) (by omega),zdk,qO,qO];rfl
section
variable{m:Nat}{S T:List (List Int)}{sr:List AV}{sc:Option Nat}{d last:Int}
structure StF(m:Nat)(S T:List (List Int))(sr:List AV)(sc:Option Nat)(d last:Int):Prop where
 m2:m+1<=8
 shS:Shp (m+1) S
 shT:Shp m T
 val:∀i,i<m+1->∃c',sr.getD i .junk= .vec (i64z (S.getD i [])) (m+1) c'
 len:sr.length=m+1
 de:d=ent S 0 0
 db:0<d/\d<65536
 last0:last≠0
 big:∀i j,i<m+1->j<m+1-> -34359738368<=ent S i j/\ent S i j<=34359738368
 low:∀i,i<m+1-> -65536<=ent S i 0/\ent S i 0<=65536/\ -65536<=ent S 0 i/\ent S 0 i<=65536
 quo:∀i j,i<m->j<m->Int.tdiv (d*ent S (i+1) (j+1)-ent S (i+1) 0*ent S 0 (j+1)) last=ent T i j
theorem zih{x y:Int}{a b:Int}(h1:x<=a)(h2: -a<=x)(h3:y<=b)(h4: -b<=y):x*y<=a*b/\ -(a*b)<=x*y:=zpj h1 h2 h3 h4
theorem qmj(hF:StF m S T sr sc d last){i:Nat}(hi:i<m){rows:List (List Int)}{ci:Option Nat}(hrl:rows.length=i+1)(hr0:(rows.getD i []).length=m){E:Env}{Q:Post}
  (e3:E 3= .vec sr (m+1) sc) (e4:E 4= .int .i64 last) (e5:E 5= .int .i64 d) (e6:E 6= .sl 0 0 m 1 (some m)) (e7:E 7= .int .i64 (i:Nat)) (e8:E 8= .vec (i64z (S.getD (i+1) [])) (m+1) ci) (e31:E 31= .int .i64 (m:Nat)) (e32:E 32= .int .i64 (i:Nat))
  (e47:E 47= .int .i64 (m:Nat)) (e48:E 48= .int .i64 0)
  (hQ:∀E' r,r.length=m->(∀j,j<m->r.getD j 0=ent T i j)->E' 3= .vec sr (m+1) sc->E' 4= .int .i64 last->E' 5= .int .i64 d->E' 6= .sl 0 0 m 1 (some m)->E' 31= .int .i64 (m:Nat)->E' 32= .int .i64 (i:Nat)->Q (.exit 4) E' (bH m m (rows.set i r))):
  Wg 0 118 (.loop l70_2) E (bH m m rows) Q:=by
 refine zaf (λk E H=>∃j r,j+k=m/\r.length=m/\(∀t,t<j->r.getD t 0=ent T i t)/\H=bH m m (rows.set i r)/\E 3= .vec sr (m+1) sc/\E 4= .int .i64 last/\E 5= .int .i64 d/\E 6= .sl 0 0 m 1 (some m)/\E 7= .int .i64 (i:Nat)/\E 8= .vec (i64z (S.getD (i+1) [])) (m+1) ci/\
  E 31= .int .i64 (m:Nat)/\E 32= .int .i64 (i:Nat)/\E 47= .int .i64 (m:Nat)/\E 48= .int .i64 (j:Nat)) (n:=m)
  ⟨0,rows.getD i [],by omega,hr0,λt ht=>absurd ht (by omega),?_,e3,e4,e5,e6,e7,e8,e31,e32,e47,e48⟩ ?_
 ·congr 1;refine qI (by simp) λt h1 h2=>?_
  rw[xG];split
  ·rename_i e;subst e;rw[qX,qK h1];rfl
  ·rfl
 clear e3 e4 e5 e6 e7 e8 e31 e32 e47 e48 E;rintro k E H ⟨j,r,hjk,hrm,hr,rfl,e3,e4,e5,e6,e7,e8,e31,e32,e47,e48⟩;refine wM ?_;simp only[l70_2,r70_16,SS,reduceIte,e47,e48];refine⟨λhlt=>?_,λhge=>?_⟩
 ·obtain⟨k,rfl⟩:∃k',k=k'+1:=⟨k-1,by omega⟩
  have hj:j<m:=by omega
  have hm2:=hF.m2;obtain⟨c0,h0⟩:=hF.val 0 (by omega);have hl:=hF.len;have l0:=hF.shS.row 0 (by omega);have l1:=hF.shS.row (i+1) (by omega);have g1:(i64z (S.getD (i+1) [])).getD (j+1) .junk= .int .i64 (ent S (i+1) (j+1)):=zcf _ (j+1) (by omega) _;have g2:(i64z (S.getD (i+1) [])).getD 0 .junk= .int .i64 (ent S (i+1) 0):=zcf _ 0 (by omega) _;have g3:(i64z (S.getD 0 [])).getD (j+1) .junk= .int .i64 (ent S 0 (j+1)):=zcf _ (j+1) (by omega) _;have w5:=wS1 j (by omega);have hset:(rows.set i r).length=i+1:=by simp[hrl]
  have gr:=zfy (N:=m) (n:=m) (i:=i) (rows:=rows.set i r) (by omega);have gri:(rows.set i r).getD i []=r:=by rw[qX,qB (by omega)];rfl
  rw[gri]at gr;have go:getB (bH m m (rows.set i r)) 0=some (outS m m (i+1)):=by rw[zec,hset]
  have gol:=zew (N:=m) (n:=m) (i:=i+1) (by omega);have gog:=zex (N:=m) (n:=m) (i:=i+1) (k:=i) (by omega);obtain⟨b1,b2⟩:=hF.big (i+1) (j+1) (by omega) (by omega);obtain⟨b3,b4,_,_⟩:=hF.low (i+1) (by omega);obtain⟨_,_,b5,b6⟩:=hF.low (j+1) (by omega);obtain⟨d1,d2⟩:=hF.db;have p1:=zih (x:=d) (y:=ent S (i+1) (j+1)) (a:=65536) (b:=34359738368) (by omega) (by omega) b2 b1;have p2:=zih (x:=ent S (i+1) 0) (y:=ent S 0 (j+1)) (a:=65536) (b:=65536) b4 b3 b6 b5;have hq:=hF.quo i j hi hj;have w1:IntKind.i64.wrap (d*ent S (i+1) (j+1))=d*ent S (i+1) (j+1):=w64 (by omega) (by omega);have w2:IntKind.i64.wrap (ent S (i+1) 0*ent S 0 (j+1))=ent S (i+1) 0*ent S 0 (j+1):=w64 (by omega) (by omega);have w3:IntKind.i64.wrap (d*ent S (i+1) (j+1)-ent S (i+1) 0*ent S 0 (j+1))=d*ent S (i+1) (j+1)-ent S (i+1) 0*ent S 0 (j+1):=w64 (by omega) (by omega)
  have w4:IntKind.i64.wrap (ent T i j)=ent T i j:=by
   have h1:(ent T i j).natAbs=(d*ent S (i+1) (j+1)-ent S (i+1) 0*ent S 0 (j+1)).natAbs/last.natAbs:=by rw[<-hq];exact Int.natAbs_tdiv _ _
   have h2:=Nat.div_le_self (d*ent S (i+1) (j+1)-ent S (i+1) 0*ent S 0 (j+1)).natAbs last.natAbs;exact w64 (by omega) (by omega)
  simp only[r70_17,r70_18,SS,fC,reduceIte,qQ,qZ,e3,e4,e5,e6,e7,e8,e48,qV,xQ,go,gol,gog,h0,hl,l0,l1,g1,g2,g3,zbe,w5,w1,w2,w3,hq,w4,gr,hrm,zdu];have hl0:=hF.last0;refine⟨⟨by omega,by omega⟩,by omega,⟨by omega,by omega⟩,by omega,⟨by omega,by omega⟩,⟨by omega,by omega⟩,⟨by omega,by omega⟩,by omega,hl0,⟨by omega,by omega⟩,by omega,rfl,?_⟩;simp only[r70_19,SS,reduceIte,qQ,e48,w5,zhl];refine⟨k,_,_,by omega,⟨j+1,r.set j (ent T i j),by omega,by simp[hrm],λt ht=>?_,?_,?_,?_,?_,?_,?_,?_,?_,?_,?_,?_⟩,.refl⟩
  ·rw[qX];rcases(by omega:t<j\/t=j)with e | e
   ·rw[qR (by omega),<-qX];exact hr t e
   ·rw[e,qB (by omega)];rfl
  ·rw[xO]
  all_goals simp only[UU,qQ,reduceIte, *]
 ·have hjm:j=m:=by omega
  subst hjm;exact hQ _ r hrm hr (by simp only[UU,qQ,e3]) (by simp only[UU,qQ,e4]) (by simp only[UU,qQ,e5]) (by simp only[UU,qQ,e6]) (by simp only[UU,qQ,e31]) (by simp only[UU,qQ,e32])
theorem qmk{i:Nat}(hi:i<T.length):T.take i++[T.getD i []]=T.take (i+1):=by
 rw[xU,qX,qK hi];rfl
theorem qgh(hF:StF m S T sr sc d last){E:Env}{Q:Post}
  (e3:E 3= .vec sr (m+1) sc) (e4:E 4= .int .i64 last) (e5:E 5= .int .i64 d) (e6:E 6= .sl 0 0 m 1 (some m)) (e31:E 31= .int .i64 (m:Nat)) (e32:E 32= .int .i64 0)
  (hQ:∀E',E' 3= .vec sr (m+1) sc->E' 4= .int .i64 last->E' 5= .int .i64 d->E' 6= .sl 0 0 m 1 (some m)->Q (.exit 2) E' (bH m m T)):
  Wg 0 118 (.loop l70_1) E (bH m m []) Q:=by
 refine zaf (λk E H=>∃i,i+k=m/\H=bH m m (T.take i)/\E 3= .vec sr (m+1) sc/\E 4= .int .i64 last/\E 5= .int .i64 d/\E 6= .sl 0 0 m 1 (some m)/\E 31= .int .i64 (m:Nat)/\E 32= .int .i64 (i:Nat)) (n:=m)
  ⟨0,by omega,rfl,e3,e4,e5,e6,e31,e32⟩ ?_
 clear e3 e4 e5 e6 e31 e32 E;rintro k E H ⟨i,hik,rfl,e3,e4,e5,e6,e31,e32⟩;refine wM ?_;simp only[l70_1,r70_11,SS,reduceIte,e31,e32];refine⟨λhlt=>?_,λhge=>?_⟩
 ·obtain⟨k,rfl⟩:∃k',k=k'+1:=⟨k-1,by omega⟩
  have hi:i<m:=by omega
  have hm2:=hF.m2;have hTl:=hF.shT.len;obtain⟨ci,hei⟩:=hF.val (i+1) (by omega);have hl:=hF.len;have htl:(T.take i).length=i:=by rw[xH];omega
  have w5:=wS1 i (by omega);have hbl:(bH m m (T.take i)).length=i+1:=by rw[qct,htl]
  have go:getB (bH m m (T.take i)++[some (i64z (List.replicate m 0))]) 0=some (outS m m i):=by
   have:getB (bH m m (T.take i)) 0=some (outS m m i):=by rw[zec,htl]
   exact this
  have gol:=zew (N:=m) (n:=m) (i:=i) (by omega);have hnew:=qcu (N:=m) (n:=m) (rows:=T.take i) (List.replicate m 0) (by omega);rw[htl]at hnew;simp only[r70_12,r70_13,r70_14,SS,fC,reduceIte,qQ,qZ,e3,e6,e32,qV,w5,hei,hl,hbl,zkw,go,gol];refine⟨⟨by omega,by omega⟩,by omega,by decide,⟨by omega,by omega,by omega,by omega⟩,⟨by omega,by omega⟩,by omega,?_⟩;rw[hnew];simp only[r70_15,SS,reduceIte,qQ,e6];refine qmj hF hi (ci:=ci) (rows:=T.take i++[List.replicate m 0]) (by simp;omega) ?_ (by simp only[UU,qQ,e3]) (by simp only[UU,qQ,e4]) (by simp only[UU,qQ,e5]) (by simp only[UU,qQ,e6]) (by simp only[UU,qQ,reduceIte]) (by simp only[UU,qQ,reduceIte]) (by simp only[UU,qQ,e31]) (by simp only[UU,qQ,e32]) (by simp only[UU,qQ,reduceIte]) (by simp only[UU,qQ,reduceIte]) ?_
  ·rw[qX,qD (by omega),htl,qN];simp
  intro E' r hrm hr f3 f4 f5 f6 f31 f32
  have er:r=T.getD i []:=by
   have hTi:=hF.shT.row i hi;refine qI (by omega) λt h1 h2=>?_
   have:=hr t (by omega);unfold ent at this;rw[qX,qK h1,qX (l:=T.getD i []),qK h2]at this;exact this
  have eset:(T.take i++[List.replicate m 0]).set i r=T.take (i+1):=by
   rw[qG _ _ (by omega),htl,qN,er];exact qmk (by omega)
  rw[eset];simp only[r70_20,SS,reduceIte,qQ,f32,w5];refine⟨k,_,_,by omega,⟨i+1,by omega,rfl,?_,?_,?_,?_,?_,?_⟩,.refl⟩
  all_goals simp only[UU,qQ,reduceIte, *]
 ·have him:i=m:=by omega
  have htl:T.take i=T:=qA (by rw[hF.shT.len];omega);rw[htl];exact hQ _ (by simp only[UU,qQ,e3]) (by simp only[UU,qQ,e4]) (by simp only[UU,qQ,e5]) (by simp only[UU,qQ,e6])
end
end Go.Proofs.YtpflahgcdgdkjaaGreatDoor
namespace Go.Det
open Nat renaming le_refl -> qE
structure Part(n:Nat)(a:Nat->Row)(k:Nat):Prop where
 pos:∀t,t<k->0<lead a (t+1)
 lt:∀t,t<k->lead a (t+1)<65536
 sized:∀t i,t<k->i<n->t<i->2*stg a t i t<=lead a (t+1)/\ -(2*stg a t i t)<=lead a (t+1)
 lov:∀t,t<k->3*(lead a (t+1)*lead a (t+1))<=4*(lead a t*lead a (t+2)+stg a t (t+1) t*stg a t (t+1) t)
theorem Part.zero{n:Nat}{a:Nat->Row}:Part n a 0:=⟨λ_ h=>absurd h (by omega),λ_ h=>absurd h (by omega),λ_ _ h=>absurd h (by omega),λ_ h=>absurd h (by omega)⟩
theorem Part.pos'{n k:Nat}{a:Nat->Row}(h:Part n a k):∀t,t<=k->0<lead a t:=by
 intro t ht;cases t with
 |zero=>rw[zbh];decide
 |succ t=>exact h.pos t (by omega)
theorem Part.ne{n k:Nat}{a:Nat->Row}(h:Part n a k):∀t,t<=k->lead a t≠0:=λt ht=>by have:=h.pos' t ht;omega
theorem Part.lt'{n k:Nat}{a:Nat->Row}(h:Part n a k):∀t,t<=k->lead a t<65536:=by
 intro t ht;cases t with
 |zero=>rw[zbh];decide
 |succ t=>exact h.lt t (by omega)
theorem Part.next{n k:Nat}{a:Nat->Row}(h:Part n a k)(h1:0<lead a (k+1))(h2:lead a (k+1)<65536)(h3:∀i,i<n->k<i->2*stg a k i k<=lead a (k+1)/\ -(2*stg a k i k)<=lead a (k+1))
  (h4:3*(lead a (k+1)*lead a (k+1))<=4*(lead a k*lead a (k+2)+stg a k (k+1) k*stg a k (k+1) k)):Part n a (k+1):=by
 have sp:∀t,t<k+1->t<k\/t=k:=λt ht=>by omega
 refine⟨λt ht=>?_,λt ht=>?_,λt i ht hi hti=>?_,λt ht=>?_⟩
 ·rcases sp t ht with e | e
  ·exact h.pos t e
  ·rw[e];exact h1
 ·rcases sp t ht with e | e
  ·exact h.lt t e
  ·rw[e];exact h2
 ·rcases sp t ht with e | e
  ·exact h.sized t i e hi hti
  ·subst e;exact h3 i hi hti
 ·rcases sp t ht with e | e
  ·exact h.lov t e
  ·subst e;exact h4
theorem Part.red{n:Nat}{a:Nat->Row}(h1:1<=n)(h8:n<=8)(hs:∀i j,i<n->j<n->a i j=a j i)(h:Part n a (n-1))(hp:0<lead a n)(hd:lead a n<=10000):Red n a:=by
 refine⟨h1,h8,hs,λk hk=>?_,hd,λi j hi hj=>h.sized j i (by omega) hi hj,λi h0 hi=>?_⟩
 ·rcases Nat.lt_or_ge k (n-1)with e | e
  ·exact h.pos k e
  ·have:k+1=n:=by omega
   rw[this];exact hp
 ·have:=h.lov (i-1) (by omega);have e1:i-1+1=i:=by omega
  have e2:i-1+2=i+1:=by omega
  rw[e1,e2]at this;exact this
theorem Part.entry{n:Nat}{a:Nat->Row}(hs:∀i j,i<n->j<n->a i j=a j i)(hb:∀i j,i<n->j<n->a i j<=262144/\ -262144<=a i j):∀k,k<n->Part n a k->∀i j,i<n->j<n->k<=i->k<=j->
  stg a k i j<=lead a k*(262144+16384*(k:Int))/\ -(lead a k*(262144+16384*(k:Int)))<=stg a k i j:=by
 intro k
 induction k with
 |zero=>
  intro _ _ i j hi hj _ _;rw[zdk,zbh];have:=hb i j hi hj;omega
 |succ k ih=>
  intro hk h i j hi hj h1 h2;have hpre:Part n a k:=⟨λt ht=>h.pos t (by omega),λt ht=>h.lt t (by omega),λt i ht=>h.sized t i (by omega),λt ht=>h.lov t (by omega)⟩
  obtain⟨x1,x2⟩:=ih (by omega) hpre i j hi hj (by omega) (by omega);have hn:=hpre.ne;have e:=zbz hn i j;obtain⟨u1,u2⟩:=h.sized k i (by omega) hi (by omega);obtain⟨v1,v2⟩:=h.sized k j (by omega) hj (by omega);rw[zfn hs k (by omega) hn k j (by omega) hj (by omega) (by omega)]at e;have p:=hpre.pos' k (qE _);have p1:=h.pos k (by omega);have q1:=h.lt k (by omega);have:=jdc (by omega) (by omega) (by omega) e x1 x2 u1 u2 v1 v2;have c:(262144+16384*(k:Int)+16384)=262144+16384*((k+1:Nat):Int):=by omega
  rw[c]at this;exact this
theorem Part.entry35{n k:Nat}{a:Nat->Row}(h8:n<=8)(hs:∀i j,i<n->j<n->a i j=a j i)(hb:∀i j,i<n->j<n->a i j<=262144/\ -262144<=a i j)(hk:k<n)(h:Part n a k){i j:Nat}(hi:i<n)(hj:j<n)(h1:k<=i)(h2:k<=j):
  stg a k i j<=34359738368/\ -34359738368<=stg a k i j:=by
 obtain⟨e1,e2⟩:=Part.entry hs hb k hk h i j hi hj h1 h2;have p:=h.pos' k (qE _);have q:=h.lt' k (qE _)
 have c:lead a k*(262144+16384*(k:Int))<=65536*524288:=by
  have m1:lead a k*(262144+16384*(k:Int))<=65536*(262144+16384*(k:Int)):=Int.mul_le_mul_of_nonneg_right (by omega) (by omega);have m2:(65536:Int)*(262144+16384*(k:Int))<=65536*524288:=by omega
  omega
 omega
theorem Red.part{n:Nat}{a:Nat->Row}(h:Red n a){k:Nat}(hk:k+1<n):0<lead a (k+1)/\lead a (k+1)<65536/\(∀i,i<n->k<i->2*stg a k i k<=lead a (k+1)/\ -(2*stg a k i k)<=lead a (k+1))/\
  3*(lead a (k+1)*lead a (k+1))<=4*(lead a k*lead a (k+2)+stg a k (k+1) k*stg a k (k+1) k):=by
 have:=h.minor (k:=k+1) (by omega);refine⟨h.pos k (by omega),by omega,λi hi hki=>h.sized i k hi hki,?_⟩;have:=h.lov (k+1) (by omega) hk;exact this
theorem qml{n k:Nat}{a:Nat->Row}(h:Part n a k)(i j:Nat):Int.tdiv (lead a (k+1)*stg a k i j-stg a k i k*stg a k k j) (lead a k)=stg a (k+1) i j:=by
 rw[<-zbz h.ne i j,Int.mul_tdiv_cancel_left _ (h.ne k (qE _))]
