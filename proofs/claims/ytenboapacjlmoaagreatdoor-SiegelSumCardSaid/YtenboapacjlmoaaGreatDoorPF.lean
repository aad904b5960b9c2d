/- A part of the proof. -/
import Derived.Test.YtenboapacjlmoaaGreatDoorPE
import Derived.Test.YtenboapacjlmoaaGreatDoorPD
import Derived.Test.YtenboapacjlmoaaGreatDoorPC
import Derived.Test.YtenboapacjlmoaaGreatDoorPA
namespace Go.Proofs.YtenboapacjlmoaaGreatDoor
set_option linter.unusedSimpArgs false
set_option linter.unusedVariables false
open Go Go.AL Go.Proofs Go.Limb
set_option maxRecDepth 100000
def IsRat (n d:Int) (v:AV):Prop:= ∃a1 a2 b1 b2,v= .agg [a1,a2,b1,b2]∧IsInt n (.agg [a1,a2])∧IsInt d (.agg [b1,b2])
theorem qNew {n d:Int} {a b:AV} (ha:IsInt n a) (hb:IsInt d b) (hd:0<d):∃v,IsRat (numR n d) (denR n d) v∧Ret Tryz.prog G 26 [a,b] [] (.tup [v,.bool true]) []:=by
 have t1:=zSign hb
 have s1:d.sign=1:=Int.sign_eq_one_of_pos hd
 rw [s1] at t1
 have t2:=zGcd ha hb
 have hg:=gcd_pos (n:=n) hd
 have hgf:((Int.gcd n d:Nat):Int).natAbs<BIG:=by
  have h1:Int.gcd n d≤d.natAbs:=Nat.le_of_dvd (by omega) (Int.gcd_dvd_natAbs_right n d)
  have:=hb.fits
  omega
 have hgi:=intV_isInt hgf
 obtain ⟨v1,hv1,t3⟩:=zQuoA ha hgi (by omega)
 obtain ⟨v2,hv2,t4⟩:=zQuoA hb hgi (by omega)
 obtain ⟨lg,cg,_,_,_,heg⟩:=hgi
 rw [heg] at t2 t3 t4
 obtain ⟨l,ca,_,_,_,rfl⟩:=ha
 obtain ⟨m,cb,_,_,_,rfl⟩:=hb
 obtain ⟨l1,c1,_,_,_,he1⟩:=id hv1
 obtain ⟨l2,c2,_,_,_,he2⟩:=id hv2
 subst he1 he2
 refine ⟨_,⟨_,_,_,_,rfl,hv1,hv2⟩,?_⟩
 refine Ret_of mixed Tryz.func26 comp26 _ 28 res26 nt26 (by simp) (by simp) ?_
 simp only [c26,r26_0,r26_1,SS,reduceCtorEq,reduceIte,Nat.reduceAdd,Nat.reduceEqDiff,Nat.reduceLeDiff]
 refine callA_pure t1 ?_
 simp only [SS,reduceIte,Nat.reduceEqDiff]
 refine ⟨fun h=>absurd h (by decide),fun _=>?_⟩
 simp only [r26_3,SS,reduceIte,Nat.reduceAdd,Nat.reduceEqDiff,Nat.reduceLeDiff]
 refine callA_pure t1 ?_
 simp only [SS,reduceIte,Nat.reduceEqDiff]
 refine ⟨fun h=>absurd h (by decide),fun _=>?_⟩
 simp only [r26_5,SS,reduceIte,Nat.reduceAdd,Nat.reduceEqDiff,Nat.reduceLeDiff]
 refine callA_pure t2 ?_
 simp only [SS,reduceIte,Nat.reduceAdd,Nat.reduceEqDiff,Nat.reduceLeDiff]
 simp only [r26_6,SS,reduceIte,Nat.reduceAdd,Nat.reduceEqDiff,Nat.reduceLeDiff]
 refine callA_pure t3 ?_
 simp only [SS,reduceIte,Nat.reduceAdd,Nat.reduceEqDiff,Nat.reduceLeDiff]
 refine callA_pure t4 ?_
 simp only [SS,reduceIte,Nat.reduceAdd,Nat.reduceEqDiff,Nat.reduceLeDiff]
 refine ⟨rfl,?_⟩
 exact ⟨.inl trivial,_,rfl,.drop _ _ rfl (by intro i cs h;omega)⟩
theorem qNormalize {n d:Int} {v:AV} (h:IsRat n d v) (hd:0<d):∃w,IsRat (numR n d) (denR n d) w∧Ret Tryz.prog G 129 [v] [] w []:=by
 obtain ⟨a1,a2,b1,b2,rfl,h1,h2⟩:=h
 obtain ⟨w,hw,t1⟩:=qNew h1 h2 hd
 obtain ⟨l1,c1,e1,e2⟩:=intCells h1
 obtain ⟨l2,c2,e3,e4⟩:=intCells h2
 subst e1 e2 e3 e4
 obtain ⟨w1,w2,w3,w4,rfl,k1,k2⟩:=id hw
 obtain ⟨m1,d1,f1,f2⟩:=intCells k1
 obtain ⟨m2,d2,f3,f4⟩:=intCells k2
 subst f1 f2 f3 f4
 refine ⟨_,hw,?_⟩
 refine Ret_of mixed Tryz.func129 comp129 _ 17 res129 nt129 (by simp) (by simp) ?_
 simp only [c129,r129_0,r129_1,SS,reduceCtorEq,reduceIte,Nat.reduceAdd,Nat.reduceEqDiff,Nat.reduceLeDiff]
 refine callA_pure t1 ?_
 simp only [SS,reduceIte,Nat.reduceAdd,Nat.reduceEqDiff,Nat.reduceLeDiff,List.getElem?_cons_zero,List.getElem?_cons_succ]
 simp only [r129_2,SS,forall_const,reduceIte,Nat.reduceEqDiff]
 simp only [r129_4,SS,reduceIte,Nat.reduceAdd,Nat.reduceEqDiff,Nat.reduceLeDiff]
 exact ⟨.inl trivial,_,rfl,.drop _ _ rfl (by intro i cs h;omega)⟩
theorem qQuotient {n d:Int} {a b:AV} (ha:IsInt n a) (hb:IsInt d b) (hd:0<d):∃v,IsRat (numR n d) (denR n d) v∧Ret Tryz.prog G 81 [a,b] [] v []:=by
 obtain ⟨l,ca,q1,q2,q3,rfl⟩:=ha
 obtain ⟨m,cb,q4,q5,q6,rfl⟩:=hb
 obtain ⟨w,hw,t1⟩:=qNormalize (v:= .agg [.bool (decide (n<0)),.vec (u32s l) l.length ca,.bool (decide (d<0)),.vec (u32s m) m.length cb]) ⟨_,_,_,_,rfl,⟨l,ca,q1,q2,q3,rfl⟩,⟨m,cb,q4,q5,q6,rfl⟩⟩ hd
 obtain ⟨w1,w2,w3,w4,rfl,k1,k2⟩:=id hw
 obtain ⟨m1,d1,f1,f2⟩:=intCells k1
 obtain ⟨m2,d2,f3,f4⟩:=intCells k2
 subst f1 f2 f3 f4
 refine ⟨_,hw,?_⟩
 refine Ret_of mixed Tryz.func81 comp81 _ 9 res81 nt81 (by simp) (by simp) ?_
 simp only [c81,r81_0,r81_1,SS,reduceCtorEq,reduceIte,Nat.reduceAdd,Nat.reduceEqDiff,Nat.reduceLeDiff]
 refine callA_pure t1 ?_
 simp only [SS,reduceIte,Nat.reduceAdd,Nat.reduceEqDiff,Nat.reduceLeDiff]
 exact ⟨.inl trivial,_,rfl,.drop _ _ rfl (by intro i cs h;omega)⟩
theorem qHalf:∃v,IsRat 1 2 v∧Ret Tryz.prog G 128 [] [] v []:=by
 obtain ⟨v1,hv1,t1⟩:=zSmall 1 (by omega) (by omega)
 obtain ⟨v2,hv2,t2⟩:=zSmall 2 (by omega) (by omega)
 obtain ⟨l1,c1,_,_,_,he1⟩:=id hv1
 obtain ⟨l2,c2,_,_,_,he2⟩:=id hv2
 subst he1 he2
 refine ⟨_,⟨_,_,_,_,rfl,hv1,hv2⟩,?_⟩
 refine Ret_of mixed Tryz.func128 comp128 _ 4 res128 nt128 (by simp) (by simp) ?_
 simp only [c128,r128_0,r128_1,SS,reduceCtorEq]
 refine callA_pure t1 ?_
 simp only [SS]
 refine callA_pure t2 ?_
 simp only [SS,reduceCtorEq,reduceIte,Nat.reduceAdd,Nat.reduceEqDiff,Nat.reduceLeDiff]
 exact ⟨.inl trivial,_,rfl,.drop _ _ rfl (by intro i cs h;omega)⟩
theorem qAddHalf {l d:Int} {v h:AV} (hv:IsRat (numR l d) (denR l d) v) (hh:IsRat 1 2 h) (hd:0<d) (hf:2*(l.natAbs+d.natAbs)<BIG):
  ∃w,IsRat (numR (numR l d*2+1*denR l d) (denR l d*2)) (denR (numR l d*2+1*denR l d) (denR l d*2)) w∧Ret Tryz.prog G 127 [v,h] [] w []:=by
 have hdp:=den_pos (n:=l) hd
 have hnl:=num_le l d
 have hdl:=den_le l d
 obtain ⟨x,hx,t1⟩:=qNormalize hv hdp
 rw [num_num hd,den_den hd] at hx
 obtain ⟨y,hy,t2⟩:=qNormalize hh (by decide)
 rw [half_num,half_den] at hy
 obtain ⟨a1,a2,a3,a4,rfl,p1,p2⟩:=hv
 obtain ⟨b1,b2,b3,b4,rfl,p3,p4⟩:=hh
 obtain ⟨x1,x2,x3,x4,rfl,k1,k2⟩:=hx
 obtain ⟨y1,y2,y3,y4,rfl,k3,k4⟩:=hy
 obtain ⟨m1,hm1,t3⟩:=zMul k1 k4 (by omega)
 obtain ⟨m2,hm2,t4⟩:=zMul k3 k2 (by omega)
 obtain ⟨s,hs,t5⟩:=zAdd hm1 hm2 (by omega)
 obtain ⟨m3,hm3,t6⟩:=zMul k2 k4 (by omega)
 obtain ⟨w,hw,t7⟩:=qNew hs hm3 (by omega)
 obtain ⟨_,_,e1,e2⟩:=intCells p1
 obtain ⟨_,_,e3,e4⟩:=intCells p2
 obtain ⟨_,_,e5,e6⟩:=intCells p3
 obtain ⟨_,_,e7,e8⟩:=intCells p4
 subst e1 e2 e3 e4 e5 e6 e7 e8
 obtain ⟨_,_,e1,e2⟩:=intCells k1
 obtain ⟨_,_,e3,e4⟩:=intCells k2
 obtain ⟨_,_,e5,e6⟩:=intCells k3
 obtain ⟨_,_,e7,e8⟩:=intCells k4
 subst e1 e2 e3 e4 e5 e6 e7 e8
 obtain ⟨_,_,_,_,_,rfl⟩:=id hm1
 obtain ⟨_,_,_,_,_,rfl⟩:=id hm2
 obtain ⟨_,_,_,_,_,rfl⟩:=id hm3
 obtain ⟨_,_,_,_,_,rfl⟩:=id hs
 obtain ⟨w1,w2,w3,w4,rfl,j1,j2⟩:=id hw
 obtain ⟨_,_,e1,e2⟩:=intCells j1
 obtain ⟨_,_,e3,e4⟩:=intCells j2
 subst e1 e2 e3 e4
 refine ⟨_,hw,?_⟩
 refine Ret_of mixed Tryz.func127 comp127 _ 34 res127 nt127 (by simp) (by simp) ?_
 simp only [c127,r127_0,r127_1,SS,reduceCtorEq,reduceIte,Nat.reduceAdd,Nat.reduceEqDiff,Nat.reduceLeDiff]
 refine callA_pure t1 ?_
 simp only [SS,reduceIte,Nat.reduceAdd,Nat.reduceEqDiff,Nat.reduceLeDiff]
 refine callA_pure t2 ?_
 simp only [SS,reduceIte,Nat.reduceAdd,Nat.reduceEqDiff,Nat.reduceLeDiff]
 refine ⟨rfl,?_⟩
 simp only [r127_2,SS,reduceIte,Nat.reduceAdd,Nat.reduceEqDiff,Nat.reduceLeDiff]
 refine callA_pure t3 ?_
 simp only [SS,reduceIte,Nat.reduceAdd,Nat.reduceEqDiff,Nat.reduceLeDiff]
 refine callA_pure t4 ?_
 simp only [SS,reduceIte,Nat.reduceEqDiff]
 refine callA_pure t5 ?_
 simp only [SS,reduceIte,Nat.reduceAdd,Nat.reduceEqDiff,Nat.reduceLeDiff]
 refine callA_pure t6 ?_
 simp only [SS,reduceIte,Nat.reduceEqDiff]
 refine callA_pure t7 ?_
 simp only [SS,reduceIte,Nat.reduceAdd,Nat.reduceEqDiff,Nat.reduceLeDiff,List.getElem?_cons_zero,List.getElem?_cons_succ]
 refine ⟨rfl,?_⟩
 simp only [r127_3,SS,reduceIte,Nat.reduceAdd,Nat.reduceEqDiff,Nat.reduceLeDiff]
 exact ⟨.inl trivial,_,rfl,.drop _ _ rfl (by intro i cs h;omega)⟩
theorem qFloor {n d:Int} {v:AV} (h:IsRat n d v) (hd:0<d):∃w,IsInt (n/d) w∧Ret Tryz.prog G 126 [v] [] w []:=by
 obtain ⟨x,hx,t1⟩:=qNormalize h hd
 have hdp:=den_pos (n:=n) hd
 obtain ⟨a1,a2,a3,a4,rfl,p1,p2⟩:=h
 obtain ⟨x1,x2,x3,x4,rfl,k1,k2⟩:=hx
 obtain ⟨w,hw,t2⟩:=zQuoA k1 k2 (by omega)
 rw [quo_low hd] at hw
 obtain ⟨_,_,e1,e2⟩:=intCells p1
 obtain ⟨_,_,e3,e4⟩:=intCells p2
 subst e1 e2 e3 e4
 obtain ⟨_,_,e1,e2⟩:=intCells k1
 obtain ⟨_,_,e3,e4⟩:=intCells k2
 subst e1 e2 e3 e4
 obtain ⟨_,_,_,_,_,rfl⟩:=id hw
 refine ⟨_,hw,?_⟩
 refine Ret_of mixed Tryz.func126 comp126 _ 11 res126 nt126 (by simp) (by simp) ?_
 simp only [c126,r126_0,r126_1,SS,reduceCtorEq,reduceIte,Nat.reduceAdd,Nat.reduceEqDiff,Nat.reduceLeDiff]
 refine callA_pure t1 ?_
 simp only [SS,reduceIte,Nat.reduceAdd,Nat.reduceEqDiff,Nat.reduceLeDiff]
 simp only [r126_2,SS,reduceIte,Nat.reduceAdd,Nat.reduceEqDiff,Nat.reduceLeDiff]
 refine callA_pure t2 ?_
 simp only [SS,reduceIte,Nat.reduceAdd,Nat.reduceEqDiff,Nat.reduceLeDiff]
 exact ⟨.inl trivial,_,rfl,.drop _ _ rfl (by intro i cs h;omega)⟩
theorem qNearest {l d:Int} {v:AV} (hv:IsRat (numR l d) (denR l d) v) (hd:0<d) (hf:2*(l.natAbs+d.natAbs)<BIG):∃w,IsInt (nearZ l d) w∧Ret Tryz.prog G 80 [v] [] w []:=by
 obtain ⟨h,hh,t1⟩:=qHalf
 obtain ⟨s,hs,t2⟩:=qAddHalf hv hh hd hf
 have hdp:=den_pos (n:=l) hd
 have hd2:0<denR l d*2:=by omega
 obtain ⟨w,hw,t3⟩:=qFloor hs (den_pos hd2)
 rw [quo_low hd2,near_low hd] at hw
 obtain ⟨a1,a2,a3,a4,rfl,p1,p2⟩:=hv
 obtain ⟨b1,b2,b3,b4,rfl,p3,p4⟩:=hh
 obtain ⟨s1,s2,s3,s4,rfl,p5,p6⟩:=hs
 obtain ⟨_,_,e1,e2⟩:=intCells p1
 obtain ⟨_,_,e3,e4⟩:=intCells p2
 obtain ⟨_,_,e5,e6⟩:=intCells p3
 obtain ⟨_,_,e7,e8⟩:=intCells p4
 subst e1 e2 e3 e4 e5 e6 e7 e8
 obtain ⟨_,_,e1,e2⟩:=intCells p5
 obtain ⟨_,_,e3,e4⟩:=intCells p6
 subst e1 e2 e3 e4
 obtain ⟨_,_,_,_,_,rfl⟩:=id hw
 refine ⟨_,hw,?_⟩
 refine Ret_of mixed Tryz.func80 comp80 _ 7 res80 nt80 (by simp) (by simp) ?_
 simp only [c80,r80_0,r80_1,SS,reduceCtorEq,reduceIte,Nat.reduceAdd,Nat.reduceEqDiff,Nat.reduceLeDiff]
 refine callA_pure t1 ?_
 simp only [SS,reduceIte,Nat.reduceEqDiff]
 refine callA_pure t2 ?_
 simp only [SS,reduceIte,Nat.reduceEqDiff]
 refine callA_pure t3 ?_
 simp only [SS,reduceIte,Nat.reduceAdd,Nat.reduceEqDiff,Nat.reduceLeDiff]
 refine ⟨rfl,?_⟩
 exact ⟨.inl trivial,_,rfl,.drop _ _ rfl (by intro i cs h;omega)⟩
end Go.Proofs.YtenboapacjlmoaaGreatDoor
namespace Go.Proofs.YtenboapacjlmoaaGreatDoor
set_option linter.unusedSimpArgs false
set_option linter.unusedVariables false
open Go Go.AL Go.Proofs Go.Limb
set_option maxRecDepth 100000
def idB (H:Heap) (ps:List (Nat×Option Nat)) (uv:List AV):Nat→Heap
 | 0=>H
 | i+1=>(idB H ps uv i).set (pid ps i) (some (setL ((getB (idB H ps uv i) (pid ps i)).getD []) (i*2) uv))
def idX (n:Nat):Nat→List (List Int)
 | 0=>zmat n n
 | i+1=>setM (idX n i) i i 1
theorem idX_len (n:Nat):∀i,(idX n i).length=n:=by
 intro i
 induction i with
 | zero=>exact (zmat_shp n n).1
 | succ i ih=>show (setM _ _ _ _).length=n;rw [setM_len,ih]
theorem idB_mat {H:Heap} {ps:List (Nat×Option Nat)} {n:Nat} {u v:AV} (h:MatH H 0 ps n (zmat n n)) (hz:IsInt 1 (.agg [u,v])):∀i,i≤n→MatH (idB H ps [u,v] i) 0 ps n (idX n i):=by
 intro i
 induction i with
 | zero=>intro _;exact h
 | succ i ih=>
  intro hi
  have hM:=ih (by omega)
  obtain ⟨cs,gk,_⟩:=mat_get hM (i:=i) (by rw [idX_len];omega)
  have:=mat_set hM (i:=i) (j:=i) (by rw [idX_len];omega) (by omega) hz gk
  show MatH ((idB H ps [u,v] i).set (pid ps i) (some (setL ((getB (idB H ps [u,v] i) (pid ps i)).getD []) (i*2) [u,v]))) 0 ps n (setM (idX n i) i i 1)
  rw [gk]
  exact this
theorem idX_ent {n:Nat}:∀i,i≤n→(∀s,s<n→((idX n i).getD s []).length=n)∧∀s t,ent (idX n i) s t=if s<i∧s=t then 1 else 0:=by
 intro i
 induction i with
 | zero=>intro _;exact ⟨(zmat_shp n n).2,fun s t=>by rw [if_neg (by omega)];exact zmat_ent n n s t⟩
 | succ i ih=>
  intro hi
  obtain ⟨h1,h2⟩:=ih (by omega)
  have hl:=idX_len n i
  have hrow:∀s,s<n→((setM (idX n i) i i 1).getD s []).length=n:=by
   intro s hs
   unfold setM
   rw [List.getD_eq_getElem?_getD,List.getElem?_set]
   by_cases e:i=s
   ·subst e
    rw [if_pos rfl,if_pos (by omega),Option.getD_some,List.length_set];exact h1 i hs
   ·rw [if_neg e,←List.getD_eq_getElem?_getD];exact h1 s hs
  refine ⟨hrow,fun s t=>?_⟩
  show ent (setM (idX n i) i i 1) s t=_
  rw [ent_set' (by omega) (by rw [h1 i (by omega)];omega),h2]
  by_cases e1:s=i∧t=i
  ·rw [if_pos e1,if_pos ⟨by omega,by omega⟩]
  ·rw [if_neg e1]
   by_cases e2:s<i∧s=t
   ·rw [if_pos e2,if_pos ⟨by omega,e2.2⟩]
   ·rw [if_neg e2,if_neg (by omega)]
theorem idX_id (n:Nat):idX n n=idM n:=by
 obtain ⟨h1,h2⟩:=idX_ent (n:=n) n (Nat.le_refl _)
 refine shp_ext (n:=n) ⟨idX_len n n,h1⟩ (id_shp n) fun s t hs ht=>?_
 rw [h2,id_ent hs ht]
 by_cases e:s=t
 ·rw [if_pos ⟨hs,e⟩,if_pos e]
 ·rw [if_neg (fun x=>e x.2),if_neg e]
theorem mIdentityH {n:Nat} (hn:1≤n∧n≤16):∃H1 ps,MatH H1 0 ps n (idM n)∧Ret Tryz.prog G 35 [.int .i64 (n:Nat)] [] (.tup [.sl 0 0 n 1 (some n),.bool true]) H1:=by
 obtain ⟨H1,ps,hH1,hz⟩:=zero_first n n
 obtain ⟨v,hv,ts⟩:=zSmall 1 (by omega) (by omega)
 have hv0:=hv
 obtain ⟨lv,cv,_,_,_,rfl⟩:=hv0
 have hM:=idB_mat hz hv
 refine ⟨idB H1 ps _ n,ps,by have:=hM n (Nat.le_refl _);rw [idX_id] at this;exact this,?_⟩
 refine Ret_of mixed Tryz.func35 comp35 _ 29 res35 nt35 (by simp) (by simp) ?_
 simp only [c35,r35_0,r35_1,SS,forall_const,reduceCtorEq,reduceIte,Nat.reduceEqDiff]
 refine ⟨fun _=>⟨fun h=>absurd h (by omega),fun _=>?_⟩,fun h=>absurd h (by omega)⟩
 simp only [r35_3,SS,reduceCtorEq,reduceIte,Nat.reduceEqDiff]
 refine callA_new (mZero hn.2 hn.2) rfl ?_
 simp only [restA,SS,reduceIte,Nat.reduceEqDiff,AV.ren,names_nil,Nat.add_zero,hH1]
 simp only [r35_4,SS,reduceIte,Nat.reduceEqDiff]
 refine W_loop (fun k E H=>∃i,i+k=n∧H=idB H1 ps [.bool (decide ((1:Int)<0)),.vec (u32s lv) lv.length cv] i∧E 4= .sl 0 0 n 1 (some n)∧E 16= .int .i64 (n:Nat)∧E 17= .int .i64 (i:Nat)) (n:=n) ⟨0,by omega,rfl,by simp only [upd_app,argsE_app,List.getD_cons_succ,Nat.reduceEqDiff,reduceIte,if_false],by simp only [upd_app,argsE_app,List.getD_cons_succ,Nat.reduceEqDiff,reduceIte,if_false],by simp only [upd_app,argsE_app,List.getD_cons_succ,Nat.reduceEqDiff,reduceIte,if_false];rfl⟩ ?_
 rintro k E H ⟨i,hik,rfl,e4,e16,e17⟩
 refine wpC_sound mixed ?_
 simp only [l35_0,r35_5,SS,reduceCtorEq,reduceIte,e16,e17]
 refine ⟨fun hlt=>?_,fun hge=>?_⟩
 ·obtain ⟨k,rfl⟩:∃k',k=k'+1:=⟨k-1,by omega⟩
  have hi:i<n:=by omega
  have hMi:=hM i (by omega)
  have hXl:=idX_len n i
  obtain ⟨csk,gk,lk,rk,fk⟩:=mat_get hMi (i:=i) (by omega)
  have ok:=mat_outer (ps:=ps) (n:=n) (i:=i) (by rw [hMi.len];omega)
  have hol:(ps.map (slRow n)).length=n:=by rw [List.length_map,hMi.len];exact hXl
  have hou:=hMi.outer
  have w5:IntKind.i64.wrap ((i:Int)+1)=((i+1:Nat):Int):=by rw [show (i:Int)+1=((i+1:Nat):Int) by omega];exact w64 (by omega) (by omega)
  simp only [r35_6,r35_7,SS,forall_const,reduceIte,Nat.reduceEqDiff,e4,e17,Int.toNat_natCast,hou,hol,ok]
  refine ⟨⟨by omega,by omega⟩,by omega,?_⟩
  refine callA_pure ts ?_
  simp only [SS,reduceIte,Nat.reduceAdd,Nat.reduceEqDiff,gk,lk,Int.toNat_natCast]
  refine ⟨⟨by omega,by omega⟩,by omega,rfl,?_⟩
  simp only [r35_8,SS,reduceIte,Nat.reduceEqDiff,e17,w5]
  refine ⟨k,_,_,by omega,⟨i+1,by omega,?_,?_,?_,?_⟩,.refl⟩
  ·show _=(idB H1 ps _ i).set (pid ps i) (some (setL ((getB (idB H1 ps _ i) (pid ps i)).getD []) (i*2) _))
   rw [gk]
   rfl
  all_goals simp only [upd_app,Nat.reduceEqDiff,reduceIte,if_false, *]
 ·have hin:i=n:=by omega
  subst hin
  simp only [r35_9,SS,reduceIte,Nat.reduceEqDiff,e4]
  exact ⟨.inl trivial,_,rfl,.keep _ _⟩
end Go.Proofs.YtenboapacjlmoaaGreatDoor
namespace Go.Proofs.YtenboapacjlmoaaGreatDoor
set_option linter.unusedSimpArgs false
set_option linter.unusedVariables false
open Go Go.AL Go.Proofs Go.Limb Go.Det
set_option maxRecDepth 100000
structure StepOut (n:Nat) (M:List (List Int)) (out:AV):Prop where
 add:∀i j,CurA n (rowF M) i j→out= .tup [matC (nearU n M i j),.bool true]
 sw:∀i,CurS n (rowF M) i→out= .tup [matC (swapU n i),.bool true]
 none:(∀i,i<n→OKr (rowF M) i)→out= .tup [.vec [] 0 none,.bool false]
theorem rStep_in {n N A0:Nat} {M:List (List Int)} {ar:List AV} {ac:Option Nat} {ds:List Int} (hsq:Sq n M (.vec ar n ac)) (hL:Lead BIG n M ds) (hF:FitN N BIG A0) (hb:Bnd A0 M) (hnN:n≤N) (hp:∀t,t≤n→0<lead (rowF M) t) (hds:leadL BIG M n=some ds) (hdf:∀z∈ds,z.natAbs≤bndS A0 N)
  {H2:Heap} {ps:List (Nat×Option Nat)} (hH:MatH H2 0 ps n (idM n)) {out:AV} (ho:StepOut n M out) {i:Nat} (hi:i<n) (hpre:∀s,s<i→OKr (rowF M) s) {v22 v23:AV} {E:Env} {Q:Post}
  (e0:E 0= .vec ar n ac) (e4:E 4=rowV ds) (e6:E 6= .sl 0 0 n 1 (some n)) (e8:E 8= .int .i64 (i:Nat)) (e9:E 9= .int .i64 ((i:Int)-1)) (e22:E 22=v22) (e23:E 23=v23)
  (hret:∀E' H' v,E' 2= .sl 0 0 n 1 (some n)→E' 3= .bool true→AL.Fin 0 (.tup [.sl 0 0 n 1 (some n),.bool true]) H' v []→v.wk=out→Q .ret E' H')
  (hQ:∀E',(∀l,l<i→SZ (rowF M) i l)→E' 0= .vec ar n ac→E' 4=rowV ds→E' 6= .sl 0 0 n 1 (some n)→E' 8= .int .i64 (i:Nat)→E' 22=v22→E' 23=v23→Q (.exit 2) E' H2):
  W Tryz.prog G 0 83 (.loop l36_1) E H2 Q:=by
 have hn:1≤n∧n≤8:=⟨hsq.lo,hsq.hi⟩
 refine W_loop (fun k E H=>k≤i∧(∀l,k≤l→l<i→SZ (rowF M) i l)∧H=H2∧E 0= .vec ar n ac∧E 4=rowV ds∧E 6= .sl 0 0 n 1 (some n)∧E 8= .int .i64 (i:Nat)∧E 9= .int .i64 ((k:Int)-1)∧E 22=v22∧E 23=v23) (n:=i)
  ⟨Nat.le_refl _,fun l h1 h2=>absurd h2 (by omega),rfl,e0,e4,e6,e8,e9,e22,e23⟩ ?_
 clear e0 e4 e6 e8 e9 e22 e23 E
 rintro k E H ⟨hki,hup,rfl,e0,e4,e6,e8,e9,e22,e23⟩
 refine wpC_sound mixed ?_
 simp only [l36_1,r36_7,SS,reduceIte,Nat.reduceEqDiff,e9]
 refine ⟨fun hge=>?_,fun hlt=>?_⟩
 ·obtain ⟨k,rfl⟩:∃k',k=k'+1:=⟨k-1,by omega⟩
  have e9k:((k+1:Nat):Int)-1=(k:Nat):=by omega
  rw [e9k] at e9
  have hk:k<n:=by omega
  have tS:=rSized divB_all hsq hL hi hk (sized_dec hF hb hnN hds hp (i:=i) hk)
  have c1:AV.closed.closedL [.vec ar n ac,rowV ds,.int .i64 (i:Nat),.int .i64 (k:Nat)]=true:=rfl
  have w3:IntKind.i64.wrap ((k:Int)-1)=(k:Int)-1:=w64 (by omega) (by omega)
  simp only [r36_8,SS,reduceCtorEq,reduceIte,Nat.reduceEqDiff,e0,e4,e8,e9,e9k]
  refine callA_pure tS ?_ c1
  simp only [SS,reduceIte,Nat.reduceEqDiff]
  by_cases hz:SZ (rowF M) i k
  ·have d1:decide (SZ (rowF M) i k)=true:=decide_eq_true hz
   simp only [SS,forall_const,d1]
   simp only [r36_11,SS,reduceIte,Nat.reduceEqDiff,e9,w3]
   refine ⟨k,_,_,by omega,⟨by omega,fun l h1 h2=>?_,rfl,?_,?_,?_,?_,?_,?_,?_⟩,.refl⟩
   ·rcases (by omega:l=k∨k+1≤l) with e | e
    ·rw [e];exact hz
    ·exact hup l e h2
   all_goals simp only [upd_app,Nat.reduceEqDiff,reduceIte,if_false, *]
  ·have d1:decide (SZ (rowF M) i k)=false:=decide_eq_false hz
   have hc:CurA n (rowF M) i k:=⟨hi,by omega,hpre,fun l h1 h2=>hup l (by omega) h2,hz⟩
   have hout:=ho.add i k hc
   obtain ⟨hlam,hlb⟩:=lam_val hF hb hnN hp (i:=i) (j:=k) hk
   obtain ⟨hdet,hlf⟩:=lamO_some hlam
   have tL:=rLambda divB_all hsq hi hk hdet hlf
   have hli:=intV_isInt (z:=stg (rowF M) k i k) hlf
   have tM:=tMinor divB_all hL hn.2 (k:=k+1) (by omega)
   have hmin:minorZ ds (k+1)=lead (rowF M) (k+1):=minor_lead hds hp (by omega)
   have hmi:=intV_isInt (minor_fits divB_all hL (k+1))
   rw [hmin] at tM hmi
   have hdp:=hp (k+1) (by omega)
   obtain ⟨q,hq,tQ⟩:=qQuotient hli hmi hdp
   have hmb:=minor_bnd hF hdf (k+1)
   rw [hmin] at hmb
   have hfit:=hF.fit
   have hsq1:=Nat.mul_le_mul_left (bndS A0 N) (bndS_pos hF.one N)
   obtain ⟨w,hw,tN⟩:=qNearest hq hdp (by omega)
   obtain ⟨x,hx,tG⟩:=zNeg hw
   obtain ⟨csk,gk,lk,rk,fk⟩:=mat_get hH (i:=k) (by rw [(id_shp n).len];exact hk)
   have ok:=mat_outer (ps:=ps) (n:=n) (i:=k) (by rw [hH.len,(id_shp n).len];exact hk)
   have hol:(ps.map (slRow n)).length=n:=by rw [List.length_map,hH.len];exact (id_shp n).len
   have hou:=hH.outer
   have hx0:=hx
   obtain ⟨lx,cx,_,_,_,rfl⟩:=hx0
   have hset:=mat_set hH (i:=k) (j:=i) (by rw [(id_shp n).len];exact hk) hi hx gk
   have eU:setM (idM n) k i (-(nearZ (stg (rowF M) k i k) (lead (rowF M) (k+1))))=nearU n M i k:=rfl
   rw [eU] at hset
   have hUl:(nearU n M i k).length=n:=(addU_shp (c:= -(nearZ (stg (rowF M) k i k) (lead (rowF M) (k+1)))) (i:=i) hk).len
   obtain ⟨a1,a2,b1,b2,rfl,p1,p2⟩:=id hq
   obtain ⟨_,_,y1,y2⟩:=intCells p1
   obtain ⟨_,_,y3,y4⟩:=intCells p2
   subst y1 y2 y3 y4
   obtain ⟨lw,cw,_,_,_,hew⟩:=id hw
   subst hew
   have w6:IntKind.i64.wrap ((k:Int)+1)=((k+1:Nat):Int):=by rw [show (k:Int)+1=((k+1:Nat):Int) by omega];exact w64 (by omega) (by omega)
   have cL:AV.closed.closedL [.vec ar n ac,.int .i64 (i:Nat),.int .i64 (k:Nat)]=true:=rfl
   have cM:AV.closed.closedL [rowV ds,.int .i64 ((k+1:Nat):Int)]=true:=rfl
   have cQ:AV.closed.closedL [intV (stg (rowF M) k i k),intV (lead (rowF M) (k+1))]=true:=by simp only [AV.closed.closedL,hli.closed,hmi.closed,Bool.and_self]
   simp only [SS,forall_const,d1]
   simp only [r36_9,SS,forall_const,reduceCtorEq,reduceIte,Nat.reduceEqDiff,e0,e6,e8,e9,Int.toNat_natCast,hou,hol,ok]
   refine ⟨⟨by omega,by omega⟩,by omega,?_⟩
   refine callA_pure tL ?_ cL hli.closed
   simp only [SS,reduceIte,Nat.reduceEqDiff,e4,e9,w6]
   refine callA_pure tM ?_ cM hmi.closed
   simp only [SS,reduceIte,Nat.reduceEqDiff]
   refine callA_pure tQ ?_ cQ
   simp only [SS,reduceIte,Nat.reduceEqDiff]
   refine callA_pure tN ?_
   simp only [SS,reduceIte,Nat.reduceEqDiff]
   refine callA_pure tG ?_
   simp only [SS,reduceIte,Nat.reduceAdd,Nat.reduceEqDiff,gk,lk,Int.toNat_natCast]
   refine ⟨⟨by omega,by omega⟩,by omega,rfl,?_⟩
   simp only [r36_10,SS,reduceIte,Nat.reduceEqDiff,e6]
   obtain ⟨v,g1,g2⟩:=fin_matT (cap:=some n) (b:=true) hset
   rw [hUl] at g1
   exact hret _ _ v (by simp only [upd_app,Nat.reduceEqDiff,reduceIte,if_false]) (by simp only [upd_app,Nat.reduceEqDiff,reduceIte,if_false]) g1 (by rw [g2,hout])
 ·have hk0:k=0:=by omega
  subst hk0
  exact hQ _ (fun l hl=>hup l (Nat.zero_le _) hl) (by simp only [upd_app,Nat.reduceEqDiff,if_false,e0]) (by simp only [upd_app,Nat.reduceEqDiff,if_false,e4]) (by simp only [upd_app,Nat.reduceEqDiff,if_false,e6]) (by simp only [upd_app,Nat.reduceEqDiff,if_false,e8]) (by simp only [upd_app,Nat.reduceEqDiff,if_false,e22]) (by simp only [upd_app,Nat.reduceEqDiff,if_false,e23])
theorem rStep {n N A0:Nat} {M:List (List Int)} {a out:AV} {ds:List Int} (hsq:Sq n M a) (hF:FitN N BIG A0) (hb:Bnd A0 M) (hnN:n≤N) (hp:∀t,t≤n→0<lead (rowF M) t) (ho:StepOut n M out):Ret Tryz.prog G 36 [a] [] out []:=by
 have hn:1≤n∧n≤8:=⟨hsq.lo,hsq.hi⟩
 obtain ⟨ds,hds,hdf⟩:=leadL_ok hF hb n hnN
 have hds':leadO BIG M=some ds:=by unfold leadO;rw [hsq.len];exact hds
 have hL:=lead_mk hsq hds'
 have t1:=eLeading divB_all hsq hds'
 obtain ⟨H0,ps0,hM0,t2⟩:=mIdentityH (n:=n) (by omega)
 have hM2:=mat_shift (H:=[]) hM0
 have hH2:applyE (effs (names [] 0) 0 H0) (List.replicate H0.length none)=H0.map (renB (names [] 0)):=effs_new (H:=[]) (names [] 0) (fun i=>names_nil 0 i) H0 []
 simp only [List.nil_append,List.length_nil] at hM2
 have c1:AV.closed.closedL [a]=true:=by simp only [AV.closed.closedL,hsq.closed,Bool.and_self]
 obtain ⟨ar,ac,hae,hal,har⟩:=hsq.mat
 subst hae
 rw [hsq.len] at hsq t1 c1 ⊢
 refine Ret_ofw mixed Tryz.func36 comp36 _ 83 res36 nt36 (by simp) (by simp) ?_
 simp only [c36,r36_0,r36_1,SS,reduceCtorEq,reduceIte]
 refine callA_pure t1 ?_ c1
 simp only [SS,reduceIte,Nat.reduceEqDiff,List.getElem?_cons_zero,List.getElem?_cons_succ]
 simp only [r36_2,SS,reduceCtorEq,reduceIte,Nat.reduceEqDiff]
 refine callA_new t2 rfl ?_
 simp only [restA,SS,reduceIte,Nat.reduceEqDiff,AV.ren,AV.ren.renL,names_nil,Nat.add_zero,hH2,List.getElem?_cons_zero,List.getElem?_cons_succ]
 generalize H0.map (renB (names [] 0))=H2 at*
 generalize (ps0.map fun p=>(0+p.1,p.2))=ps at*
 simp only [r36_3,SS,reduceCtorEq,reduceIte,Nat.reduceEqDiff]
 have hret:∀E' H' v,E' 2= .sl 0 0 n 1 (some n)→E' 3= .bool true→AL.Fin 0 (.tup [.sl 0 0 n 1 (some n),.bool true]) H' v []→v.wk=out→∃v' v'',resA Tryz.prog [.tmp 2,.tmp 3] E' H'=some v'∧AL.Fin 0 v' H' v'' []∧v''.wk=out:=by
  intro E' H' v f2 f3 g gw
  refine ⟨.tup [.sl 0 0 n 1 (some n),.bool true],v,?_,g,gw⟩
  simp only [resA,resOne,List.mapM_cons,List.mapM_nil,f2,f3]
  rfl
 refine W_loop (fun k E H=>∃i,i+k=n∧H=H2∧E 0= .vec ar n ac∧E 4=rowV ds∧E 6= .sl 0 0 n 1 (some n)∧E 22= .int .i64 (n:Nat)∧E 23= .int .i64 (i:Nat)∧∀s,s<i→OKr (rowF M) s) (n:=n)
  ⟨0,by omega,rfl,by simp only [upd_app,argsE_app,List.getD_cons_zero,Nat.reduceEqDiff,if_false],by simp only [upd_app,argsE_app,List.getD_cons_succ,Nat.reduceEqDiff,reduceIte,if_false],by simp only [upd_app,argsE_app,List.getD_cons_succ,Nat.reduceEqDiff,reduceIte,if_false],by simp only [upd_app,argsE_app,List.getD_cons_succ,Nat.reduceEqDiff,reduceIte,if_false],by simp only [upd_app,argsE_app,List.getD_cons_succ,Nat.reduceEqDiff,reduceIte,if_false];rfl,fun s hs=>absurd hs (by omega)⟩ ?_
 rintro k E H ⟨i,hik,rfl,e0,e4,e6,e22,e23,hpre⟩
 refine wpC_sound mixed ?_
 simp only [l36_0,r36_4,SS,reduceCtorEq,reduceIte,e22,e23]
 refine ⟨fun hlt=>?_,fun hge=>?_⟩
 ·obtain ⟨k,rfl⟩:∃k',k=k'+1:=⟨k-1,by omega⟩
  have hi:i<n:=by omega
  have w5:IntKind.i64.wrap ((i:Int)+1)=((i+1:Nat):Int):=by rw [show (i:Int)+1=((i+1:Nat):Int) by omega];exact w64 (by omega) (by omega)
  have w3:IntKind.i64.wrap ((i:Int)-1)=(i:Int)-1:=w64 (by omega) (by omega)
  simp only [r36_5,r36_6,SS,reduceIte,Nat.reduceEqDiff,e23,w3]
  refine rStep_in (ar:=ar) (ac:=ac) hsq hL hF hb hnN hp hds hdf hM2 ho hi hpre (by simp only [upd_app,Nat.reduceEqDiff,if_false,e0]) (by simp only [upd_app,Nat.reduceEqDiff,if_false,e4]) (by simp only [upd_app,Nat.reduceEqDiff,if_false,e6]) (by simp only [upd_app,Nat.reduceEqDiff,reduceIte,if_false]) (by simp only [upd_app,Nat.reduceEqDiff,reduceIte,if_false]) (by simp only [upd_app,Nat.reduceEqDiff,if_false];exact e22) (by simp only [upd_app,Nat.reduceEqDiff,if_false];exact e23) ?_ ?_
  ·intro E' H' v f2 f3 g gw
   simp only [SS,reduceCtorEq]
   exact ⟨.inl trivial,hret E' H' v f2 f3 g gw⟩
  intro E' hSZ f0 f4 f6 f8 f22 f23
  rcases Nat.eq_zero_or_pos i with h0 | h0
  ·have d0:decide ((0:Int)<(i:Nat))=false:=decide_eq_false (by omega)
   simp only [SS,forall_const,reduceCtorEq,reduceIte,Nat.reduceEqDiff,r36_12,f0,f4,f8,d0]
   simp only [r36_15,SS,reduceIte,Nat.reduceEqDiff,f23,w5]
   refine ⟨k,_,_,by omega,⟨i+1,by omega,rfl,?_,?_,?_,?_,?_,fun s hs=>?_⟩,.refl⟩
   ·simp only [upd_app,Nat.reduceEqDiff,if_false, *]
   ·simp only [upd_app,Nat.reduceEqDiff,if_false, *]
   ·simp only [upd_app,Nat.reduceEqDiff,if_false, *]
   ·simp only [upd_app,Nat.reduceEqDiff,if_false, *]
   ·simp only [upd_app,Nat.reduceEqDiff,reduceIte,if_false, *]
   ·rcases (by omega:s<i∨s=i) with e | e
    ·exact hpre s e
    ·rw [e];exact ⟨hSZ,fun h=>absurd h (by omega)⟩
  ·have d0:decide ((0:Int)<(i:Nat))=true:=decide_eq_true (by omega)
   have tV:=rLovasz divB_all hsq hL h0 hi (lov_dec hF hb hnN hds hdf hp h0 hi)
   simp only [SS,forall_const,reduceCtorEq,reduceIte,Nat.reduceEqDiff,r36_12,f0,f4,f8,d0]
   refine callA_pure tV ?_
   by_cases hv:LV (rowF M) i
   ·have d1:decide (LV (rowF M) i)=true:=decide_eq_true hv
    simp only [SS,forall_const,reduceIte,Nat.reduceEqDiff,d1]
    simp only [r36_15,SS,reduceIte,Nat.reduceEqDiff,f23,w5]
    refine ⟨k,_,_,by omega,⟨i+1,by omega,rfl,?_,?_,?_,?_,?_,fun s hs=>?_⟩,.refl⟩
    ·simp only [upd_app,Nat.reduceEqDiff,if_false, *]
    ·simp only [upd_app,Nat.reduceEqDiff,if_false, *]
    ·simp only [upd_app,Nat.reduceEqDiff,if_false, *]
    ·simp only [upd_app,Nat.reduceEqDiff,if_false, *]
    ·simp only [upd_app,Nat.reduceEqDiff,reduceIte,if_false, *]
    ·rcases (by omega:s<i∨s=i) with e | e
     ·exact hpre s e
     ·rw [e];exact ⟨hSZ,fun _=>hv⟩
   ·have d1:decide (LV (rowF M) i)=false:=decide_eq_false hv
    have hc:CurS n (rowF M) i:=⟨hi,h0,hpre,hSZ,hv⟩
    have hout:=ho.sw i hc
    have hIl:=(id_shp n).len
    have o1:=mat_outer (ps:=ps) (n:=n) (i:=i) (by rw [hM2.len,hIl];exact hi)
    have o2:=mat_outer (ps:=ps) (n:=n) (i:=i-1) (by rw [hM2.len,hIl];omega)
    have hol:(ps.map (slRow n)).length=n:=by rw [List.length_map,hM2.len];exact hIl
    have hou:=hM2.outer
    have w7:(i:Int)-1=((i-1:Nat):Int):=by omega
    have w8:IntKind.i64.wrap ((i-1:Nat):Int)=((i-1:Nat):Int):=w64 (by omega) (by omega)
    have hlt0:=getB_lt' hou
    have hsw:=(mat_swap hM2 (p:=i) (k:=i-1) (by rw [hIl];exact hi) (by rw [hIl];omega)).1
    have hUl:(swapM (idM n) i (i-1)).length=n:=(swap_shp (id_shp n) hi (by omega)).1.len
    simp only [SS,forall_const,reduceIte,Nat.reduceEqDiff,d1]
    simp only [r36_13,SS,forall_const,reduceIte,Nat.reduceEqDiff,f6,f8,w7,w8,Int.toNat_natCast,hou,hol,o1,o2,getB_set_eq hlt0,List.length_set,List.set_set]
    refine ⟨⟨by omega,by omega⟩,by omega,⟨by omega,by omega⟩,by omega,⟨by omega,by omega⟩,by omega,⟨by omega,by omega⟩,by omega,rfl,?_⟩
    simp only [r36_14,SS,reduceIte,Nat.reduceEqDiff,f6]
    obtain ⟨v,g1,g2⟩:=fin_matT (cap:=some n) (b:=true) hsw
    rw [hUl] at g1
    exact ⟨.inl trivial,hret _ _ v (by simp only [upd_app,Nat.reduceEqDiff,reduceIte,if_false]) (by simp only [upd_app,Nat.reduceEqDiff,reduceIte,if_false]) g1 (by rw [g2,hout];rfl)⟩
 ·have hin:i=n:=by omega
  subst hin
  have hout:=ho.none hpre
  simp only [r36_16,SS]
  exact ⟨.inl trivial,_,_,rfl,.drop _ _ rfl (by intro i cs h;omega),by rw [hout];rfl⟩
end Go.Proofs.YtenboapacjlmoaaGreatDoor
namespace Go.Proofs.YtenboapacjlmoaaGreatDoor
set_option linter.unusedSimpArgs false
set_option linter.unusedVariables false
open Go Go.AL Go.Proofs Go.Limb
set_option maxRecDepth 100000
theorem zInt64 {z:Int} {a:AV} (ha:IsInt z a) (hz:In64 z):Ret Tryz.prog G 86 [a] [] (.tup [.int .i64 z,.bool true]) []:=by
 obtain ⟨z1,z2⟩:=hz
 obtain ⟨l,ca,hc,hl,hv,rfl⟩:=ha
 obtain ⟨c1,t1⟩:=zTrim l ca (by omega)
 have k1:=trimL_canon hc.1
 have kv:=(val_trimL l).trans hv
 generalize trimL l=m at*
 have hm2:=canon_small k1 (by omega)
 have t2:=zlow m c1 k1.1 (by omega)
 rw [List.take_of_length_le hm2,kv] at t2
 have d1:decide ((2:Int)<(m.length:Nat))=false:=decide_eq_false (by omega)
 by_cases hn:z<0
 ·have e1:decide (z<0)=true:=decide_eq_true hn
  have d2:decide ((z.natAbs:Int)≤9223372036854775808)=true:=decide_eq_true (by omega)
  have w1:IntKind.i64.wrap (IntKind.u64.wrap (0-(z.natAbs:Int)))=z:=by
   simp [IntKind.wrap,IntKind.bits,IntKind.signed];omega
  refine Ret_of mixed Tryz.func86 comp86 _ 35 res86 nt86 (by simp) (by simp) ?_
  simp only [c86,r86_0,r86_1,SS,forall_const,reduceCtorEq,reduceIte,Nat.reduceAdd,Nat.reduceEqDiff,Nat.reduceLeDiff,e1]
  refine callA_pure t1 ?_
  simp only [SS,reduceIte,Nat.reduceEqDiff]
  simp only [r86_2,SS,reduceIte,Nat.reduceEqDiff]
  refine callA_pure t2 ?_
  simp only [SS,reduceIte,Nat.reduceEqDiff]
  simp only [r86_3,SS,forall_const,reduceIte,Nat.reduceEqDiff,d1]
  simp only [r86_5,SS,forall_const,reduceIte,Nat.reduceAdd,Nat.reduceEqDiff,Nat.reduceLeDiff,d2]
  simp only [r86_6,SS,reduceIte,Nat.reduceEqDiff,w1]
  exact ⟨.inl trivial,_,rfl,.drop _ _ rfl (by intro i cs h;omega)⟩
 ·have e1:decide (z<0)=false:=decide_eq_false hn
  have d2:decide ((z.natAbs:Int)<9223372036854775808)=true:=decide_eq_true (by omega)
  have w1:IntKind.i64.wrap (z.natAbs:Int)=z:=by
   rw [show (z.natAbs:Int)=z by omega];exact w64 z1 z2
  refine Ret_of mixed Tryz.func86 comp86 _ 35 res86 nt86 (by simp) (by simp) ?_
  simp only [c86,r86_0,r86_1,SS,forall_const,reduceCtorEq,reduceIte,Nat.reduceAdd,Nat.reduceEqDiff,Nat.reduceLeDiff,e1]
  refine callA_pure t1 ?_
  simp only [SS,reduceIte,Nat.reduceEqDiff]
  simp only [r86_2,SS,reduceIte,Nat.reduceEqDiff]
  refine callA_pure t2 ?_
  simp only [SS,reduceIte,Nat.reduceEqDiff]
  simp only [r86_3,SS,forall_const,reduceIte,Nat.reduceEqDiff,d1]
  simp only [r86_5,SS,forall_const,reduceIte,Nat.reduceAdd,Nat.reduceEqDiff,Nat.reduceLeDiff]
  simp only [r86_7,SS,forall_const,reduceIte,Nat.reduceAdd,Nat.reduceEqDiff,Nat.reduceLeDiff,d2]
  simp only [r86_8,SS,reduceIte,Nat.reduceEqDiff,w1]
  exact ⟨.inl trivial,_,rfl,.drop _ _ rfl (by intro i cs h;omega)⟩
theorem mTo_in {n:Nat} {M:List (List Int)} {rows:List AV} {c:Option Nat} (hn:1≤n∧n≤8) (hS:Shp n M) (hl:rows.length=n) (hr:∀i,i<n→IsRowV (M.getD i []) (rows.getD i .junk)) (hf:∀i j,In64 (ent M i j)) {i:Nat} (hi:i<n) {rs:List (List Int)} (hrl:rs.length=i+1) (hr0:(rs.getD i []).length=n) {E:Env} {Q:Post}
  (e0:E 0= .vec rows n c) (e5:E 5= .int .i64 (n:Nat)) (e7:E 7= .sl 0 0 n 1 (some n)) (e8:E 8= .int .i64 (i:Nat)) (e23:E 23= .int .i64 (n:Nat)) (e24:E 24= .int .i64 (i:Nat)) (e36:E 36= .int .i64 (n:Nat)) (e37:E 37= .int .i64 0)
  (hQ:∀E' r,r.length=n→(∀j,j<n→r.getD j 0=ent M i j)→E' 0= .vec rows n c→E' 5= .int .i64 (n:Nat)→E' 7= .sl 0 0 n 1 (some n)→E' 23= .int .i64 (n:Nat)→E' 24= .int .i64 (i:Nat)→Q (.exit 2) E' (bH n n (rs.set i r))):
  W Tryz.prog G 0 63 (.loop l37_1) E (bH n n rs) Q:=by
 refine W_loop (fun k E H=>∃j r,j+k=n∧r.length=n∧(∀t,t<j→r.getD t 0=ent M i t)∧H=bH n n (rs.set i r)∧E 0= .vec rows n c∧E 5= .int .i64 (n:Nat)∧E 7= .sl 0 0 n 1 (some n)∧E 8= .int .i64 (i:Nat)∧E 23= .int .i64 (n:Nat)∧E 24= .int .i64 (i:Nat)∧
  E 36= .int .i64 (n:Nat)∧E 37= .int .i64 (j:Nat)) (n:=n)
  ⟨0,rs.getD i [],by omega,hr0,fun t ht=>absurd ht (by omega),?_,e0,e5,e7,e8,e23,e24,e36,e37⟩ ?_
 ·congr 1
  refine List.ext_getElem (by simp) fun t h1 h2=>?_
  rw [List.getElem_set]
  split
  ·rename_i e;subst e;rw [List.getD_eq_getElem?_getD,List.getElem?_eq_getElem h1];rfl
  ·rfl
 clear e0 e5 e7 e8 e23 e24 e36 e37 E
 rintro k E H ⟨j,r,hjk,hrm,hr',rfl,e0,e5,e7,e8,e23,e24,e36,e37⟩
 refine wpC_sound mixed ?_
 simp only [l37_1,r37_10,SS,reduceIte,e36,e37]
 refine ⟨fun hlt=>?_,fun hge=>?_⟩
 ·obtain ⟨k,rfl⟩:∃k',k=k'+1:=⟨k-1,by omega⟩
  have hj:j<n:=by omega
  have lM:=hS.row i hi
  obtain ⟨csi,ci,hei,hci⟩:=hr i hi
  have hcl:=rowC_len hci
  obtain ⟨u,v,hu,hz⟩:=rowC_get hci j (by omega)
  obtain ⟨lz,cz,hz1,hz2⟩:=intCells hz
  subst hz1 hz2
  have ts:=zInt64 hz (hf i j)
  have w5:IntKind.i64.wrap ((j:Int)+1)=((j+1:Nat):Int):=by rw [show (j:Int)+1=((j+1:Nat):Int) by omega];exact w64 (by omega) (by omega)
  have hset:(rs.set i r).length=i+1:=by simp [hrl]
  have gr:=bH_row (N:=n) (n:=n) (i:=i) (rows:=rs.set i r) (by omega)
  have gri:(rs.set i r).getD i []=r:=by rw [List.getD_eq_getElem?_getD,List.getElem?_set_self (by omega)];rfl
  rw [gri] at gr
  have go:getB (bH n n (rs.set i r)) 0=some (outS n n (i+1)):=by rw [bH_outer,hset]
  have gol:=outS_len (N:=n) (n:=n) (i:=i+1) (by omega)
  have gog:=outS_get (N:=n) (n:=n) (i:=i+1) (k:=i) (by omega)
  have hent:(M.getD i []).getD j 0=ent M i j:=rfl
  rw [hent] at ts
  simp only [r37_11,r37_12,SS,forall_const,reduceCtorEq,reduceIte,Nat.reduceEqDiff,e0,e8,e37,Int.toNat_natCast,hl,hei,hcl,lM,hu]
  refine ⟨⟨by omega,by omega⟩,by omega,⟨by omega,by omega⟩,by omega,?_⟩
  refine callA_pure ts ?_
  simp only [SS,reduceIte,Nat.reduceEqDiff,List.getElem?_cons_zero,List.getElem?_cons_succ]
  simp only [r37_13,SS,forall_const,reduceIte,Nat.reduceEqDiff]
  simp only [r37_15,SS,forall_const,reduceIte,Nat.reduceEqDiff,e7,e8,Int.toNat_natCast,go,gol,gog,gr,hrm,i64z_len,i64z_set]
  refine ⟨⟨by omega,by omega⟩,by omega,⟨by omega,by omega⟩,by omega,?_⟩
  simp only [r37_16,SS,reduceIte,Nat.reduceEqDiff,e37,w5,bH_set]
  refine ⟨k,_,_,by omega,⟨j+1,r.set j (ent M i j),by omega,by simp [hrm],fun t ht=>?_,?_,?_,?_,?_,?_,?_,?_,?_,?_⟩,.refl⟩
  ·rw [List.getD_eq_getElem?_getD]
   rcases (by omega:t<j∨t=j) with e | e
   ·rw [List.getElem?_set_ne (by omega),←List.getD_eq_getElem?_getD];exact hr' t e
   ·rw [e,List.getElem?_set_self (by omega)];rfl
  ·rw [List.set_set]
  all_goals simp only [upd_app,Nat.reduceEqDiff,reduceIte,if_false, *]
 ·have hjm:j=n:=by omega
  subst hjm
  exact hQ _ r hrm hr' (by simp only [upd_app,Nat.reduceEqDiff,if_false,e0]) (by simp only [upd_app,Nat.reduceEqDiff,if_false,e5]) (by simp only [upd_app,Nat.reduceEqDiff,if_false,e7]) (by simp only [upd_app,Nat.reduceEqDiff,if_false,e23]) (by simp only [upd_app,Nat.reduceEqDiff,if_false,e24])
theorem mToInts {n:Nat} {M:List (List Int)} {a:AV} (h:Sq n M a) (hf:∀i j,In64 (ent M i j)):Ret Tryz.prog G 37 [a] [] (.tup [.vec (rowsV n M) n (some n),.bool true]) []:=by
 have hn:1≤n∧n≤8:=⟨h.lo,h.hi⟩
 have hS:Shp n M:=⟨h.len,h.cols⟩
 have t1:=mShape h.mat h.shape
 rw [h.cols 0 (by omega),h.len] at t1
 have c1:AV.closed.closedL [a]=true:=by simp only [AV.closed.closedL,h.closed,Bool.and_self]
 obtain ⟨rows,c,hae,hl,hr⟩:=h.mat
 subst hae
 rw [h.len] at hl hr t1 c1 ⊢
 have hTl:=hS.len
 refine Ret_of mixed Tryz.func37 comp37 _ 63 res37 nt37 (by simp) (by simp) ?_
 simp only [c37,r37_0,r37_1,SS,reduceCtorEq,reduceIte]
 refine callA_pure t1 ?_ c1
 simp only [SS,reduceIte,Nat.reduceEqDiff,List.getElem?_cons_zero,List.getElem?_cons_succ]
 simp only [r37_2,SS,forall_const,reduceIte,Nat.reduceEqDiff]
 simp only [r37_4,SS,reduceIte,Nat.reduceEqDiff,Int.toNat_natCast]
 refine ⟨by decide,⟨by omega,by omega,by omega,by omega⟩,?_⟩
 simp only [r37_5,SS,reduceIte,Nat.reduceEqDiff]
 have hb0:[some (List.replicate n (AV.vec [] 0 (some 0)))]=bH n n []:=rfl
 rw [hb0]
 refine W_loop (fun k E H=>∃i,i+k=n∧H=bH n n (M.take i)∧E 0= .vec rows n c∧E 5= .int .i64 (n:Nat)∧E 7= .sl 0 0 n 1 (some n)∧E 23= .int .i64 (n:Nat)∧E 24= .int .i64 (i:Nat)) (n:=n)
  ⟨0,by omega,rfl,by simp only [upd_app,argsE_app,List.getD_cons_zero,Nat.reduceEqDiff,if_false],by simp only [upd_app,argsE_app,List.getD_cons_succ,Nat.reduceEqDiff,reduceIte,if_false],by simp only [upd_app,argsE_app,List.getD_cons_succ,Nat.reduceEqDiff,reduceIte,if_false],by simp only [upd_app,argsE_app,List.getD_cons_succ,Nat.reduceEqDiff,reduceIte,if_false],by simp only [upd_app,argsE_app,List.getD_cons_succ,Nat.reduceEqDiff,reduceIte,if_false];rfl⟩ ?_
 rintro k E H ⟨i,hik,rfl,e0,e5,e7,e23,e24⟩
 refine wpC_sound mixed ?_
 simp only [l37_0,r37_6,SS,reduceCtorEq,reduceIte,e23,e24]
 refine ⟨fun hlt=>?_,fun hge=>?_⟩
 ·obtain ⟨k,rfl⟩:∃k',k=k'+1:=⟨k-1,by omega⟩
  have hi:i<n:=by omega
  have htl:(M.take i).length=i:=by rw [List.length_take];omega
  have w5:IntKind.i64.wrap ((i:Int)+1)=((i+1:Nat):Int):=by rw [show (i:Int)+1=((i+1:Nat):Int) by omega];exact w64 (by omega) (by omega)
  have hbl:(bH n n (M.take i)).length=i+1:=by rw [bH_len,htl]
  have go:getB (bH n n (M.take i)++[some (i64z (List.replicate n 0))]) 0=some (outS n n i):=by
   have:getB (bH n n (M.take i)) 0=some (outS n n i):=by rw [bH_outer,htl]
   exact this
  have gol:=outS_len (N:=n) (n:=n) (i:=i) (by omega)
  have hnew:=bH_new (N:=n) (n:=n) (rows:=M.take i) (List.replicate n 0) (by omega)
  rw [htl] at hnew
  simp only [r37_7,r37_8,SS,reduceIte,Nat.reduceEqDiff,e5,e7,e24,Int.toNat_natCast,hbl,i64z_rep,go,gol]
  refine ⟨by decide,⟨by omega,by omega,by omega,by omega⟩,⟨by omega,by omega⟩,by omega,?_⟩
  rw [hnew]
  have hrl:(M.take i++[List.replicate n 0]).length=i+1:=by simp;omega
  have hg0:getB (bH n n (M.take i++[List.replicate n 0])) 0=some (outS n n (i+1)):=by rw [bH_outer,hrl]
  have hgl:=outS_len (N:=n) (n:=n) (i:=i+1) (by omega)
  have hgg:=outS_get (N:=n) (n:=n) (i:=i+1) (k:=i) (by omega)
  simp only [r37_9,SS,forall_const,reduceIte,Nat.reduceEqDiff,e7,Int.toNat_natCast,hg0,hgl,hgg]
  refine ⟨⟨by omega,by omega⟩,by omega,?_⟩
  refine mTo_in (rows:=rows) (c:=c) hn hS hl hr hf hi (rs:=M.take i++[List.replicate n 0]) hrl ?_ (by simp only [upd_app,Nat.reduceEqDiff,if_false,e0]) (by simp only [upd_app,Nat.reduceEqDiff,if_false,e5]) (by simp only [upd_app,Nat.reduceEqDiff,if_false,e7]) (by simp only [upd_app,Nat.reduceEqDiff,reduceIte,if_false]) (by simp only [upd_app,Nat.reduceEqDiff,if_false,e23]) (by simp only [upd_app,Nat.reduceEqDiff,if_false,e24]) (by simp only [upd_app,Nat.reduceEqDiff,reduceIte,if_false]) (by simp only [upd_app,Nat.reduceEqDiff,reduceIte,if_false]) ?_
  ·rw [List.getD_eq_getElem?_getD,List.getElem?_append_right (by omega),htl,Nat.sub_self]
   simp
  intro E' r hrm hr' f0 f5 f7 f23 f24
  have er:r=M.getD i []:=by
   have hTi:=hS.row i hi
   refine List.ext_getElem (by omega) fun t h1 h2=>?_
   have h3:=hr' t (by omega)
   unfold ent at h3
   rw [List.getD_eq_getElem?_getD,List.getElem?_eq_getElem h1,List.getD_eq_getElem?_getD (l:=M.getD i []),List.getElem?_eq_getElem h2] at h3
   exact h3
  have eset:(M.take i++[List.replicate n 0]).set i r=M.take (i+1):=by
   rw [List.set_append_right _ _ (by omega),htl,Nat.sub_self,er]
   rw [List.take_add_one,List.getD_eq_getElem?_getD,List.getElem?_eq_getElem (by omega)]
   rfl
  rw [eset]
  simp only [r37_17,SS,reduceCtorEq,reduceIte,Nat.reduceEqDiff,f24,w5]
  refine ⟨k,_,_,by omega,⟨i+1,by omega,rfl,?_,?_,?_,?_,?_⟩,.refl⟩
  all_goals simp only [upd_app,Nat.reduceEqDiff,reduceIte,if_false, *]
 ·have hin:i=n:=by omega
  have htl:M.take i=M:=List.take_of_length_le (by omega)
  rw [htl]
  simp only [r37_18,SS,reduceIte,Nat.reduceEqDiff,e7]
  have this:=bH_frz (N:=n) (n:=n) (rows:=M) hS.len hS.row
  have key:frzI 0 (bH n n M) 4 (.tup [.sl 0 0 n 1 (some n),.bool true])=some (.tup [.vec (rowsV n M) n (some n),.bool true]):=by
   rw [frzI]
   simp only [List.mapM_cons,List.mapM_nil,this]
   rfl
  exact ⟨.inl trivial,.tup [.sl 0 0 n 1 (some n),.bool true],rfl,.freeze 4 _ _ _ key (by intro i cs h;omega)⟩
end Go.Proofs.YtenboapacjlmoaaGreatDoor
namespace Go.Proofs.YtenboapacjlmoaaGreatDoor
set_option linter.unusedSimpArgs false
set_option linter.unusedVariables false
open Go Go.AL Go.Det Go.Limb
set_option maxRecDepth 100000
theorem fit_one {n:Nat} (h1:1≤n) (h5:n≤5):FitN n BIG (bigK (16^n) (8*16^n)).toNat:=by
 rcases (by omega:n=1∨n=2∨n=3∨n=4∨n=5) with rfl | rfl | rfl | rfl | rfl
 ·exact ⟨by decide +kernel,by decide +kernel⟩
 ·exact ⟨by decide +kernel,by decide +kernel⟩
 ·exact ⟨by decide +kernel,by decide +kernel⟩
 ·exact ⟨by decide +kernel,by decide +kernel⟩
 ·exact ⟨by decide +kernel,by decide +kernel⟩
def E2000:Nat:=2^2000
def E12000:Nat:=2^12000
def E12001:Nat:=2^12001
def E30000:Nat:=2^30000
theorem vec_fit {n:Nat} (h1:1≤n) (h5:n≤5):vecB (16^n) (8*16^n) (bigK (16^n) (8*16^n)) 7≤((E2000:Nat):Int)∧(bndS (bigK (16^n) (8*16^n)).toNat n:Int)≤((E12000:Nat):Int):=by
 rcases (by omega:n=1∨n=2∨n=3∨n=4∨n=5) with rfl | rfl | rfl | rfl | rfl
 ·exact ⟨by decide +kernel,by decide +kernel⟩
 ·exact ⟨by decide +kernel,by decide +kernel⟩
 ·exact ⟨by decide +kernel,by decide +kernel⟩
 ·exact ⟨by decide +kernel,by decide +kernel⟩
 ·exact ⟨by decide +kernel,by decide +kernel⟩
theorem bigK_fit {n:Nat} (h1:1≤n) (h5:n≤5):1≤bigK (16^n) (8*16^n)∧bigK (16^n) (8*16^n)≤2^200:=by
 rcases (by omega:n=1∨n=2∨n=3∨n=4∨n=5) with rfl | rfl | rfl | rfl | rfl
 ·exact ⟨by decide +kernel,by decide +kernel⟩
 ·exact ⟨by decide +kernel,by decide +kernel⟩
 ·exact ⟨by decide +kernel,by decide +kernel⟩
 ·exact ⟨by decide +kernel,by decide +kernel⟩
 ·exact ⟨by decide +kernel,by decide +kernel⟩
theorem fit_cg0 {x y a b B:Nat} (hx:x≤a) (hy:y≤b) (h:64*(b*a*b)+8*(b*a)+a+b<B):64*(y*x*y)+8*(y*x)+x+y<B:=by
 have h1:=Nat.mul_le_mul hy hx
 have h2:=Nat.mul_le_mul h1 hy
 omega
theorem fit_pr0 {x y a b B:Nat} (hx:x≤a) (hy:y≤b) (h:8*(a*b)+a+b<B):8*(x*y)+x+y<B:=by
 have h1:=Nat.mul_le_mul hx hy
 omega
theorem fit_cg {x y:Nat} (hx:x≤2^200) (hy:y≤E12001):64*(y*x*y)+8*(y*x)+x+y<BIG:=fit_cg0 hx hy (by decide +kernel)
theorem fit_pr {x y:Nat} (hx:x≤E2000) (hy:y≤E12001):8*(x*y)+x+y<BIG:=fit_pr0 hx hy (by decide +kernel)
theorem two_le:E12000+1≤E12001:=by decide +kernel
theorem lt2000:E2000<E30000:=by decide +kernel
theorem lt12001:E12001<E30000:=by decide +kernel
theorem one12001:1≤E12001:=by decide +kernel
theorem big_lt:E30000<BIG:=by decide +kernel
end Go.Proofs.YtenboapacjlmoaaGreatDoor
namespace Go.Proofs.YtenboapacjlmoaaGreatDoor
set_option linter.unusedSimpArgs false
set_option linter.unusedVariables false
open Go Go.AL Go.Proofs Go.Limb Go.Det
set_option maxRecDepth 100000
theorem stepOut_none {n:Nat} {M:List (List Int)} (h:∀i,i<n→OKr (rowF M) i):StepOut n M (.tup [.vec [] 0 none,.bool false]):=
 ⟨fun i j c=>absurd ((h i c.hi).1 j c.hj) c.no,fun i c=>absurd ((h i c.hi).2 c.h0) c.no,fun _=>rfl⟩
theorem stepOut_add {n i j:Nat} {M:List (List Int)} (h:CurA n (rowF M) i j):StepOut n M (.tup [matC (nearU n M i j),.bool true]):=
 ⟨fun i' j' c=>by obtain ⟨rfl,rfl⟩:=curA_one h c;rfl,fun i' c=>(curA_S h c).elim,fun hk=>absurd ((hk i h.hi).1 j h.hj) h.no⟩
theorem stepOut_sw {n i:Nat} {M:List (List Int)} (h:CurS n (rowF M) i):StepOut n M (.tup [matC (swapU n i),.bool true]):=
 ⟨fun i' j' c=>(curA_S c h).elim,fun i' c=>by obtain rfl:=curS_one h c;rfl,fun hk=>absurd ((hk i h.hi).2 h.h0) h.no⟩
theorem mat_frz {H:Heap} {o n:Nat} {ps:List (Nat×Option Nat)} {M:List (List Int)} {cap:Option Nat} (h:MatH H o ps n M):∃vs,frzI 0 H 3 (.sl o 0 M.length 1 cap)=some (.vec vs M.length cap)∧MatV M (.vec vs M.length cap):=by
 obtain ⟨vs,h1,h2,h3⟩:=rows_frz (mat_rows h)
 have hl:=h.len
 refine ⟨vs,?_,⟨vs,cap,rfl,h2,h3⟩⟩
 rw [frzI]
 simp only [Nat.not_lt_zero,if_false,h.outer,need,Nat.zero_add,Nat.mul_one,List.length_map,hl,Nat.le_refl,if_true,List.drop_zero]
 rw [List.take_of_length_le (by simp [hl]),h1]
 rfl
theorem id_bnd {n y:Nat} (hy:1≤y):Bnd y (idM n):=by
 intro i j
 by_cases h:i<n∧j<n
 ·rw [id_ent h.1 h.2]
  split<;>simp<;>omega
 ·rw [(id_shp n).out (by omega)];simp
theorem near_bnd {n y i j:Nat} {M:List (List Int)} (hj:j<n) (hi:i<n) (hy:1≤y) (hc:(nearZ (stg (rowF M) j i j) (lead (rowF M) (j+1))).natAbs≤y):Bnd y (nearU n M i j):=by
 intro s t
 unfold nearU addU
 rw [(id_shp n).ent_set hj hi]
 split
 ·rw [Int.natAbs_neg];exact hc
 ·exact id_bnd hy s t
theorem swap_bnd {n y i:Nat} (hi:i<n) (hy:1≤y):Bnd y (swapU n i):=by
 intro s t
 unfold swapU
 rw [(swap_shp (id_shp n) hi (by omega)).2]
 exact id_bnd hy _ _
theorem near_shp {n i j:Nat} {M:List (List Int)} (hj:j<n):Shp n (nearU n M i j):=addU_shp hj
theorem swapU_shp {n i:Nat} (hi:i<n):Shp n (swapU n i):=(swap_shp (id_shp n) hi (by omega)).1
theorem state_bnd {n:Nat} {M0 M T:List (List Int)} (h1:1≤n) (h5:n≤5) (hp:Pos n (16^n) (rowF M0)) (ha:∀s,s<n→ent M0 s s≤8*16^n) (hL:LState n (16^n) (8*16^n) M0 M T):
  Bnd (bigK (16^n) (8*16^n)).toNat M∧Bnd E2000 T:=by
 have h16:(1:Int)≤16^n:=by
  have:=Nat.one_le_pow n 16 (by decide)
  exact_mod_cast this
 obtain ⟨b1,b2⟩:=hL.bound (by omega) (by omega) hp ha (cur_any (n:=n) (rowF M))
 have hv:=(vec_fit h1 h5).1
 have hv2:vecB (16^n) (8*16^n) (bigK (16^n) (8*16^n)) 7≤((E2000:Nat):Int):=hv
 refine ⟨fun i j=>?_,fun i j=>?_⟩
 ·by_cases h:i<n∧j<n
  ·have:=b1 i j h.1 h.2
   omega
  ·rw [hL.shM.out (by omega)];simp
 ·by_cases h:i<n∧j<n
  ·have:=b2 i j h.1 h.2
   omega
  ·rw [hL.shT.out (by omega)];simp
theorem rReduce {n:Nat} {M0:List (List Int)} {a:AV} (hsq:Sq n M0 a) (h5:n≤5) (hG:SmallG n M0) (hg:goodD n M0):∃M' T',Red n (rowF M')∧LState n (16^n) (8*16^n) M0 M' T'∧Ret Tryz.prog G 13 [a] [] (.tup [.vec (rowsV n M') n (some n),matC T',.int .i64 0]) []:=by
 have h1:=hsq.lo
 have h8:=hsq.hi
 obtain ⟨k0,M',T',hE,hst,hend,hred⟩:=run_gram h1 h8 hG hg
 refine ⟨M',T',hred,hend,?_⟩
 have hpos:=good_pos hG hg
 have h16:(1:Int)≤16^n:=by
  have:=Nat.one_le_pow n 16 (by decide)
  exact_mod_cast this
 have hK1:(1:Int)≤8*16^n:=by omega
 have ha:∀s,s<n→ent M0 s s≤8*16^n:=by
  intro s _
  have:=(hG.bnd s s).2
  have h2:(16:Int)^1≤16^n:=by
   have:=Nat.pow_le_pow_right (n:=16) (by decide) h1
   exact_mod_cast this
  have e1:(16:Int)^1=16:=by decide
  omega
 have hF:=fit_one h1 h5
 have hb0:=(state_bnd h1 h5 hpos ha hst).1
 obtain ⟨ds,hds,hdf⟩:=leadL_ok hF hb0 n (Nat.le_refl _)
 have hds':leadO BIG M0=some ds:=by unfold leadO;rw [hsq.len];exact hds
 obtain ⟨d0,hd0,hd0f⟩:=detO_ok (B:=BIG) hF.one (fun k hk=>(hF.all (k:=k) hk).2) hst.shM hb0
 have hd0e:d0=lead (rowF M0) n:=detO_spec hst.shM (fun t ht=>by have:=hpos.pos t (by omega);omega) hd0
 have hval:valZ M0 ds=0:=by
  have hsy:=(symB_iff hst.shM).2 hpos.sym
  have hdf2:defB M0 ds=true:=by
   unfold defB
   rw [hsy,Bool.true_and,all_pos,leadL_len hds]
   intro t ht
   rw [lead_ds hds hpos.pos t ht]
   exact hpos.pos (t+1) (by omega)
  unfold valZ
  rw [hsy,hdf2];rfl
 have t1:=gValidate divB_all hsq hds'
 rw [hval] at t1
 have t2:=rSmall divB_all hsq hd0 (Nat.lt_of_le_of_lt hd0f hF.lt)
 have e2:decide (d0≤10000)=true:=decide_eq_true (by rw [hd0e];exact hg.2)
 rw [e2] at t2
 have t3:=mIdentity (n:=n) (by omega) (I:=idM n) (id_shp n).len (id_shp n).row (fun i j hi hj=>id_ent hi hj)
 obtain ⟨ps0,L,hLm,tc⟩:=mCopy (n:=n) hsq.mat (by omega) (by rw [hsq.len];omega) (fun i hi=>hsq.cols i (by rw [hsq.len] at hi;exact hi))
 have hM2:=mat_shift (H:=[]) hLm
 have hH2:applyE (effs (names [] 0) 0 L) (List.replicate L.length none)=L.map (renB (names [] 0)):=effs_new (H:=[]) (names [] 0) (fun i=>names_nil 0 i) L []
 simp only [List.nil_append,List.length_nil] at hM2
 have c1:AV.closed.closedL [a]=true:=by simp only [AV.closed.closedL,hsq.closed,Bool.and_self]
 have hI:(matC (idM n)).closed=true:=rfl
 have hlen:=hsq.len
 obtain ⟨ar,ac,hae,hal,har⟩:=hsq.mat
 subst hae
 rw [hlen] at hsq t1 t2 tc c1 ⊢
 refine Ret_of mixed Tryz.func13 comp13 _ 49 res13 nt13 (by simp) (by simp) ?_
 simp only [c13,r13_0,r13_1,SS,reduceCtorEq,reduceIte]
 refine callA_pure t1 ?_ c1
 simp only [SS,reduceIte,Nat.reduceEqDiff]
 simp only [r13_2,SS,reduceIte,Nat.reduceEqDiff]
 refine ⟨fun hne=>absurd rfl hne,fun _=>?_⟩
 simp only [r13_4,SS,reduceCtorEq,reduceIte,Nat.reduceEqDiff]
 refine callA_pure t2 ?_ c1
 simp only [SS,forall_const,reduceIte,Nat.reduceEqDiff]
 simp only [r13_6,SS,reduceCtorEq,reduceIte,Nat.reduceEqDiff]
 refine callA_new tc c1 ?_
 simp only [restA,SS,reduceIte,Nat.reduceEqDiff,AV.ren,names_nil,Nat.add_zero,hH2]
 generalize L.map (renB (names [] 0))=H2 at*
 generalize (ps0.map fun p=>(0+p.1,p.2))=ps at*
 simp only [r13_7,SS,reduceCtorEq,reduceIte,Nat.reduceEqDiff]
 refine callA_pure t3 ?_
 simp only [SS,reduceIte,Nat.reduceEqDiff,List.getElem?_cons_zero,List.getElem?_cons_succ]
 obtain ⟨vs,hfz,hmv⟩:=mat_frz (cap:=some n) hM2
 rw [hlen] at hfz hmv
 have hsq0:Sq n M0 (.vec vs n (some n)):=⟨hmv,hlen,hst.shM.row,h1,h8⟩
 refine W.weak (weak_frz 0 3 (Nat.le_refl _) (Nat.zero_le _) (fun i cs h=>absurd h (by omega))) ?_
 refine W_loop (fun k E H=>∃M T av,Ends n M' T' k M T∧LState n (16^n) (8*16^n) M0 M T∧Sq n M av∧E 6=av∧E 7=matC T∧H=[]) (n:=k0)
  ⟨M0,idM n,_,hE,hst,hsq0,?_,?_,rfl⟩ ?_
 ·unfold frzE
  simp only [upd_app,argsE_app,List.getD_cons_succ,Nat.reduceEqDiff,reduceIte,if_false]
  rw [if_neg (by simp [AV.under]),hfz]
  rfl
 ·unfold frzE
  simp only [upd_app,argsE_app,List.getD_cons_succ,Nat.reduceEqDiff,reduceIte,if_false]
  rfl
 rintro k E H ⟨M,T,av,hEn,hL,hsM,e6,e7,rfl⟩
 refine wpC_sound mixed ?_
 obtain ⟨hbM,hbT⟩:=state_bnd h1 h5 hpos ha hL
 have hA200:(bigK (16^n) (8*16^n)).toNat≤2^200:=by
  have:=(bigK_fit h1 h5).2
  have e:((2^200:Nat):Int)=(2:Int)^200:=Int.natCast_pow 2 200
  omega
 have hTsq:Sq n T (matC T):=sq_mk hL.shT ⟨h1,h8⟩ hbT (by
  exact Nat.lt_trans lt2000 big_lt)
 have cM:AV.closed.closedL [av]=true:=by simp only [AV.closed.closedL,hsM.closed,Bool.and_self]
 have next:∀U,Shp n U→Bnd (E12001) U→Ret Tryz.prog G 38 [av,matC U] [] (matC (cgM n M U)) []∧Ret Tryz.prog G 39 [matC T,matC U] [] (matC (mulM n T U)) []∧Sq n U (matC U):=by
  intro U hU hbU
  have hUsq:=sq_mk hU ⟨h1,h8⟩ hbU (by
   exact Nat.lt_trans lt12001 big_lt)
  exact ⟨gCongruent hsM hUsq hbM hbU (fit_cg hA200 (Nat.le_refl _)),mProduct hTsq hUsq ⟨hbT,hbU,fit_pr (Nat.le_refl _) (Nat.le_refl _)⟩,hUsq⟩
 have y1:1≤E12001:=one12001
 rcases ends_step h8 hK1 (Int.le_refl _) hL hEn with ⟨hok,rfl,rfl⟩ | ⟨k',i,j,rfl,hc,hL',hE'⟩ | ⟨k',i,rfl,hc,hL',hE'⟩
 ·have tS:=rStep (ds:=[]) hsM hF hbM (Nat.le_refl _) hL.pos.pos (stepOut_none hok)
  have hIn:∀i j,In64 (ent M i j):=by
   intro i j
   by_cases h:i<n∧j<n
   ·have:=hred.entry h.1 h.2
    have e:rowF M i j=ent M i j:=rfl
    unfold In64;omega
   ·rw [hL.shM.out (by omega)];unfold In64;omega
  have tI:=mToInts hsM hIn
  simp only [l13_0,r13_8,SS,reduceCtorEq,reduceIte,e6]
  refine callA_pure tS ?_ cM
  simp only [SS,reduceIte,Nat.reduceEqDiff,List.getElem?_cons_zero,List.getElem?_cons_succ]
  simp only [r13_9,SS,forall_const,reduceIte,Nat.reduceEqDiff]
  simp only [r13_10,SS,reduceIte,Nat.reduceEqDiff,e6]
  refine callA_pure tI ?_ cM
  simp only [SS,reduceIte,Nat.reduceEqDiff,List.getElem?_cons_zero,List.getElem?_cons_succ]
  simp only [r13_11,SS,reduceIte,Nat.reduceEqDiff,e7]
  exact ⟨.inl trivial,_,rfl,.drop _ _ rfl (by intro i cs h;omega)⟩
 ·have hi:=hc.hi
  have hj:=hc.hj
  have hnb:(nearZ (stg (rowF M) j i j) (lead (rowF M) (j+1))).natAbs≤E12001:=by
   have h2:=near_le (l:=stg (rowF M) j i j) (hL.pos.pos (j+1) (by omega))
   have h3:=(lam_val hF hbM (Nat.le_refl n) hL.pos.pos (i:=i) (j:=j) (by omega)).2
   have h4:=(vec_fit h1 h5).2
   have h5':=two_le
   omega
  obtain ⟨tC,tP,hUsq⟩:=next (nearU n M i j) (near_shp (by omega)) (near_bnd (by omega) hi y1 hnb)
  have tS:=rStep (ds:=[]) hsM hF hbM (Nat.le_refl _) hL.pos.pos (stepOut_add hc)
  have hcg:=sq_mk hL'.shM ⟨h1,h8⟩ (state_bnd h1 h5 hpos ha hL').1 (Nat.lt_of_le_of_lt (hF.all (k:=0) (Nat.zero_le _)).1 hF.lt)
  have c2:AV.closed.closedL [av,matC (nearU n M i j)]=true:=by simp only [AV.closed.closedL,hsM.closed,hUsq.closed,Bool.and_self]
  have c3:AV.closed.closedL [matC T,matC (nearU n M i j)]=true:=rfl
  simp only [l13_0,r13_8,SS,reduceCtorEq,reduceIte,e6]
  refine callA_pure tS ?_ cM
  simp only [SS,reduceIte,Nat.reduceEqDiff,List.getElem?_cons_zero,List.getElem?_cons_succ]
  simp only [r13_9,SS,forall_const,reduceIte,Nat.reduceEqDiff]
  simp only [r13_12,SS,reduceIte,Nat.reduceEqDiff,e6]
  refine callA_pure tC ?_ c2
  simp only [SS,reduceIte,Nat.reduceEqDiff,e7]
  refine callA_pure tP ?_ c3
  simp only [SS,reduceIte,Nat.reduceEqDiff]
  exact ⟨k',_,_,by omega,⟨_,_,_,hE',hL',hcg,by simp only [upd_app,Nat.reduceEqDiff,reduceIte,if_false],by simp only [upd_app,Nat.reduceEqDiff,reduceIte,if_false],rfl⟩,.refl⟩
 ·have hi:=hc.hi
  have h0:=hc.h0
  obtain ⟨tC,tP,hUsq⟩:=next (swapU n i) (swapU_shp hi) (swap_bnd hi y1)
  have tS:=rStep (ds:=[]) hsM hF hbM (Nat.le_refl _) hL.pos.pos (stepOut_sw hc)
  have hcg:=sq_mk hL'.shM ⟨h1,h8⟩ (state_bnd h1 h5 hpos ha hL').1 (Nat.lt_of_le_of_lt (hF.all (k:=0) (Nat.zero_le _)).1 hF.lt)
  have c2:AV.closed.closedL [av,matC (swapU n i)]=true:=by simp only [AV.closed.closedL,hsM.closed,hUsq.closed,Bool.and_self]
  have c3:AV.closed.closedL [matC T,matC (swapU n i)]=true:=rfl
  simp only [l13_0,r13_8,SS,reduceCtorEq,reduceIte,e6]
  refine callA_pure tS ?_ cM
  simp only [SS,reduceIte,Nat.reduceEqDiff,List.getElem?_cons_zero,List.getElem?_cons_succ]
  simp only [r13_9,SS,forall_const,reduceIte,Nat.reduceEqDiff]
  simp only [r13_12,SS,reduceIte,Nat.reduceEqDiff,e6]
  refine callA_pure tC ?_ c2
  simp only [SS,reduceIte,Nat.reduceEqDiff,e7]
  refine callA_pure tP ?_ c3
  simp only [SS,reduceIte,Nat.reduceEqDiff]
  exact ⟨k',_,_,by omega,⟨_,_,_,hE',hL',hcg,by simp only [upd_app,Nat.reduceEqDiff,reduceIte,if_false],by simp only [upd_app,Nat.reduceEqDiff,reduceIte,if_false],rfl⟩,.refl⟩
end Go.Proofs.YtenboapacjlmoaaGreatDoor
namespace Go.Proofs.YtenboapacjlmoaaGreatDoor
set_option linter.unusedSimpArgs false
set_option linter.unusedVariables false
open Go Go.AL Go.Proofs Go.Limb Go.Det
set_option maxRecDepth 100000
theorem fit16:FitN 8 BIG 16:=⟨by decide,by decide +kernel⟩
theorem small_bnd {n:Nat} {M:List (List Int)} (h:SmallG n M):Bnd 16 M:=by
 intro i j
 have:=h.bnd i j
 omega
theorem val_pos_iff {n:Nat} {M:List (List Int)} {ds:List Int} (hS:Shp n M) (hsy:∀i j,i<n→j<n→ent M i j=ent M j i) (hds:leadL BIG M n=some ds):valZ M ds=0↔∀k,k<n+1→0<lead (rowF M) k:=by
 have hsb:=(symB_iff hS).2 (fun i j hi hj=>hsy i j hi hj)
 constructor
 ·intro hv
  have hdf:defB M ds=true:=by
   unfold valZ at hv
   rw [hsb] at hv
   cases e:defB M ds with
   | true=>rfl
   | false=>rw [e] at hv;simp at hv
  unfold defB at hdf
  rw [hsb,Bool.true_and,all_pos,leadL_len hds] at hdf
  intro k hk
  exact (ds_lead hds n (Nat.le_refl _) hdf).1 k (by omega)
 ·intro hp
  have hdf:defB M ds=true:=by
   unfold defB
   rw [hsb,Bool.true_and,all_pos,leadL_len hds]
   intro t ht
   rw [lead_ds hds (fun k hk=>hp k (by omega)) t ht]
   exact hp (t+1) (by omega)
  unfold valZ
  rw [hsb,hdf];rfl
theorem tGood {n:Nat} {M:List (List Int)} {a:AV} (hG:SmallG n M) (ha:ImV M a) (hn:1≤n∧n≤8):Ret Tryz.prog G 45 [a] [] (.bool (decide (goodD n M))) []:=by
 have hS:=hG.shp
 have hb:=small_bnd hG
 have hsq:=sq_mk hS hn hb (Nat.lt_of_le_of_lt (fit16.all (k:=0) (Nat.zero_le _)).1 fit16.lt)
 have t0:=mOf (n:=n) ha (by omega) (by rw [hS.len];omega) (fun i hi=>hS.row i (by rw [hS.len] at hi;exact hi))
 obtain ⟨ds,hds,hdf⟩:=leadL_ok fit16 hb n hn.2
 have hds':leadO BIG M=some ds:=by unfold leadO;rw [hS.len];exact hds
 obtain ⟨d0,hd0,hd0f⟩:=detO_ok (B:=BIG) fit16.one (fun k hk=>(fit16.all (k:=k) (by omega)).2) hS hb
 have hd0B:d0.natAbs<BIG:=by have:=(fit16.all hn.2).1;have:=fit16.lt;omega
 have t1:=gValidate divB_all hsq hds'
 have t2:=mDet divB_all hsq.mat (by rw [hsq.len];omega) (fun i hi=>by rw [hsq.len] at hi ⊢;exact hsq.cols i hi) hd0
 obtain ⟨v3,hv3,t3⟩:=zSmall 10000 (by omega) (by omega)
 have t4:=zCmp (intV_isInt hd0B) hv3
 have hviff:=val_pos_iff hS hG.sym hds
 have hcl:=hsq.closed
 have c1:AV.closed.closedL [a]=true:=by simp only [AV.closed.closedL,ha.closed,Bool.and_self]
 have c2:AV.closed.closedL [matC M]=true:=by simp only [AV.closed.closedL,hcl,Bool.and_self]
 have c3:AV.closed.closedL [intV d0,v3]=true:=by simp only [AV.closed.closedL,(intV_isInt hd0B).closed,hv3.closed,Bool.and_self]
 refine Ret_of mixed Tryz.func45 comp45 _ 16 res45 nt45 (by simp) (by simp) ?_
 simp only [c45,r45_0,r45_1,SS,reduceCtorEq,reduceIte]
 refine callA_pure t0 ?_ c1
 simp only [SS,reduceIte,Nat.reduceEqDiff]
 simp only [r45_2,SS,reduceIte,Nat.reduceEqDiff]
 refine callA_pure t1 ?_ c2
 simp only [SS,forall_const,reduceIte,Nat.reduceEqDiff]
 refine ⟨fun h1=>?_,fun h1=>?_⟩
 ·have hp:=hviff.1 h1
  have hd0e:d0=lead (rowF M) n:=detO_spec hS (fun t ht=>by have:=hp t (by omega);omega) hd0
  refine callA_pure t2 ?_ c2 (intV_isInt hd0B).closed
  simp only [SS,forall_const,reduceIte,Nat.reduceEqDiff]
  refine callA_pure t3 ?_ rfl hv3.closed
  simp only [SS,forall_const,reduceIte,Nat.reduceEqDiff]
  refine callA_pure t4 ?_ c3
  simp only [SS,forall_const,reduceIte,Nat.reduceEqDiff]
  have e:decide ((if d0<10000 then (-1:Int) else if d0=10000 then 0 else 1)≤0)=decide (goodD n M):=by
   rw [decide_eq_decide]
   unfold goodD
   rw [←hd0e]
   constructor
   ·intro h
    refine ⟨hp,?_⟩
    split at h
    ·omega
    ·split at h<;>omega
   ·rintro ⟨_,h⟩
    split
    ·omega
    ·split<;>omega
  rw [e]
  exact ⟨.inl trivial,_,rfl,.drop _ _ rfl (by intro i cs h;omega)⟩
 ·have hng:decide (goodD n M)=false:=decide_eq_false (fun hg=>h1 (hviff.2 hg.1))
  have d1:decide (valZ M ds=0)=false:=decide_eq_false h1
  rw [hng]
  simp only [d1]
  exact ⟨.inl trivial,_,rfl,.drop _ _ rfl (by intro i cs h;omega)⟩
end Go.Proofs.YtenboapacjlmoaaGreatDoor
namespace Go.Proofs.YtenboapacjlmoaaGreatDoor
set_option linter.unusedSimpArgs false
set_option linter.unusedVariables false
open Go Go.AL Go.Proofs Go.Limb
set_option maxRecDepth 100000
theorem bH_ren {σ:Nat→Nat} {K N n:Nat} {rows:List (List Int)} (hσ:∀j,σ j=K+j):(bH N n rows).map (renB σ)=bO K N n rows:=by
 unfold bH bO
 rw [List.map_cons,List.map_map]
 congr 1
 ·show some ((outS N n rows.length).map (AV.ren σ))=_
  congr 1
  unfold outS outO
  rw [List.map_append]
  congr 1
  ·unfold rowsS rowsO
   rw [List.map_map]
   refine List.map_congr_left fun k _=>?_
   show AV.sl (σ (k+1)) 0 n 1 (some n)= .sl (K+k+1) 0 n 1 (some n)
   rw [hσ]
   rfl
  ·rw [List.map_replicate]
   rfl
 ·refine List.map_congr_left fun r _=>?_
  show some ((i64z r).map (AV.ren σ))=some (i64z r)
  rw [map_ren_closed _ _ (i64z_closed r)]
structure ChainR (n:Nat) (fork:Bool) (i:Nat) (R:List (List Int)):Prop where
 len:R.length=i
 row:∀s,s<i→(R.getD s []).length=n
 ent:∀s t,s<i→t<n→ent R s t=if s=t then 2 else if t<i∧(linked n fork s t=true∨linked n fork t s=true) then -1 else 0
def prevI (n:Nat) (fork:Bool) (i:Nat):Int:=if fork=true∧i+1=n∧3<n then (i:Int)-2 else (i:Int)-1
theorem linked_iff {n i k:Nat} {fork:Bool}:linked n fork i k=true↔(k:Int)=prevI n fork i:=by
 unfold linked prevI
 split
 ·rw [beq_iff_eq];omega
 ·rw [beq_iff_eq];omega
theorem linked_lt {n i k:Nat} {fork:Bool} (h:linked n fork i k=true):k<i:=by
 have:=linked_iff.1 h
 unfold prevI at this
 split at this<;>omega
theorem chain_done {n:Nat} {fork:Bool} {R:List (List Int)} (h:ChainR n fork n R):R=chainM n fork:=by
 refine shp_ext (n:=n) ⟨h.len,h.row⟩ (mkM_shp _ _) fun s t hs ht=>?_
 rw [h.ent s t hs ht]
 unfold chainM
 rw [ent_mk hs ht]
 by_cases e:s=t
 ·rw [if_pos e,if_pos e]
 ·rw [if_neg e,if_neg e]
  by_cases e2:linked n fork s t=true∨linked n fork t s=true
  ·rw [if_pos ⟨ht,e2⟩,if_pos e2]
  ·rw [if_neg (fun x=>e2 x.2),if_neg e2]
def twoRow (n i:Nat):List Int:=(List.replicate n 0).set i 2
theorem snoc_ent {R:List (List Int)} {i:Nat} (hl:R.length=i) (r:List Int) (s t:Nat):ent (R++[r]) s t=if s=i then r.getD t 0 else ent R s t:=by
 unfold ent
 by_cases e:s=i
 ·rw [if_pos e,e,List.getD_eq_getElem?_getD (l:=R++[r]),List.getElem?_append_right (by omega),hl,Nat.sub_self];rfl
 ·rw [if_neg e]
  rcases Nat.lt_or_ge s i with h | h
  ·rw [List.getD_eq_getElem?_getD (l:=R++[r]),List.getElem?_append_left (by omega),←List.getD_eq_getElem?_getD]
  ·rw [List.getD_eq_getElem?_getD (l:=R++[r]),List.getElem?_eq_none (by simp;omega),List.getD_eq_getElem?_getD (l:=R),List.getElem?_eq_none (by omega)]
theorem two_get {n i t:Nat} (hi:i<n):(twoRow n i).getD t 0=if t=i then 2 else 0:=by
 unfold twoRow
 rw [List.getD_eq_getElem?_getD,List.getElem?_set]
 by_cases e:i=t
 ·rw [if_pos e,if_pos (by simpa using hi),if_pos e.symm];rfl
 ·rw [if_neg e,if_neg (fun x=>e x.symm),List.getElem?_replicate]
  split<;>rfl
theorem chain_first {n i:Nat} {fork:Bool} {R:List (List Int)} (h:ChainR n fork i R) (hi:i<n) (hno:∀t,linked n fork i t=false):ChainR n fork (i+1) (R++[twoRow n i]):=by
 refine ⟨by simp [h.len],fun s hs=>?_,fun s t hs ht=>?_⟩
 ·rcases (by omega:s<i∨s=i) with e | e
  ·rw [List.getD_eq_getElem?_getD,List.getElem?_append_left (by rw [h.len];exact e),←List.getD_eq_getElem?_getD];exact h.row s e
  ·rw [e,List.getD_eq_getElem?_getD,List.getElem?_append_right (by rw [h.len];omega),h.len,Nat.sub_self];simp [twoRow]
 ·rw [snoc_ent h.len]
  by_cases e:s=i
  ·rw [if_pos e,two_get hi]
   subst e
   by_cases e2:t=s
   ·rw [if_pos e2,if_pos e2.symm]
   ·rw [if_neg e2,if_neg (fun x=>e2 x.symm),if_neg]
    rintro ⟨h1,h2 | h2⟩
    ·rw [hno] at h2;cases h2
    ·have:=linked_lt h2;omega
  ·rw [if_neg e,h.ent s t (by omega) ht]
   by_cases e2:s=t
   ·rw [if_pos e2,if_pos e2]
   ·rw [if_neg e2,if_neg e2]
    by_cases e3:t<i∧(linked n fork s t=true∨linked n fork t s=true)
    ·rw [if_pos e3,if_pos ⟨by omega,e3.2⟩]
    ·rw [if_neg e3,if_neg]
     rintro ⟨h1,h2⟩
     rcases (by omega:t<i∨t=i) with e4 | e4
     ·exact e3 ⟨e4,h2⟩
     ·rw [e4] at h2
      rcases h2 with h2 | h2
      ·have:=linked_lt h2;omega
      ·rw [hno] at h2;cases h2
theorem chain_next {n i k:Nat} {fork:Bool} {R:List (List Int)} (h:ChainR n fork i R) (hi:i<n) (hk:linked n fork i k=true):ChainR n fork (i+1) (setM (setM (R++[twoRow n i]) i k (-1)) k i (-1)):=by
 have hki:=linked_lt hk
 have hone:∀t,linked n fork i t=true↔t=k:=by
  intro t
  rw [linked_iff,←linked_iff.1 hk]
  omega
 have hl:(R++[twoRow n i]).length=i+1:=by simp [h.len]
 have hrow:∀s,s<i+1→((R++[twoRow n i]).getD s []).length=n:=by
  intro s hs
  rcases (by omega:s<i∨s=i) with e | e
  ·rw [List.getD_eq_getElem?_getD,List.getElem?_append_left (by rw [h.len];exact e),←List.getD_eq_getElem?_getD];exact h.row s e
  ·rw [e,List.getD_eq_getElem?_getD,List.getElem?_append_right (by rw [h.len];omega),h.len,Nat.sub_self];simp [twoRow]
 have hset:∀(X:List (List Int)) (a b:Nat) (z:Int),(∀s,s<i+1→(X.getD s []).length=n)→X.length=i+1→a<i+1→∀s,s<i+1→((setM X a b z).getD s []).length=n:=by
  intro X a b z hX hXl ha s hs
  unfold setM
  rw [List.getD_eq_getElem?_getD,List.getElem?_set]
  by_cases e:a=s
  ·subst e
   rw [if_pos rfl,if_pos (by omega),Option.getD_some,List.length_set];exact hX a hs
  ·rw [if_neg e,←List.getD_eq_getElem?_getD];exact hX s hs
 have h1l:(setM (R++[twoRow n i]) i k (-1)).length=i+1:=by rw [setM_len];exact hl
 have h1r:=hset _ i k (-1) hrow hl (by omega)
 refine ⟨by rw [setM_len];exact h1l,hset _ k i (-1) h1r h1l (by omega),fun s t hs ht=>?_⟩
 rw [ent_set' (by omega) (by rw [h1r k (by omega)];exact hi),ent_set' (by omega) (by rw [hrow i (by omega)];omega),snoc_ent h.len]
 by_cases a1:s=k∧t=i
 ·obtain ⟨rfl,rfl⟩:=a1
  rw [if_pos ⟨rfl,rfl⟩,if_neg (by omega),if_pos ⟨by omega,.inr hk⟩]
 ·rw [if_neg a1]
  by_cases a2:s=i∧t=k
  ·obtain ⟨rfl,rfl⟩:=a2
   rw [if_pos ⟨rfl,rfl⟩,if_neg (by omega),if_pos ⟨by omega,.inl hk⟩]
  ·rw [if_neg a2]
   by_cases e:s=i
   ·rw [if_pos e,two_get hi]
    subst e
    by_cases e2:t=s
    ·rw [if_pos e2,if_pos e2.symm]
    ·rw [if_neg e2,if_neg (fun x=>e2 x.symm),if_neg]
     rintro ⟨h1,h2 | h2⟩
     ·exact a2 ⟨rfl,(hone t).1 h2⟩
     ·have:=linked_lt h2;omega
   ·rw [if_neg e,h.ent s t (by omega) ht]
    by_cases e2:s=t
    ·rw [if_pos e2,if_pos e2]
    ·rw [if_neg e2,if_neg e2]
     by_cases e3:t<i∧(linked n fork s t=true∨linked n fork t s=true)
     ·rw [if_pos e3,if_pos ⟨by omega,e3.2⟩]
     ·rw [if_neg e3,if_neg]
      rintro ⟨h1,h2⟩
      rcases (by omega:t<i∨t=i) with e4 | e4
      ·exact e3 ⟨e4,h2⟩
      ·rw [e4] at h2
       rcases h2 with h2 | h2
       ·have:=linked_lt h2;omega
       ·exact a1 ⟨(hone s).1 h2,e4⟩
end Go.Proofs.YtenboapacjlmoaaGreatDoor
namespace Go.Proofs.YtenboapacjlmoaaGreatDoor
set_option linter.unusedSimpArgs false
set_option linter.unusedVariables false
open Go Go.AL Go.Proofs Go.Limb
set_option maxRecDepth 100000
set_option maxHeartbeats 4000000 in
theorem tChain {n:Nat} {fork:Bool} (hn:1≤n∧n≤8):Ret Tryz.prog G 42 [.int .i64 (n:Nat),.bool fork] [] (.sl 0 0 n 1 (some n)) (bH n n (chainM n fork)):=by
 refine Ret_of mixed Tryz.func42 comp42 _ 57 res42 nt42 (by simp) (by simp) ?_
 simp only [c42,r42_0,r42_1,SS,reduceCtorEq,reduceIte,Nat.reduceEqDiff,Int.toNat_natCast]
 refine ⟨by decide,⟨by omega,by omega,by omega,by omega⟩,?_⟩
 simp only [r42_2,SS,reduceIte,Nat.reduceEqDiff]
 have hb0:[some (List.replicate n (AV.vec [] 0 (some 0)))]=bH n n []:=rfl
 rw [hb0]
 refine W_loop (fun q E H=>∃i R,i+q=n∧ChainR n fork i R∧H=bH n n R∧E 0= .int .i64 (n:Nat)∧E 1= .bool fork∧E 5= .sl 0 0 n 1 (some n)∧E 11= .int .i64 (n:Nat)∧E 12= .int .i64 (i:Nat)) (n:=n)
  ⟨0,[],by omega,⟨rfl,fun s h=>absurd h (by omega),fun s t h=>absurd h (by omega)⟩,rfl,by simp only [upd_app,argsE_app,List.getD_cons_zero,Nat.reduceEqDiff,if_false],by simp only [upd_app,argsE_app,List.getD_cons_zero,List.getD_cons_succ,Nat.reduceEqDiff,if_false],by simp only [upd_app,argsE_app,List.getD_cons_succ,Nat.reduceEqDiff,reduceIte,if_false],by simp only [upd_app,argsE_app,List.getD_cons_succ,Nat.reduceEqDiff,reduceIte,if_false],by simp only [upd_app,argsE_app,List.getD_cons_succ,Nat.reduceEqDiff,reduceIte,if_false];rfl⟩ ?_
 rintro q E H ⟨i,R,hiq,hR,rfl,e0,e1,e5,e11,e12⟩
 refine wpC_sound mixed ?_
 simp only [l42_0,r42_3,SS,reduceCtorEq,reduceIte,e11,e12]
 refine ⟨fun hlt=>?_,fun hge=>?_⟩
 ·obtain ⟨q,rfl⟩:∃q',q=q'+1:=⟨q-1,by omega⟩
  have hi:i<n:=by omega
  have hRl:=hR.len
  have w5:IntKind.i64.wrap ((i:Int)+1)=((i+1:Nat):Int):=by rw [show (i:Int)+1=((i+1:Nat):Int) by omega];exact w64 (by omega) (by omega)
  have w6:IntKind.i64.wrap ((i:Int)-1)=(i:Int)-1:=w64 (by omega) (by omega)
  have w7:IntKind.i64.wrap ((i:Int)-2)=(i:Int)-2:=w64 (by omega) (by omega)
  have w8:IntKind.i64.wrap ((n:Int)-1)=(n:Int)-1:=w64 (by omega) (by omega)
  have hbl:(bH n n R).length=i+1:=by rw [bH_len,hRl]
  have go:getB (bH n n R++[some (i64z (List.replicate n 0))]) 0=some (outS n n i):=by
   have:getB (bH n n R) 0=some (outS n n i):=by rw [bH_outer,hRl]
   exact this
  have gol:=outS_len (N:=n) (n:=n) (i:=i) (by omega)
  have hnew:=bH_new (N:=n) (n:=n) (rows:=R) (List.replicate n 0) (by omega)
  rw [hRl] at hnew
  simp only [r42_4,r42_5,SS,reduceCtorEq,reduceIte,Nat.reduceEqDiff,e0,e5,e12,Int.toNat_natCast,hbl,i64z_rep,go,gol]
  refine ⟨by decide,⟨by omega,by omega,by omega,by omega⟩,⟨by omega,by omega⟩,by omega,?_⟩
  rw [hnew]
  have hrl:(R++[List.replicate n 0]).length=i+1:=by simp [hRl]
  have g0:getB (bH n n (R++[List.replicate n 0])) 0=some (outS n n (i+1)):=by rw [bH_outer,hrl]
  have gl:=outS_len (N:=n) (n:=n) (i:=i+1) (by omega)
  have gg:=outS_get (N:=n) (n:=n) (i:=i+1) (k:=i) (by omega)
  have gr:=bH_row (N:=n) (n:=n) (i:=i) (rows:=R++[List.replicate n 0]) (by omega)
  have grr:(R++[List.replicate n 0]).getD i []=List.replicate n 0:=by
   rw [List.getD_eq_getElem?_getD,List.getElem?_append_right (by omega),hRl,Nat.sub_self];simp
  rw [grr] at gr
  have eset:(R++[List.replicate n 0]).set i ((List.replicate n 0).set i 2)=R++[twoRow n i]:=by
   rw [List.set_append_right _ _ (by omega),hRl,Nat.sub_self];rfl
  simp only [r42_6,SS,forall_const,reduceIte,Nat.reduceEqDiff,e5,Int.toNat_natCast,g0,gl,gg,gr,i64z_len,List.length_replicate,i64z_set,bH_set,eset]
  refine ⟨⟨by omega,by omega⟩,by omega,⟨by omega,by omega⟩,by omega,?_⟩
  simp only [r42_7,SS,reduceIte,Nat.reduceEqDiff,w6]
  have hrl2:(R++[twoRow n i]).length=i+1:=by simp [hRl]
  have k0:getB (bH n n (R++[twoRow n i])) 0=some (outS n n (i+1)):=by rw [bH_outer,hrl2]
  have tailS:∀k:Nat,linked n fork i k=true→k<i∧outS n n (i+1)=outS n n (i+1):=fun k h=>⟨linked_lt h,rfl⟩
  rcases (by cases fork<;>simp<;>omega:fork=false∨(fork=true∧i+1≠n)∨(fork=true∧i+1=n∧¬3<n)∨(fork=true∧i+1=n∧3<n)) with hf | ⟨hf,h1⟩ | ⟨hf,h1,h2⟩ | ⟨hf,h1,h2⟩
  ·subst hf
   have hprev:prevI n false i=(i:Int)-1:=by unfold prevI;rw [if_neg (by simp)]
   simp only [r42_8,SS,forall_const,reduceCtorEq,reduceIte,Nat.reduceEqDiff,e0,e1,w8]
   simp only [r42_10,SS,reduceIte,Nat.reduceEqDiff]
   refine ⟨fun hk0=>?_,fun hk0=>?_⟩
   ·obtain ⟨k,hk⟩:∃k:Nat,(i:Int)-1=(k:Int):=⟨((i:Int)-1).toNat,by omega⟩
    have hlk:linked n false i k=true:=linked_iff.2 (by rw [hprev];exact hk.symm)
    have hki:=linked_lt hlk
    have hnx:=chain_next hR hi hlk
    have gk:=outS_get (N:=n) (n:=n) (i:=i+1) (k:=k) (by omega)
    have r1:=bH_row (N:=n) (n:=n) (i:=i) (rows:=R++[twoRow n i]) (by omega)
    have r2:=bH_row (N:=n) (n:=n) (i:=k) (rows:=setM (R++[twoRow n i]) i k (-1)) (by rw [setM_len];omega)
    have l1:((R++[twoRow n i]).getD i []).length=n:=by
     rw [List.getD_eq_getElem?_getD,List.getElem?_append_right (by omega),hRl,Nat.sub_self];simp [twoRow]
    have l2:((setM (R++[twoRow n i]) i k (-1)).getD k []).length=n:=by
     unfold setM
     rw [List.getD_eq_getElem?_getD,List.getElem?_set_ne (by omega),List.getElem?_append_left (by omega),←List.getD_eq_getElem?_getD]
     exact hR.row k hki
    have s1:=bH_set (N:=n) (n:=n) (i:=i) (rows:=R++[twoRow n i]) (((R++[twoRow n i]).getD i []).set k (-1))
    have s1e:(R++[twoRow n i]).set i (((R++[twoRow n i]).getD i []).set k (-1))=setM (R++[twoRow n i]) i k (-1):=rfl
    rw [s1e] at s1
    have s2:=bH_set (N:=n) (n:=n) (i:=k) (rows:=setM (R++[twoRow n i]) i k (-1)) (((setM (R++[twoRow n i]) i k (-1)).getD k []).set i (-1))
    have s2e:(setM (R++[twoRow n i]) i k (-1)).set k (((setM (R++[twoRow n i]) i k (-1)).getD k []).set i (-1))=setM (setM (R++[twoRow n i]) i k (-1)) k i (-1):=rfl
    rw [s2e] at s2
    simp only [r42_11,SS,forall_const,reduceIte,Nat.reduceEqDiff,e5,hk,Int.toNat_natCast,k0,gl,gg,gk,r1,l1,i64z_len,i64z_set,s1,r2,l2,s2]
    refine ⟨⟨by omega,by omega⟩,by omega,⟨by omega,by omega⟩,by omega,⟨by omega,by omega⟩,by omega,⟨by omega,by omega⟩,by omega,rfl,?_⟩
    simp only [r42_12,SS,reduceIte,Nat.reduceEqDiff,e12,w5]
    refine ⟨q,_,_,by omega,⟨i+1,_,by omega,hnx,rfl,?_,?_,?_,?_,?_⟩,.refl⟩
    all_goals simp only [upd_app,Nat.reduceEqDiff,reduceIte,if_false, *]
   ·have hno:∀t,linked n false i t=false:=by
     intro t
     cases hb:linked n false i t with
     | false=>rfl
     | true=>have:=linked_iff.1 hb;rw [hprev] at this;omega
    have hnx:=chain_first hR hi hno
    simp only [r42_12,SS,reduceIte,Nat.reduceEqDiff,e12,w5]
    refine ⟨q,_,_,by omega,⟨i+1,_,by omega,hnx,rfl,?_,?_,?_,?_,?_⟩,.refl⟩
    all_goals simp only [upd_app,Nat.reduceEqDiff,reduceIte,if_false, *]
  ·subst hf
   have hprev:prevI n true i=(i:Int)-1:=by unfold prevI;rw [if_neg (fun e=>h1 e.2.1)]
   have d1:decide ((i:Int)=(n:Int)-1)=false:=decide_eq_false (by omega)
   simp only [r42_8,SS,forall_const,reduceCtorEq,reduceIte,Nat.reduceEqDiff,e0,e1,w8,d1]
   simp only [r42_10,SS,reduceIte,Nat.reduceEqDiff]
   refine ⟨fun hk0=>?_,fun hk0=>?_⟩
   ·obtain ⟨k,hk⟩:∃k:Nat,(i:Int)-1=(k:Int):=⟨((i:Int)-1).toNat,by omega⟩
    have hlk:linked n true i k=true:=linked_iff.2 (by rw [hprev];exact hk.symm)
    have hki:=linked_lt hlk
    have hnx:=chain_next hR hi hlk
    have gk:=outS_get (N:=n) (n:=n) (i:=i+1) (k:=k) (by omega)
    have r1:=bH_row (N:=n) (n:=n) (i:=i) (rows:=R++[twoRow n i]) (by omega)
    have r2:=bH_row (N:=n) (n:=n) (i:=k) (rows:=setM (R++[twoRow n i]) i k (-1)) (by rw [setM_len];omega)
    have l1:((R++[twoRow n i]).getD i []).length=n:=by
     rw [List.getD_eq_getElem?_getD,List.getElem?_append_right (by omega),hRl,Nat.sub_self];simp [twoRow]
    have l2:((setM (R++[twoRow n i]) i k (-1)).getD k []).length=n:=by
     unfold setM
     rw [List.getD_eq_getElem?_getD,List.getElem?_set_ne (by omega),List.getElem?_append_left (by omega),←List.getD_eq_getElem?_getD]
     exact hR.row k hki
    have s1:=bH_set (N:=n) (n:=n) (i:=i) (rows:=R++[twoRow n i]) (((R++[twoRow n i]).getD i []).set k (-1))
    have s1e:(R++[twoRow n i]).set i (((R++[twoRow n i]).getD i []).set k (-1))=setM (R++[twoRow n i]) i k (-1):=rfl
    rw [s1e] at s1
    have s2:=bH_set (N:=n) (n:=n) (i:=k) (rows:=setM (R++[twoRow n i]) i k (-1)) (((setM (R++[twoRow n i]) i k (-1)).getD k []).set i (-1))
    have s2e:(setM (R++[twoRow n i]) i k (-1)).set k (((setM (R++[twoRow n i]) i k (-1)).getD k []).set i (-1))=setM (setM (R++[twoRow n i]) i k (-1)) k i (-1):=rfl
    rw [s2e] at s2
    simp only [r42_11,SS,forall_const,reduceIte,Nat.reduceEqDiff,e5,hk,Int.toNat_natCast,k0,gl,gg,gk,r1,l1,i64z_len,i64z_set,s1,r2,l2,s2]
    refine ⟨⟨by omega,by omega⟩,by omega,⟨by omega,by omega⟩,by omega,⟨by omega,by omega⟩,by omega,⟨by omega,by omega⟩,by omega,rfl,?_⟩
    simp only [r42_12,SS,reduceIte,Nat.reduceEqDiff,e12,w5]
    refine ⟨q,_,_,by omega,⟨i+1,_,by omega,hnx,rfl,?_,?_,?_,?_,?_⟩,.refl⟩
    all_goals simp only [upd_app,Nat.reduceEqDiff,reduceIte,if_false, *]
   ·have hno:∀t,linked n true i t=false:=by
     intro t
     cases hb:linked n true i t with
     | false=>rfl
     | true=>have:=linked_iff.1 hb;rw [hprev] at this;omega
    have hnx:=chain_first hR hi hno
    simp only [r42_12,SS,reduceIte,Nat.reduceEqDiff,e12,w5]
    refine ⟨q,_,_,by omega,⟨i+1,_,by omega,hnx,rfl,?_,?_,?_,?_,?_⟩,.refl⟩
    all_goals simp only [upd_app,Nat.reduceEqDiff,reduceIte,if_false, *]
  ·subst hf
   have hprev:prevI n true i=(i:Int)-1:=by unfold prevI;rw [if_neg (fun e=>h2 e.2.2)]
   have d1:decide ((i:Int)=(n:Int)-1)=true:=decide_eq_true (by omega)
   have d2:decide ((3:Int)<(n:Nat))=false:=decide_eq_false (by omega)
   simp only [r42_8,SS,forall_const,reduceCtorEq,reduceIte,Nat.reduceEqDiff,e0,e1,w8,d1,d2]
   simp only [r42_10,SS,reduceIte,Nat.reduceEqDiff]
   refine ⟨fun hk0=>?_,fun hk0=>?_⟩
   ·obtain ⟨k,hk⟩:∃k:Nat,(i:Int)-1=(k:Int):=⟨((i:Int)-1).toNat,by omega⟩
    have hlk:linked n true i k=true:=linked_iff.2 (by rw [hprev];exact hk.symm)
    have hki:=linked_lt hlk
    have hnx:=chain_next hR hi hlk
    have gk:=outS_get (N:=n) (n:=n) (i:=i+1) (k:=k) (by omega)
    have r1:=bH_row (N:=n) (n:=n) (i:=i) (rows:=R++[twoRow n i]) (by omega)
    have r2:=bH_row (N:=n) (n:=n) (i:=k) (rows:=setM (R++[twoRow n i]) i k (-1)) (by rw [setM_len];omega)
    have l1:((R++[twoRow n i]).getD i []).length=n:=by
     rw [List.getD_eq_getElem?_getD,List.getElem?_append_right (by omega),hRl,Nat.sub_self];simp [twoRow]
    have l2:((setM (R++[twoRow n i]) i k (-1)).getD k []).length=n:=by
     unfold setM
     rw [List.getD_eq_getElem?_getD,List.getElem?_set_ne (by omega),List.getElem?_append_left (by omega),←List.getD_eq_getElem?_getD]
     exact hR.row k hki
    have s1:=bH_set (N:=n) (n:=n) (i:=i) (rows:=R++[twoRow n i]) (((R++[twoRow n i]).getD i []).set k (-1))
    have s1e:(R++[twoRow n i]).set i (((R++[twoRow n i]).getD i []).set k (-1))=setM (R++[twoRow n i]) i k (-1):=rfl
    rw [s1e] at s1
    have s2:=bH_set (N:=n) (n:=n) (i:=k) (rows:=setM (R++[twoRow n i]) i k (-1)) (((setM (R++[twoRow n i]) i k (-1)).getD k []).set i (-1))
    have s2e:(setM (R++[twoRow n i]) i k (-1)).set k (((setM (R++[twoRow n i]) i k (-1)).getD k []).set i (-1))=setM (setM (R++[twoRow n i]) i k (-1)) k i (-1):=rfl
    rw [s2e] at s2
    simp only [r42_11,SS,forall_const,reduceIte,Nat.reduceEqDiff,e5,hk,Int.toNat_natCast,k0,gl,gg,gk,r1,l1,i64z_len,i64z_set,s1,r2,l2,s2]
    refine ⟨⟨by omega,by omega⟩,by omega,⟨by omega,by omega⟩,by omega,⟨by omega,by omega⟩,by omega,⟨by omega,by omega⟩,by omega,rfl,?_⟩
    simp only [r42_12,SS,reduceIte,Nat.reduceEqDiff,e12,w5]
    refine ⟨q,_,_,by omega,⟨i+1,_,by omega,hnx,rfl,?_,?_,?_,?_,?_⟩,.refl⟩
    all_goals simp only [upd_app,Nat.reduceEqDiff,reduceIte,if_false, *]
   ·have hno:∀t,linked n true i t=false:=by
     intro t
     cases hb:linked n true i t with
     | false=>rfl
     | true=>have:=linked_iff.1 hb;rw [hprev] at this;omega
    have hnx:=chain_first hR hi hno
    simp only [r42_12,SS,reduceIte,Nat.reduceEqDiff,e12,w5]
    refine ⟨q,_,_,by omega,⟨i+1,_,by omega,hnx,rfl,?_,?_,?_,?_,?_⟩,.refl⟩
    all_goals simp only [upd_app,Nat.reduceEqDiff,reduceIte,if_false, *]
  ·subst hf
   have hprev:prevI n true i=(i:Int)-2:=by unfold prevI;rw [if_pos ⟨rfl,h1,h2⟩]
   have d1:decide ((i:Int)=(n:Int)-1)=true:=decide_eq_true (by omega)
   have d2:decide ((3:Int)<(n:Nat))=true:=decide_eq_true (by omega)
   simp only [r42_8,SS,forall_const,reduceCtorEq,reduceIte,Nat.reduceEqDiff,e0,e1,w8,d1,d2]
   simp only [r42_9,SS,reduceIte,Nat.reduceEqDiff,w7]
   simp only [r42_10,SS,reduceIte,Nat.reduceEqDiff]
   refine ⟨fun hk0=>?_,fun hk0=>?_⟩
   ·obtain ⟨k,hk⟩:∃k:Nat,(i:Int)-2=(k:Int):=⟨((i:Int)-2).toNat,by omega⟩
    have hlk:linked n true i k=true:=linked_iff.2 (by rw [hprev];exact hk.symm)
    have hki:=linked_lt hlk
    have hnx:=chain_next hR hi hlk
    have gk:=outS_get (N:=n) (n:=n) (i:=i+1) (k:=k) (by omega)
    have r1:=bH_row (N:=n) (n:=n) (i:=i) (rows:=R++[twoRow n i]) (by omega)
    have r2:=bH_row (N:=n) (n:=n) (i:=k) (rows:=setM (R++[twoRow n i]) i k (-1)) (by rw [setM_len];omega)
    have l1:((R++[twoRow n i]).getD i []).length=n:=by
     rw [List.getD_eq_getElem?_getD,List.getElem?_append_right (by omega),hRl,Nat.sub_self];simp [twoRow]
    have l2:((setM (R++[twoRow n i]) i k (-1)).getD k []).length=n:=by
     unfold setM
     rw [List.getD_eq_getElem?_getD,List.getElem?_set_ne (by omega),List.getElem?_append_left (by omega),←List.getD_eq_getElem?_getD]
     exact hR.row k hki
    have s1:=bH_set (N:=n) (n:=n) (i:=i) (rows:=R++[twoRow n i]) (((R++[twoRow n i]).getD i []).set k (-1))
    have s1e:(R++[twoRow n i]).set i (((R++[twoRow n i]).getD i []).set k (-1))=setM (R++[twoRow n i]) i k (-1):=rfl
    rw [s1e] at s1
    have s2:=bH_set (N:=n) (n:=n) (i:=k) (rows:=setM (R++[twoRow n i]) i k (-1)) (((setM (R++[twoRow n i]) i k (-1)).getD k []).set i (-1))
    have s2e:(setM (R++[twoRow n i]) i k (-1)).set k (((setM (R++[twoRow n i]) i k (-1)).getD k []).set i (-1))=setM (setM (R++[twoRow n i]) i k (-1)) k i (-1):=rfl
    rw [s2e] at s2
    simp only [r42_11,SS,forall_const,reduceIte,Nat.reduceEqDiff,e5,hk,Int.toNat_natCast,k0,gl,gg,gk,r1,l1,i64z_len,i64z_set,s1,r2,l2,s2]
    refine ⟨⟨by omega,by omega⟩,by omega,⟨by omega,by omega⟩,by omega,⟨by omega,by omega⟩,by omega,⟨by omega,by omega⟩,by omega,rfl,?_⟩
    simp only [r42_12,SS,reduceIte,Nat.reduceEqDiff,e12,w5]
    refine ⟨q,_,_,by omega,⟨i+1,_,by omega,hnx,rfl,?_,?_,?_,?_,?_⟩,.refl⟩
    all_goals simp only [upd_app,Nat.reduceEqDiff,reduceIte,if_false, *]
   ·have hno:∀t,linked n true i t=false:=by
     intro t
     cases hb:linked n true i t with
     | false=>rfl
     | true=>have:=linked_iff.1 hb;rw [hprev] at this;omega
    have hnx:=chain_first hR hi hno
    simp only [r42_12,SS,reduceIte,Nat.reduceEqDiff,e12,w5]
    refine ⟨q,_,_,by omega,⟨i+1,_,by omega,hnx,rfl,?_,?_,?_,?_,?_⟩,.refl⟩
    all_goals simp only [upd_app,Nat.reduceEqDiff,reduceIte,if_false, *]
 ·have hin:i=n:=by omega
  subst hin
  have e:=chain_done hR
  subst e
  simp only [r42_13,SS,reduceIte,Nat.reduceEqDiff,e5]
  exact ⟨.inl trivial,_,rfl,.keep _ _⟩
end Go.Proofs.YtenboapacjlmoaaGreatDoor
namespace Go.Proofs.YtenboapacjlmoaaGreatDoor
set_option linter.unusedSimpArgs false
set_option linter.unusedVariables false
open Go Go.AL Go.Proofs Go.Limb
set_option maxRecDepth 100000
theorem bO_frzM {P:Heap} {m o N n:Nat} {rows:List (List Int)} (hm:m≤o) (ho:P.length=o) (hN:rows.length=N) (hn:∀i,i<N→(rows.getD i []).length=n):frzI m (P++bO o N n rows) 3 (.sl o 0 N 1 (some N))=some (.vec (rowsV n rows) N (some N)):=by
 have e0:outO o N n rows.length=rowsO o n N:=by
  unfold outO
  rw [hN,Nat.sub_self,List.replicate_zero,List.append_nil]
 have key:(rowsO o n N).mapM (frzI m (P++bO o N n rows) 2)=some (rowsV n rows):=by
  have:rowsV n rows=(List.range N).map fun k=>AV.vec (i64z (rows.getD k [])) n (some n):=by
   refine List.ext_getElem (by simp [rowsV,hN]) fun k h1 h2=>?_
   simp only [rowsV,List.getElem_map,List.getElem_range]
   have hk:k<rows.length:=by simpa [rowsV] using h1
   rw [List.getD_eq_getElem?_getD,List.getElem?_eq_getElem hk]
   rfl
  rw [this]
  unfold rowsO
  rw [List.mapM_map]
  have:∀l:List Nat,(∀k∈l,k<N)→l.mapM (fun k=>frzI m (P++bO o N n rows) 2 (.sl (o+k+1) 0 n 1 (some n)))=some (l.map fun k=>AV.vec (i64z (rows.getD k [])) n (some n)):=by
   intro l
   induction l with
   | nil=>intro _;rfl
   | cons k l ih=>
    intro h
    have hk:=h k (by simp)
    have e:frzI m (P++bO o N n rows) 2 (.sl (o+k+1) 0 n 1 (some n))=some (.vec (i64z (rows.getD k [])) n (some n)):=by
     rw [frzI]
     have hl:=hn k hk
     simp only [show ¬o+k+1<m by omega,if_false,bO_row ho (show k<rows.length by omega),need,Nat.zero_add,Nat.mul_one,i64z_len,hl,Nat.le_refl,if_true,List.drop_zero]
     rw [List.take_of_length_le (by rw [i64z_len];omega),i64z_frz]
     rfl
    rw [List.mapM_cons,e,ih (fun x hx=>h x (by simp [hx]))]
    rfl
  exact this _ (fun k hk=>List.mem_range.1 hk)
 rw [frzI]
 simp only [show ¬o<m by omega,if_false,bO_outer ho,e0,need,Nat.zero_add,Nat.mul_one,rowsO_len,Nat.le_refl,if_true,List.drop_zero]
 rw [List.take_of_length_le (by rw [rowsO_len];omega),key]
 rfl
def latC (d k:Int) (l q:List Int) (c c2:Option Nat):List AV:=[.int .u8 d,.int .u8 k,.vec (i8z l) l.length c,.vec (i8z q) q.length c2]
def tP2 (d k:Int) (l q:List Int) (c c2:Option Nat) (j:Nat):Heap:=[some (latC d k l q c c2),some (tapeC l c j)]
theorem lat_closed (d kd:Int) (l q:List Int) (c c2:Option Nat):AV.closed.closedL (latC d kd l q c c2)=true:=by
 simp only [latC,AV.closed.closedL,AV.closed,Bool.and_self]
theorem tape_closed (l:List Int) (c:Option Nat) (j:Nat):AV.closed.closedL (tapeC l c j)=true:=by
 simp only [tapeC,AV.closed.closedL,AV.closed,Bool.and_self]
theorem tGram_end {d kd:Int} {l q:List Int} {c c2:Option Nat} {j n:Nat} {M:List (List Int)} {E:Env} {Q:Post} (h:Tape8 l) (hj:j≤l.length) (hn:1≤n∧n≤8) (hG:SmallG n M)
  (e5:E 5= .ptr 1 0) (e6:E 6= .int .i64 (n:Nat)) (e7:E 7= .sl 2 0 n 1 (some n))
  (hQ:∀E' H',E' 4=(if goodD n M then .vec (rowsV n M) n (some n) else .sl 2 0 n 1 (some n))→H'=(if goodD n M then tP2 d kd l q c c2 j else tP2 d kd l q c c2 (tapeK l j n)++bO 2 n n (diaM l j n 2))→Q .ret E' H'):
  W Tryz.prog G 0 74 (.seq (.seq (.reg r15_19 none) (.cond (.t 69) (.seq (.reg r15_20 none) .ret) .skip)) (.seq (.reg r15_21 none) .ret)) E (tP2 d kd l q c c2 j++bO 2 n n M) Q:=by
 refine W.weak (weak_frz 2 3 (Nat.zero_le _) (by simp [tP2,bO]) (fun i cs hi hg=>?_)) ?_
 ·rcases (by omega:i=0∨i=1) with rfl | rfl
  ·obtain rfl:latC d kd l q c c2=cs:=by simpa [tP2] using hg
   exact underL_closed _ _ (lat_closed ..)
  ·obtain rfl:tapeC l c j=cs:=by simpa [tP2] using hg
   exact underL_closed _ _ (tape_closed ..)
 have htk:(tP2 d kd l q c c2 j++bO 2 n n M).take 2=tP2 d kd l q c c2 j:=rfl
 rw [htk]
 have hfz:=bO_frzM (P:=tP2 d kd l q c c2 j) (m:=2) (o:=2) (Nat.le_refl _) rfl hG.shp.len hG.shp.row
 have f5:frzE 2 3 (tP2 d kd l q c c2 j++bO 2 n n M) E 5= .ptr 1 0:=by unfold frzE;rw [e5,if_pos (by rfl)]
 have f6:frzE 2 3 (tP2 d kd l q c c2 j++bO 2 n n M) E 6= .int .i64 (n:Nat):=by unfold frzE;rw [e6,if_pos (by rfl)]
 have f7:frzE 2 3 (tP2 d kd l q c c2 j++bO 2 n n M) E 7= .vec (rowsV n M) n (some n):=by unfold frzE;rw [e7,if_neg (by simp [AV.under]),hfz];rfl
 generalize frzE 2 3 (tP2 d kd l q c c2 j++bO 2 n n M) E=E1 at*
 have hIn:∀s t,In64 (ent M s t):=by
  intro s t
  have:=hG.bnd s t
  unfold In64;omega
 have hIm:ImV M (.vec (rowsV n M) n (some n)):=imV_rows hG.shp.len hG.shp.row hIn
 have tG:=tGood hG hIm hn
 have c7:AV.closed.closedL [.vec (rowsV n M) n (some n)]=true:=by simp only [AV.closed.closedL,hIm.closed,Bool.and_self]
 refine wpC_sound mixed ?_
 simp only [r15_19,SS,reduceIte,f7]
 refine callA_pure tG ?_ c7
 simp only [SS,reduceIte,Nat.reduceEqDiff]
 refine ⟨fun hb=>?_,fun hb=>?_⟩
 ·have hng:¬goodD n M:=by simpa using hb
  have tD:=tDiagonal (c:=c) (most:=2) h hj hn (by omega)
  have heff:=tape_eff (H:=tP2 d kd l q c c2 j) (id:=1) (n:=n) (cs':=tapeC l c (tapeK l j n)) (M:=diaM l j n 2) (by show 1<2;omega)
  simp only [r15_20,SS,reduceIte,Nat.reduceEqDiff,f5,f6]
  refine callA_one (id:=1) (cs:=tapeC l c j) (cs':=tapeC l c (tapeK l j n)) (L:=bO 1 n n (diaM l j n 2)) tD rfl rfl rfl (tape_closed ..) (tape_closed ..) ?_
  simp only [restA]
  rw [heff]
  simp only [SS,reduceIte,Nat.reduceEqDiff]
  refine hQ _ _ ?_ ?_
  ·simp only [upd_app,Nat.reduceEqDiff,reduceIte,if_false];rw [if_neg hng];rfl
  ·rw [if_neg hng];rfl
 ·have hg:goodD n M:=by simpa using hb
  simp only [r15_21,SS,reduceIte,Nat.reduceEqDiff,f7]
  refine hQ _ _ ?_ ?_
  ·simp only [upd_app,Nat.reduceEqDiff,reduceIte,if_false];rw [if_pos hg]
  ·rw [if_pos hg]
end Go.Proofs.YtenboapacjlmoaaGreatDoor
namespace Go.Proofs.YtenboapacjlmoaaGreatDoor
set_option linter.unusedSimpArgs false
set_option linter.unusedVariables false
open Go Go.AL Go.Proofs Go.Limb
set_option maxRecDepth 100000
theorem rawK_le {l:List Int} {kind n:Nat}:rawK l kind n≤l.length:=by
 have hz:(0:Nat)≤l.length:=Nat.zero_le _
 unfold rawK
 split
 ·exact tapeK_le hz _
 split
 ·exact tapeK_le hz 1
 split
 ·exact tapeK_le hz 1
 ·exact tapeK_le hz _
theorem tP2_set (d kd:Int) (l q:List Int) (c c2:Option Nat) (j j':Nat) (X:Heap):(tP2 d kd l q c c2 j++X).set 1 (some (tapeC l c j'))=tP2 d kd l q c c2 j'++X:=rfl
theorem tGram_pick {d kd:Int} {l q:List Int} {c c2:Option Nat} {n:Nat} {E:Env} {Q:Post} (h:Tape8 l) (hk:0≤kd∧kd<256) (hn:1≤n∧n≤8)
  (e2:E 2= .ptr 0 0) (e5:E 5= .ptr 1 0) (e6:E 6= .int .i64 (n:Nat))
  (hQ:∀E',E' 5= .ptr 1 0→E' 6= .int .i64 (n:Nat)→E' 7= .sl 2 0 n 1 (some n)→Q .normal E' (tP2 d kd l q c c2 (rawK l (kd%8).toNat n)++bO 2 n n (rawM l (kd%8).toNat n))):
  W Tryz.prog G 0 74 (.seq (.reg r15_4 none) (.block 0 (.seq (.seq (.reg r15_5 none) (.cond (.t 24) .skip (.seq (.reg r15_6 none) (.cond (.t 24) .skip (.seq (.reg r15_7 none) (.cond (.t 24) .skip (.reg r15_8 none))))))) (.cond (.t 24) (.reg r15_9 none) (.seq (.reg r15_10 none) (.cond (.t 32) (.seq (.reg r15_11 none) (.reg r15_12 (some [(2,6),(4,6)]))) (.seq (.reg r15_13 none) (.cond (.t 45) (.seq (.reg r15_14 none) (.reg r15_15 (some [(4,10),(8,10)]))) (.seq (.reg r15_16 none) (.cond (.t 62) (.reg r15_17 none) (.reg r15_18 none))))))))))) E (tP2 d kd l q c c2 0) Q:=by
 have hz:(0:Nat)≤l.length:=Nat.zero_le _
 have g0:getB (tP2 d kd l q c c2 0) 0=some (latC d kd l q c c2):=rfl
 have g1:getB (tP2 d kd l q c c2 0) 1=some (tapeC l c 0):=rfl
 have hrem:Int.tmod kd 8=kd%8:=Int.tmod_eq_emod_of_nonneg hk.1
 have tGen:=tGeneral (c:=c) h hz hn
 have h9:(1:Int)≤9∧(9:Int)≤9:=by omega
 have tD9:=tDiagonal (c:=c) (most:=9) h hz hn (by omega)
 have tD1:=tDiagonal (c:=c) (most:=1) h hz hn (by omega)
 have effG:=tape_eff (H:=tP2 d kd l q c c2 0) (id:=1) (n:=n) (cs':=tapeC l c (tapeK l 0 (n+triK n))) (M:=genM l 0 n) (by show 1<2;omega)
 have eff9:=tape_eff (H:=tP2 d kd l q c c2 0) (id:=1) (n:=n) (cs':=tapeC l c (tapeK l 0 n)) (M:=diaM l 0 n 9) (by show 1<2;omega)
 have eff1:=tape_eff (H:=tP2 d kd l q c c2 0) (id:=1) (n:=n) (cs':=tapeC l c (tapeK l 0 n)) (M:=diaM l 0 n 1) (by show 1<2;omega)
 refine wpC_sound mixed ?_
 simp only [r15_4,SS,forall_const,reduceIte,Nat.reduceAdd,Nat.reduceEqDiff,Nat.reduceLeDiff,e2,g0,latC]
 refine ⟨by decide,?_⟩
 rw [hrem]
 rcases (by omega:kd%8=0∨kd%8=1∨kd%8=2∨kd%8=3∨kd%8=4∨kd%8=5∨kd%8=6∨kd%8=7) with e | e | e | e | e | e | e | e
 all_goals
  rw [e] at hQ ⊢
  simp only [r15_5,r15_6,r15_7,r15_8,r15_9,r15_10,r15_11,r15_13,r15_14,r15_16,r15_17,r15_18,SS,forall_const,reduceIte,Nat.reduceEqDiff,e5,e6,Int.reduceEq,decide_true,decide_false]
 iterate 4
  ·refine callA_one (id:=1) (cs:=tapeC l c 0) (cs':=tapeC l c (tapeK l 0 (n+triK n))) (L:=bO 1 n n (genM l 0 n)) tGen rfl rfl rfl (tape_closed ..) (tape_closed ..) ?_
   simp only [restA]
   rw [effG]
   simp only [SS,reduceIte,Nat.reduceEqDiff]
   exact hQ _ (by simp only [upd_app,Nat.reduceEqDiff,if_false,e5]) (by simp only [upd_app,Nat.reduceEqDiff,if_false,e6]) (by simp only [upd_app,Nat.reduceEqDiff,reduceIte,if_false];rfl)
 ·have tC:=tChain (n:=n) (fork:=false) (by omega)
  have hS:Shp n (chainM n false):=mkM_shp _ _
  have hcl:AV.closed.closedL [.int .i64 (n:Nat),.bool false]=true:=rfl
  have effC:applyE (effs (names [] (tP2 d kd l q c c2 0).length) 0 (bH n n (chainM n false))) (tP2 d kd l q c c2 0++List.replicate (bH n n (chainM n false)).length none)=tP2 d kd l q c c2 0++bO 2 n n (chainM n false):=by
   have:=effs_new (H:=tP2 d kd l q c c2 0) (names [] (tP2 d kd l q c c2 0).length) (fun i=>names_nil _ i) (bH n n (chainM n false)) []
   simp only [List.length_nil,List.nil_append] at this
   rw [this]
   exact congrArg (tP2 d kd l q c c2 0++ ·) (bH_ren (K:=2) (fun i=>names_nil 2 i))
  have hv:AV.ren (names [] (tP2 d kd l q c c2 0).length) (.sl 0 0 n 1 (some n))= .sl 2 0 n 1 (some n):=rfl
  have tB:=tBelow (c:=c) (k:=0) (m:=3) h hz (by omega)
  have ko:∀j,getB (tP2 d kd l q c c2 j++bO 2 n n (chainM n false)) 2=some (outO 2 n n n):=fun j=>by
   have:=bO_outer (P:=tP2 d kd l q c c2 j) (o:=2) (N:=n) (n:=n) (rows:=chainM n false) rfl
   rw [hS.len] at this;exact this
  have kl:=outO_len (o:=2) (N:=n) (n:=n) (i:=n) (Nat.le_refl _)
  have kg:=outO_get (o:=2) (N:=n) (n:=n) (i:=n) (k:=0) (by omega)
  have gr:=fun j=>bO_row (P:=tP2 d kd l q c c2 j) (o:=2) (N:=n) (n:=n) (rows:=chainM n false) rfl (i:=0) (by rw [hS.len];omega)
  have lr:=hS.row 0 (by omega)
  have gz:(i64z ((chainM n false).getD 0 [])).getD 0 .junk= .int .i64 2:=by
   rw [i64z_getD _ _ (by omega)]
   have:=chain_diag (fork:=false) (show 0<n by omega)
   unfold ent at this
   rw [this]
  have hbz:=byte_mod l 0 (show (1:Int)≤3 by decide)
  have w2:IntKind.i64.wrap (2+byteZ l 0%3)=2+byteZ l 0%3:=w64 (by omega) (by omega)
  have hs:=fun j=>bO_set (P:=tP2 d kd l q c c2 j) (o:=2) (N:=n) (n:=n) (rows:=chainM n false) rfl (i:=0) (((chainM n false).getD 0 []).set 0 (2+byteZ l 0%3))
  refine callA_new tC hcl ?_
  simp only [restA,SS,reduceIte,Nat.reduceEqDiff]
  rw [effC,hv]
  have z0:Int.toNat 0=0:=rfl
  simp only [r15_12,SS,forall_const,reduceIte,Nat.reduceAdd,Nat.reduceEqDiff,z0,ko,kl,kg,gr,lr,gz,i64z_len,e5]
  refine ⟨by omega,by omega,by omega,by omega,?_⟩
  refine callA_one0 (id:=1) tB rfl rfl ?_
  simp only [restA,applyE,keys,List.replicate_zero,List.append_nil,SS,reduceIte,Nat.reduceEqDiff,tP2_set,z0,gr,lr,i64z_len,w2,i64z_set]
  have hr:rawM l 4 n=(chainM n false).set 0 (((chainM n false).getD 0 []).set 0 (2+byteZ l 0%3)):=by
   unfold rawM
   rw [if_neg (by decide),if_pos rfl]
   unfold bumpM
   rw [chain_diag (by omega)]
   rfl
  have h3:=hs (nextK l 0)
  rw [←hr] at h3
  refine ⟨⟨by omega,by omega⟩,by omega,rfl,?_⟩
  refine Eq.mp (congrArg _ h3.symm) ?_
  exact hQ _ (by simp only [upd_app,Nat.reduceEqDiff,if_false,e5]) (by simp only [upd_app,Nat.reduceEqDiff,if_false,e6]) (by simp only [upd_app,Nat.reduceEqDiff,reduceIte,if_false])
 ·have tC:=tChain (n:=n) (fork:=true) (by omega)
  have hS:Shp n (chainM n true):=mkM_shp _ _
  have hcl:AV.closed.closedL [.int .i64 (n:Nat),.bool true]=true:=rfl
  have effC:applyE (effs (names [] (tP2 d kd l q c c2 0).length) 0 (bH n n (chainM n true))) (tP2 d kd l q c c2 0++List.replicate (bH n n (chainM n true)).length none)=tP2 d kd l q c c2 0++bO 2 n n (chainM n true):=by
   have:=effs_new (H:=tP2 d kd l q c c2 0) (names [] (tP2 d kd l q c c2 0).length) (fun i=>names_nil _ i) (bH n n (chainM n true)) []
   simp only [List.length_nil,List.nil_append] at this
   rw [this]
   exact congrArg (tP2 d kd l q c c2 0++ ·) (bH_ren (K:=2) (fun i=>names_nil 2 i))
  have hv:AV.ren (names [] (tP2 d kd l q c c2 0).length) (.sl 0 0 n 1 (some n))= .sl 2 0 n 1 (some n):=rfl
  have tB:=tBelow (c:=c) (k:=0) (m:=2) h hz (by omega)
  have ko:∀j,getB (tP2 d kd l q c c2 j++bO 2 n n (chainM n true)) 2=some (outO 2 n n n):=fun j=>by
   have:=bO_outer (P:=tP2 d kd l q c c2 j) (o:=2) (N:=n) (n:=n) (rows:=chainM n true) rfl
   rw [hS.len] at this;exact this
  have kl:=outO_len (o:=2) (N:=n) (n:=n) (i:=n) (Nat.le_refl _)
  have kg:=outO_get (o:=2) (N:=n) (n:=n) (i:=n) (k:=(n-1)) (by omega)
  have gr:=fun j=>bO_row (P:=tP2 d kd l q c c2 j) (o:=2) (N:=n) (n:=n) (rows:=chainM n true) rfl (i:=(n-1)) (by rw [hS.len];omega)
  have lr:=hS.row (n-1) (by omega)
  have gz:(i64z ((chainM n true).getD (n-1) [])).getD (n-1) .junk= .int .i64 2:=by
   rw [i64z_getD _ _ (by omega)]
   have:=chain_diag (fork:=true) (show (n-1)<n by omega)
   unfold ent at this
   rw [this]
  have hbz:=byte_mod l 0 (show (1:Int)≤2 by decide)
  have w2:IntKind.i64.wrap (2+byteZ l 0%2)=2+byteZ l 0%2:=w64 (by omega) (by omega)
  have hs:=fun j=>bO_set (P:=tP2 d kd l q c c2 j) (o:=2) (N:=n) (n:=n) (rows:=chainM n true) rfl (i:=(n-1)) (((chainM n true).getD (n-1) []).set (n-1) (2+byteZ l 0%2))
  refine callA_new tC hcl ?_
  simp only [restA,SS,reduceIte,Nat.reduceEqDiff]
  rw [effC,hv]
  have w1:IntKind.i64.wrap ((n:Int)-1)=((n-1:Nat):Int):=by rw [show (n:Int)-1=((n-1:Nat):Int) by omega];exact w64 (by omega) (by omega)
  simp only [r15_15,SS,forall_const,reduceIte,Nat.reduceEqDiff,w1,Int.toNat_natCast,ko,kl,kg,gr,lr,gz,i64z_len,e5,e6]
  refine ⟨⟨by omega,by omega⟩,by omega,⟨by omega,by omega⟩,by omega,?_⟩
  refine callA_one0 (id:=1) tB rfl rfl ?_
  simp only [restA,applyE,keys,List.replicate_zero,List.append_nil,SS,reduceIte,Nat.reduceEqDiff,tP2_set,Int.toNat_natCast,gr,lr,i64z_len,w2,i64z_set]
  have hr:rawM l 5 n=(chainM n true).set (n-1) (((chainM n true).getD (n-1) []).set (n-1) (2+byteZ l 0%2)):=by
   unfold rawM
   rw [if_neg (by decide),if_neg (by decide),if_pos rfl]
   unfold bumpM
   rw [chain_diag (by omega)]
   rfl
  have h3:=hs (nextK l 0)
  rw [←hr] at h3
  refine ⟨⟨by omega,by omega⟩,by omega,?_,?_⟩
  ·have hne:2+(n-1)≠0:=by omega
   generalize 2+(n-1)=s at hne
   simp [dynB,disjL]
   exact hne
  refine Eq.mp (congrArg _ h3.symm) ?_
  exact hQ _ (by simp only [upd_app,Nat.reduceEqDiff,if_false,e5]) (by simp only [upd_app,Nat.reduceEqDiff,if_false,e6]) (by simp only [upd_app,Nat.reduceEqDiff,reduceIte,if_false])
 ·refine callA_one (id:=1) (cs:=tapeC l c 0) (cs':=tapeC l c (tapeK l 0 n)) (L:=bO 1 n n (diaM l 0 n 9)) tD9 rfl rfl rfl (tape_closed ..) (tape_closed ..) ?_
  simp only [restA]
  rw [eff9]
  simp only [SS,reduceIte,Nat.reduceEqDiff]
  exact hQ _ (by simp only [upd_app,Nat.reduceEqDiff,if_false,e5]) (by simp only [upd_app,Nat.reduceEqDiff,if_false,e6]) (by simp only [upd_app,Nat.reduceEqDiff,reduceIte,if_false];rfl)
 ·refine callA_one (id:=1) (cs:=tapeC l c 0) (cs':=tapeC l c (tapeK l 0 n)) (L:=bO 1 n n (diaM l 0 n 1)) tD1 rfl rfl rfl (tape_closed ..) (tape_closed ..) ?_
  simp only [restA]
  rw [eff1]
  simp only [SS,reduceIte,Nat.reduceEqDiff]
  exact hQ _ (by simp only [upd_app,Nat.reduceEqDiff,if_false,e5]) (by simp only [upd_app,Nat.reduceEqDiff,if_false,e6]) (by simp only [upd_app,Nat.reduceEqDiff,reduceIte,if_false];rfl)
end Go.Proofs.YtenboapacjlmoaaGreatDoor
namespace Go.Proofs.YtenboapacjlmoaaGreatDoor
set_option linter.unusedSimpArgs false
set_option linter.unusedVariables false
open Go Go.AL Go.Proofs Go.Limb
set_option maxRecDepth 100000
theorem Ret_ofW {P:Program} {Γ:Glob} {f:FuncId} {fn:Func} {c:CC} {args:List AV} {H:Heap} {v:AV} {Hout:Heap} (hm:P.follows .mixedOrders=true) (hf:P.funcs[f]?=some fn) (hc:fn.body.bind (compC P Γ fn.ntmps)=some c) (rs:List ResultVar) (nt:Nat)
  (hrs:fn.results.toList=rs) (hnt:fn.ntmps=nt) (hn:args.length≤nt) (hlen:H.length≤Hout.length)
  (h:W P Γ H.length nt c (argsE args) H (fun x E' H'=>(x= .ret∨x= .normal)∧∃v',resA P rs E' H'=some v'∧Fin H.length v' H' v Hout)) (hne:f≠4095:=by decide):Ret P Γ f args H v Hout:=by
 subst hrs hnt
 cases hb:fn.body with
 | none=>rw [hb] at hc;simp at hc
 | some code=>
  rw [hb] at hc
  exact Ret_intro hf hb hc hn hlen hne h
theorem tGram {d kd most:Int} {l q:List Int} {c c2:Option Nat} {n:Nat} (h:Tape8 l) (hd:0≤d∧d<256) (hk:0≤kd∧kd<256) (hm:1≤most∧most≤8) (hn:(n:Int)=1+d%most):
  Ret Tryz.prog G 15 [.agg (latC d kd l q c c2),.int .i64 most] [] (.vec (rowsV n (gramM l (kd%8).toNat n)) n (some n)) []:=by
 have hz:(0:Nat)≤l.length:=Nat.zero_le _
 have hmod:=Int.emod_lt_of_pos d (show 0<most by omega)
 have hmod0:=Int.emod_nonneg d (show most≠0 by omega)
 have hn8:1≤n∧n≤8:=by omega
 have g0:getB [some (latC d kd l q c c2)] 0=some (latC d kd l q c c2):=rfl
 refine Ret_ofW mixed Tryz.func15 comp15 _ 74 res15 nt15 (by simp) (by simp) ?_
 unfold c15
 refine W_seq (wpC_sound mixed ?_)
 simp only [r15_0,SS]
 refine W_seq (wpC_sound mixed ?_)
 simp only [r15_1,SS,forall_const,reduceIte,Nat.reduceAdd,Nat.reduceEqDiff,Nat.reduceLeDiff]
 refine ⟨by show 3≤4;omega,⟨rfl,rfl⟩,?_⟩
 have eH:([some (latC d kd l q c c2),some (setL [AV.vec [] 0 (some 0),AV.int IntKind.i64 0] 0 ((latC d kd l q c c2).getD 2 AV.junk).cells)]:Heap)=tP2 d kd l q c c2 0:=rfl
 rw [eH]
 have g1:getB (tP2 d kd l q c c2 0) 0=some (latC d kd l q c c2):=rfl
 have gd:(latC d kd l q c c2).getD 0 .junk= .int .u8 d:=rfl
 have gl:(latC d kd l q c c2).length=4:=rfl
 have wd:IntKind.i64.wrap d=d:=w64 (by omega) (by omega)
 have et:Int.tmod d most=d%most:=Int.tmod_eq_emod_of_nonneg hd.1
 have wm:IntKind.i64.wrap (d%most)=d%most:=w64 (by omega) (by omega)
 have wn:IntKind.i64.wrap (1+d%most)=(n:Int):=by rw [←hn];exact w64 (by omega) (by omega)
 refine W_seq (wpC_sound mixed ?_)
 simp only [r15_2,SS,forall_const,reduceIte,Nat.reduceEqDiff,Nat.reduceLeDiff,g1,gd,gl,wd,et,wn]
 refine ⟨by omega,?_⟩
 refine W_seq (wpC_sound mixed ?_)
 simp only [r15_3,SS]
 refine W_seq (tGram_pick h hk hn8 (by simp only [upd_app,argsE_app,List.getD_cons_succ,Nat.reduceEqDiff,reduceIte,if_false]) (by simp only [upd_app,argsE_app,List.getD_cons_succ,Nat.reduceEqDiff,reduceIte,if_false]) (by simp only [upd_app,argsE_app,List.getD_cons_succ,Nat.reduceEqDiff,reduceIte,if_false]) fun E1 f5 f6 f7=>?_)
 simp only [SS]
 refine tGram_end h rawK_le hn8 (raw_small hn8.1) f5 f6 f7 fun E2 H2 e4 eH2=>?_
 refine ⟨.inl rfl,_,rfl,?_⟩
 rw [e4,eH2]
 unfold gramM
 by_cases hg:goodD n (rawM l (kd%8).toNat n)
 ·rw [if_pos hg,if_pos hg,if_pos hg]
  exact .freeze 1 _ _ _ rfl (by intro i cs h;omega)
 ·rw [if_neg hg,if_neg hg,if_neg hg]
  have hS:=dia_shp l (rawK l (kd%8).toNat n) n 2
  have:=bO_frz (P:=tP2 d kd l q c c2 (tapeK l (rawK l (kd%8).toNat n) n)) (o:=2) rfl hS.len hS.row
  exact .freeze 3 _ _ _ this (by intro i cs h;omega)
end Go.Proofs.YtenboapacjlmoaaGreatDoor
namespace Go.Proofs.YtenboapacjlmoaaGreatDoor
set_option linter.unusedSimpArgs false
set_option linter.unusedVariables false
open Go Go.AL Go.Proofs Go.Limb Go.Det
set_option maxRecDepth 100000
theorem tForm {d kd most:Int} {l q:List Int} {c c2:Option Nat} {n:Nat} (h:Tape8 l) (hd:0≤d∧d<256) (hk:0≤kd∧kd<256) (hm:1≤most∧most≤5) (hn:(n:Int)=1+d%most):
  ∃M' T',Red n (rowF M')∧LState n (16^n) (8*16^n) (gramM l (kd%8).toNat n) M' T'∧Ret Tryz.prog G 5 [.agg (latC d kd l q c c2),.int .i64 most] [] (.vec (rowsV n M') n (some n)) []:=by
 have hmod:=Int.emod_lt_of_pos d (show 0<most by omega)
 have hmod0:=Int.emod_nonneg d (show most≠0 by omega)
 have hn8:1≤n∧n≤8:=by omega
 have tG:=tGram (c:=c) (c2:=c2) (q:=q) h hd hk (by omega:1≤most∧most≤8) hn
 obtain ⟨hG,hg⟩:=gram_ok (l:=l) (kind:=(kd%8).toNat) hn8.1 hn8.2
 generalize gramM l (kd%8).toNat n=M0 at*
 have hS:=hG.shp
 have hIn:∀s t,In64 (ent M0 s t):=by
  intro s t
  have:=hG.bnd s t
  unfold In64;omega
 have hIm:ImV M0 (.vec (rowsV n M0) n (some n)):=imV_rows hS.len hS.row hIn
 have tO:=mOf (n:=n) hIm (by omega) (by rw [hS.len];omega) (fun i hi=>hS.row i (by rw [hS.len] at hi;exact hi))
 have hsq:=sq_mk hS hn8 (small_bnd hG) (Nat.lt_of_le_of_lt (fit16.all (k:=0) (Nat.zero_le _)).1 fit16.lt)
 obtain ⟨M',T',hred,hL,tR⟩:=rReduce hsq (by omega) hG hg
 refine ⟨M',T',hred,hL,?_⟩
 have c1:AV.closed.closedL [.agg (latC d kd l q c c2),.int .i64 most]=true:=by simp only [AV.closed.closedL,AV.closed,lat_closed,Bool.and_self]
 have c2':AV.closed.closedL [.vec (rowsV n M0) n (some n)]=true:=by simp only [AV.closed.closedL,hIm.closed,Bool.and_self]
 have c3:AV.closed.closedL [matC M0]=true:=by simp only [AV.closed.closedL,hsq.closed,Bool.and_self]
 have g0:getB [some (latC d kd l q c c2)] 0=some (latC d kd l q c c2):=rfl
 refine Ret_of mixed Tryz.func5 comp5 _ 18 res5 nt5 (by simp) (by simp) ?_
 simp only [c5,r5_0,r5_1,SS,reduceCtorEq,reduceIte,Nat.reduceEqDiff,g0]
 have et4:List.take 4 (latC d kd l q c c2)=latC d kd l q c c2:=rfl
 refine ⟨by show 4≤4;omega,?_⟩
 rw [et4]
 refine callA_pure tG ?_ c1 hIm.closed
 simp only [restA,SS,reduceIte,Nat.reduceEqDiff]
 refine callA_pure tO ?_ c2' hsq.closed
 simp only [restA,SS,reduceIte,Nat.reduceEqDiff]
 refine callA_pure tR ?_ c3 (by simp only [AV.closed,AV.closed.closedL,Bool.and_self];rfl)
 simp only [restA,SS,reduceIte,Nat.reduceEqDiff,List.getElem?_cons_zero,List.getElem?_cons_succ,r5_2]
 exact ⟨.inl trivial,_,rfl,.freeze 1 _ _ _ rfl (by intro i cs h;omega)⟩
end Go.Proofs.YtenboapacjlmoaaGreatDoor
namespace Go.Proofs.YtenboapacjlmoaaGreatDoor
set_option linter.unusedSimpArgs false
set_option linter.unusedVariables false
open Go Go.AL Go.Proofs Go.Det
set_option maxRecDepth 100000
theorem rA_guardT {P:Program} {Γ:Glob} {n0:Nat} {E:Env} {H:Heap} {d:Option Nat} {g:Nat} {want:Bool} {k:CK} {os:List COp} {Q:List FP→Env→Heap→Prop} (h:E g= .bool want):regA P Γ n0 (⟨d,some (g,want),k⟩::os) E H Q=regA P Γ n0 (⟨d,none,k⟩::os) E H Q:=by
 rw [rA_guardf,h]
 simp only [boolA,bindP,upd_self h,true_implies]
 apply propext
 refine ⟨fun x=>x.1,fun x=>⟨x,fun e=>?_⟩⟩
 cases want<;>simp at e
theorem foldL_bound {M N B:Nat} (hM:0<M) {cb:List Nat} (hs:∀k,k≤N→Count.sumN (fun i=>cb.getD i 0) k≤B) {k:Nat} (hk:k≤N) (i:Nat):(foldL M cb k).getD i 0≤B:=by
 by_cases hi:i<M
 ·rw [foldL_get hM cb hi]
  refine Nat.le_trans ?_ (hs k hk)
  clear hk hs
  induction k with
  | zero=>exact Nat.le_refl _
  | succ k ih=>
   show Count.sumN (fun j=>if j%M=i then cb.getD j 0 else 0) k+(if k%M=i then cb.getD k 0 else 0)≤Count.sumN (fun i=>cb.getD i 0) k+cb.getD k 0
   split<;>omega
 ·have hl:=foldL_len M cb k
  rw [List.getD_eq_getElem?_getD,List.getElem?_eq_none (by omega)]
  exact Nat.zero_le _
theorem sumN_mono (f:Nat→Nat) {a b:Nat} (h:a≤b):Count.sumN f a≤Count.sumN f b:=by
 induction b with
 | zero=>rw [Nat.le_zero.1 h];exact Nat.le_refl _
 | succ b ih=>
  rcases Nat.lt_or_ge a (b+1) with h' | h'
  ·exact Nat.le_trans (ih (by omega)) (Nat.le_add_right _ _)
  ·rw [show a=b+1 by omega];exact Nat.le_refl _
theorem sumN_term (f:Nat→Nat) {i b:Nat} (h:i<b):f i≤Count.sumN f b:=
 Nat.le_trans (Nat.le_add_left _ _) (sumN_mono f (show i+1≤b from h))
set_option maxHeartbeats 2000000 in
theorem sumTail {n p e:Nat} {b:Int} {M:List (List Int)} {P P2:List AV} {E:Env} {Q:Post} (hS:Shp n M) (h:Red n (rowF M)) (hn3:n≤3) (hp:2≤p) (hp2:p≤5) (hpr:Ret Tryz.prog G 47 [.int .i64 (p:Int)] [] (.bool true) []) (hA:Ret Tryz.prog G 8 [] [] (.bool true) [])
  (hb:0≤b∧b<256) (he:(e:Int)=1+b%2)
  (e2:E 2= .int .u8 b) (e7:E 7= .vec (rowsV n M) n (some n)) (e8:E 8= .int .i64 (p:Int)) (hQ:∀E' H',E' 6= .bool true→Q .ret E' H'):
  W Tryz.prog G 0 123 (.seq (.reg r3_3 none) (.seq (.reg r3_4 none) (.seq (.reg r3_5 none) (.seq (.seq (.reg r3_6 none) (.cond (.t 68) (.seq (.reg r3_7 none) .ret) .skip)) (.seq (.reg r3_8 none) (.seq (.reg r3_9 none) (.seq (.seq (.reg r3_10 none) (.block 0 (.loop l3_0))) (.seq (.seq (.reg r3_15 none) (.block 2 (.loop l3_1))) (.seq (.reg r3_22 none) .ret))))))))) E [some P,some P2] Q:=by
 have n1:=h.n1
 have he12:e=1∨e=2:=by omega
 have hb1:(p^e)^n≤2097152∧(p^(e+1))^n≤2097152∧p^e≤1000∧p^(e+1)≤1000∧p^n≤1000∧p^(e*n)≤2097152:=by
  rcases he12 with rfl | rfl<;>rcases (by omega:p=2∨p=3∨p=4∨p=5) with rfl | rfl | rfl | rfl<;>rcases (by omega:n=1∨n=2∨n=3) with rfl | rfl | rfl<;>decide
 obtain ⟨b1,b2,b3,b4,b5,b6⟩:=hb1
 obtain ⟨ca,hla,hca,tA⟩:=sgCountsRed hS h hp (by omega) hpr (show 1≤e by omega) (by omega) b1
 obtain ⟨cb,hlb,hcb,tB⟩:=sgCountsRed hS h hp (by omega) hpr (show 1≤e+1 by omega) (by omega) b2
 have hpe:0<p^e:=Nat.pow_pos (by omega)
 have hpe1:0<p^(e+1):=Nat.pow_pos (by omega)
 have hta:=sum_total (show 0<p by omega) hca
 have htb:=sum_total (show 0<p by omega) hcb
 have htb2:Count.sumN (fun i=>cb.getD i 0) (p^(e+1))≤2097152:=by rw [htb,Nat.pow_mul];exact b2
 have hca2:∀i,i≤p^e→Count.sumN (fun j=>ca.getD j 0) i<2^50:=fun i hi=>Nat.lt_of_le_of_lt (Nat.le_trans (sumN_mono _ hi) (by rw [hta];exact b6)) (by decide)
 have hfb:∀k i,k≤p^(e+1)→(foldL (p^e) cb k).getD i 0<2^62:=fun k i hk=>Nat.lt_of_le_of_lt (foldL_bound hpe (fun k hk=>Nat.le_trans (sumN_mono _ hk) htb2) hk i) (by decide)
 have hbb:∀i,cb.getD i 0<2^62:=by
  intro i
  rcases Nat.lt_or_ge i (p^(e+1)) with hi | hi
  ·exact Nat.lt_of_le_of_lt (Nat.le_trans (sumN_term (fun i=>cb.getD i 0) hi) htb2) (by decide)
  ·rw [List.getD_eq_getElem?_getD,List.getElem?_eq_none (by omega)];decide
 have hfold:∀t,t<p^e→(foldL (p^e) cb (p^(e+1))).getD t 0=p^n*ca.getD t 0:=fun t ht=>by
  rw [foldL_get hpe cb ht];exact sum_coarse (by omega) hca hcb ht
 have tp1:Ret Tryz.prog G 7 [.int .i64 (p:Int),.int .i64 (e:Int),.int .i64 1000] [] (.int .i64 ((p^e:Nat):Int)) []:=laPower (cap:=1000) (by omega) b3 (by decide) (by omega) (by omega)
 have tp2:Ret Tryz.prog G 7 [.int .i64 (p:Int),.int .i64 ((e+1:Nat):Int),.int .i64 1000] [] (.int .i64 ((p^(e+1):Nat):Int)) []:=laPower (cap:=1000) (by omega) b4 (by decide) (by omega) (by omega)
 have hen:e*n<2^40:=Nat.lt_of_le_of_lt (Nat.mul_le_mul (show e≤2 by omega) hn3) (by decide)
 have tp3:Ret Tryz.prog G 7 [.int .i64 (p:Int),.int .i64 ((e*n:Nat):Int),.int .i64 2097152] [] (.int .i64 ((p^(e*n):Nat):Int)) []:=laPower (cap:=2097152) (by omega) b6 (by decide) (by omega) hen
 have hcl:AV.closed (.vec (rowsV n M) n (some n))=true:=by simp only [AV.closed]
 have cA:∀x:Int,AV.closed.closedL [.vec (rowsV n M) n (some n),.int .i64 (p:Int),.int .i64 x]=true:=fun x=>by simp only [AV.closed.closedL,hcl];rfl
 have cV:∀(l:List Nat) (m:Nat),AV.closed (.tup [.vec (ints l) m (some m),.int .i64 0])=true:=fun l m=>by simp only [AV.closed,AV.closed.closedL,Bool.and_self]
 have hrep:∀k:Nat,List.replicate k (AV.int IntKind.i64 0)=ints (List.replicate k 0):=by intro k;simp [ints]
 have wb:IntKind.i64.wrap b=b:=w64 (by omega) (by omega)
 have eb:Int.tmod b 2=b%2:=Int.tmod_eq_emod_of_nonneg hb.1
 have we:IntKind.i64.wrap (1+b%2)=(e:Int):=by rw [←he];exact w64 (by omega) (by omega)
 have we1:IntKind.i64.wrap ((e:Int)+1)=((e+1:Nat):Int):=by rw [show (e:Int)+1=((e+1:Nat):Int) by omega];exact wrapN (by omega)
 have wen:IntKind.i64.wrap ((e:Int)*(n:Int))=((e*n:Nat):Int):=by rw [show (e:Int)*(n:Int)=((e*n:Nat):Int) from (Int.natCast_mul _ _).symm];exact wrapN (by omega)
 refine W_seq (wpC_sound mixed ?_)
 simp only [r3_3,SS,reduceIte,Nat.reduceEqDiff,e2,wb,eb,we]
 refine ⟨by decide,?_⟩
 refine W_seq (wpC_sound mixed ?_)
 simp only [r3_4,SS,reduceIte,Nat.reduceEqDiff,e7,e8]
 refine callA_pure tA ?_ (cA _) (cV _ _)
 simp only [SS,reduceIte,Nat.reduceEqDiff,List.getElem?_cons_zero,List.getElem?_cons_succ]
 refine W_seq (wpC_sound mixed ?_)
 simp only [r3_5,SS,reduceIte,Nat.reduceEqDiff,e7,e8,we1]
 refine callA_pure tB ?_ (cA _) (cV _ _)
 simp only [SS,reduceIte,Nat.reduceEqDiff,List.getElem?_cons_zero,List.getElem?_cons_succ]
 refine W_seq (wpC_sound mixed ?_)
 simp only [r3_6,↓rA_guardT,SS,reduceIte,Nat.reduceEqDiff,e8,ne_eq,not_true_eq_false,decide_false]
 refine callA_pure tp1 ?_
 simp only [↓rA_guardT,SS,reduceIte,Nat.reduceEqDiff,e8,ne_eq,not_true_eq_false,decide_false,we1]
 refine callA_pure tp2 ?_
 simp only [↓rA_guardT,SS,forall_const,reduceIte,Nat.reduceEqDiff,ne_eq,not_true_eq_false,decide_false]
 refine W_seq (wpC_sound mixed ?_)
 simp only [r3_8,SS]
 refine W_seq (wpC_sound mixed ?_)
 simp only [r3_9,SS,reduceIte,Nat.reduceAdd,Nat.reduceEqDiff,Int.toNat_natCast,hrep]
 refine ⟨by decide,⟨by omega,by omega,by omega,by omega⟩,?_⟩
 refine W_seq (W_seq (wpC_sound mixed ?_))
 simp only [r3_10,SS,reduceIte,Nat.reduceEqDiff]
 refine W_block (sumFold (N:=p^(e+1)) (M:=p^e) (ca:=ca) (cb:=cb) (k1:=some (p^e)) (k2:=some (p^(e+1))) hpe (by omega) hla hlb (by omega) hfb hbb (v7:= .vec (rowsV n M) n (some n)) (v8:= .int .i64 (p:Int)) (v9:= .int .i64 (e:Int)) (v14:= .int .i64 0) rfl (by simp only [upd_app,Nat.reduceEqDiff,if_false,e7]) (by simp only [upd_app,Nat.reduceEqDiff,if_false,e8]) (by simp only [upd_app,Nat.reduceEqDiff,reduceIte,if_false]) (by simp only [upd_app,Nat.reduceEqDiff,reduceIte,if_false]) (by simp only [upd_app,Nat.reduceEqDiff,reduceIte,if_false]) (by simp only [upd_app,Nat.reduceEqDiff,reduceIte,if_false]) (by simp only [upd_app,Nat.reduceEqDiff,reduceIte,if_false]) (by simp only [upd_app,Nat.reduceEqDiff,reduceIte,if_false]) (by simp only [upd_app,Nat.reduceEqDiff,reduceIte,if_false]) ?_)
 intro E1 f3 f7 f8 f9 f14 f10 f15
 simp only [SS,reduceIte]
 refine W_seq (W_seq (wpC_sound mixed ?_))
 simp only [r3_15,SS,reduceIte,f10]
 refine W_block (sumCheck (M:=p^e) (p:=p) (n:=n) (ca:=ca) (k1:=some (p^e)) (rows:=rowsV n M) (cf:=foldL (p^e) cb (p^(e+1))) (by omega) hla (foldL_len _ _ _) (by omega) (by omega) b5 (by omega) hfold hca2 (v9:= .int .i64 (e:Int)) (by simp only [upd_app,Nat.reduceEqDiff,if_false,f7]) (by simp only [upd_app,Nat.reduceEqDiff,if_false,f8]) (by simp only [upd_app,Nat.reduceEqDiff,if_false,f9]) (by simp only [upd_app,Nat.reduceEqDiff,if_false,f14]) (by simp only [upd_app,Nat.reduceEqDiff,if_false,f15]) (by simp only [upd_app,Nat.reduceEqDiff,reduceIte,if_false]) (by simp only [upd_app,Nat.reduceEqDiff,reduceIte,if_false]) (by simp only [upd_app,Nat.reduceEqDiff,reduceIte,if_false]) ?_)
 intro E2 g7 g8 g9 g14
 simp only [SS,reduceIte]
 refine wpC_sound mixed ?_
 simp only [r3_22,SS,reduceIte,Nat.reduceEqDiff,g7,g8,g9,g14,wen]
 refine callA_pure tp3 ?_
 simp only [SS,forall_const,reduceIte,Nat.reduceEqDiff,hta,decide_true]
 refine callA_pure hA ?_
 simp only [SS,reduceIte,Nat.reduceEqDiff]
 exact hQ _ _ rfl
end Go.Proofs.YtenboapacjlmoaaGreatDoor
namespace Go.Proofs.YtenboapacjlmoaaGreatDoor
set_option linter.unusedSimpArgs false
set_option linter.unusedVariables false
open Go Go.AL Go.Proofs Go.Det
set_option maxRecDepth 100000
set_option maxHeartbeats 1000000 in
theorem sumRet {a b d kd:Int} {l q:List Int} {c c2:Option Nat} (hT:Tape8 l) (hd:0≤d∧d<256) (hk:0≤kd∧kd<256) (ha:0≤a∧a<256) (hb:0≤b∧b<256)
  (h2:Ret Tryz.prog G 47 [.int .i64 2] [] (.bool true) []) (h3:Ret Tryz.prog G 47 [.int .i64 3] [] (.bool true) []) (h5:Ret Tryz.prog G 47 [.int .i64 5] [] (.bool true) []) (hA:Ret Tryz.prog G 8 [] [] (.bool true) []):
  Ret Tryz.prog G 3 [.agg (latC d kd l q c c2),.int .u8 a,.int .u8 b] [] (.bool true) []:=by
 obtain ⟨n,hn⟩:∃n:Nat,(n:Int)=1+d%3:=⟨(1+d%3).toNat,by omega⟩
 obtain ⟨e,he⟩:∃e:Nat,(e:Int)=1+b%2:=⟨(1+b%2).toNat,by omega⟩
 obtain ⟨M',T',hred,hL,tF⟩:=tForm (c:=c) (c2:=c2) (q:=q) (most:=3) hT hd hk (by omega) hn
 have hS:Shp n M':=hL.shM
 have cF:AV.closed.closedL [.agg (latC d kd l q c c2),.int .i64 3]=true:=by simp only [AV.closed.closedL,AV.closed,lat_closed,Bool.and_self]
 have hcl:AV.closed (.vec (rowsV n M') n (some n))=true:=by simp only [AV.closed]
 have g0:getB [some (latC d kd l q c c2)] 0=some (latC d kd l q c c2):=rfl
 have et4:List.take 4 (latC d kd l q c c2)=latC d kd l q c c2:=rfl
 have e3:Int.tmod a 3=a%3:=Int.tmod_eq_emod_of_nonneg ha.1
 have w3:IntKind.u8.wrap (a%3)=a%3:=by
  have:=Int.emod_nonneg a (show (3:Int)≠0 by decide)
  have:=Int.emod_lt_of_pos a (show (0:Int)<3 by decide)
  simp [IntKind.wrap,IntKind.bits,IntKind.signed];omega
 refine Ret_ofW mixed Tryz.func3 comp3 _ 123 res3 nt3 (by simp) (by simp) ?_
 unfold c3
 refine W_seq (wpC_sound mixed ?_)
 simp only [r3_0,SS]
 refine W_seq (wpC_sound mixed ?_)
 simp only [r3_1,SS,reduceIte,Nat.reduceEqDiff,g0]
 refine ⟨by show 4≤4;omega,?_⟩
 rw [et4]
 refine callA_pure tF ?_ cF hcl
 simp only [SS,reduceIte,Nat.reduceEqDiff]
 refine W_seq (wpC_sound mixed ?_)
 simp only [r3_2,SS,forall_const,reduceIte,Nat.reduceAdd,Nat.reduceEqDiff,Nat.reduceLeDiff,e3]
 have hQ:∀(E':Env) (H':Heap),E' 6= .bool true→(fun (x:Exit) (E':Env) (H':Heap)=>(x=Exit.ret∨x=Exit.normal)∧∃v',resA Tryz.prog [ResultVar.tmp 6] E' H'=some v'∧AL.Fin 0 v' H' (AV.bool true) []) Exit.ret E' H':=fun E' H' e6=>
  ⟨.inl rfl,.bool true,by simp only [resA,List.mapM_cons,List.mapM_nil,resOne,e6];rfl,.freeze 1 _ _ _ rfl (by intro i cs h;omega)⟩
 have fin:∀(Q:Post) (p:Nat) (E:Env),(∀E' H',E' 6= .bool true→Q .ret E' H')→2≤p→p≤5→Ret Tryz.prog G 47 [.int .i64 (p:Int)] [] (.bool true) []→E 2= .int .u8 b→E 7= .vec (rowsV n M') n (some n)→E 8= .int .i64 (p:Int)→_:=fun Q p E hQ p1 p2 hp e2 e7 e8=>
  sumTail (P:=latC d kd l q c c2) (P2:=[AV.int IntKind.i64 2,AV.int IntKind.i64 3,AV.int IntKind.i64 5]) (E:=E) (Q:=Q) hS hred (by omega) p1 p2 hp hA hb he e2 e7 e8 hQ
 refine ⟨by decide,⟨by omega,by omega⟩,by omega,?_⟩
 rcases (by omega:a%3=0∨a%3=1∨a%3=2) with e | e | e<;>rw [e]
 ·exact fin _ 2 _ hQ (by decide) (by decide) h2 (by simp only [upd_app,argsE_app,List.getD_cons_zero,List.getD_cons_succ,Nat.reduceEqDiff,if_false]) (by simp only [upd_app,argsE_app,List.getD_cons_succ,Nat.reduceEqDiff,reduceIte,if_false]) (by simp only [upd_app,argsE_app,List.getD_cons_succ,Nat.reduceEqDiff,reduceIte,if_false];rfl)
 ·exact fin _ 3 _ hQ (by decide) (by decide) h3 (by simp only [upd_app,argsE_app,List.getD_cons_zero,List.getD_cons_succ,Nat.reduceEqDiff,if_false]) (by simp only [upd_app,argsE_app,List.getD_cons_succ,Nat.reduceEqDiff,reduceIte,if_false]) (by simp only [upd_app,argsE_app,List.getD_cons_succ,Nat.reduceEqDiff,reduceIte,if_false];rfl)
 ·exact fin _ 5 _ hQ (by decide) (by decide) h5 (by simp only [upd_app,argsE_app,List.getD_cons_zero,List.getD_cons_succ,Nat.reduceEqDiff,if_false]) (by simp only [upd_app,argsE_app,List.getD_cons_succ,Nat.reduceEqDiff,reduceIte,if_false]) (by simp only [upd_app,argsE_app,List.getD_cons_succ,Nat.reduceEqDiff,reduceIte,if_false];rfl)
end Go.Proofs.YtenboapacjlmoaaGreatDoor
