/- A part of the proof. -/
import Derived.Test.YtenboapacjlmoaaGreatDoorPA
import Derived.Test.YtenboapacjlmoaaGreatDoorAL1
import Derived.Test.YtenboapacjlmoaaGreatDoorAL60
namespace Go.Proofs.YtenboapacjlmoaaGreatDoor
open Nat renaming reduceEqDiff → qQ, reduceLeDiff → qX, reduceAdd → qZ, le_refl → qL, add_sub_cancel_left → qN, lt_of_lt_of_le → xQ, mod_eq_of_lt → xJ, lt_or_ge → xU, add_zero → xE, sub_self → xG, one_ne_zero → xP, one_mul → xS, mod_lt → yX, lt_of_le_of_lt → yK, zero_add → yV, zero_le → yC
open List renaming getD_eq_getElem?_getD → qJ, getD_cons_succ → qK, getElem?_eq_getElem → qV, getD_cons_zero → qY, getElem?_append_right → qU, take_of_length_le → qB, set_append_right → qC, nodup_cons → qD, getElem?_append_left → qH, getElem?_cons_zero → qR, getElem?_cons_succ → qS, getElem?_map → xX, mem_cons → xK, length_set → xV, getElem?_set_self → xA, replicate_zero → xC, replicate_succ → xD, getElem?_replicate → xL, length_take → xM, append_nil → xO, drop_zero → xR, mapM_cons → xT, getElem?_set_ne → yQ, length_append → yZ, append_assoc → yW, set_set → yY, take_add_one → yU, take_length → yA, getElem_mem → yB
open Int renaming toNat_natCast → qW, lt_trichotomy → qG, natCast_add → qO, sign_eq_neg_one_of_neg → xZ, sign_eq_one_of_pos → xY, sub_eq_add_neg → yJ, mul_one → yD, mul_neg → yE
open Go.AL.AV.closed renaming closedL → qA
open Option renaming bind_some → xB
open Bool renaming false_eq_true → qT
set_option linter.unusedSimpArgs false
set_option linter.unusedVariables false
open Go Go.AL Go.Proofs Go.Limb
set_option maxRecDepth 100000
theorem wu32 (x:Nat):IntKind.u32.wrap (x:Int)=((x%4294967296:Nat):Int):=by
 simp [IntKind.wrap,IntKind.bits,IntKind.signed]
theorem wu64 (x:Nat):IntKind.u64.wrap (x:Int)=((x%18446744073709551616:Nat):Int):=by
 simp [IntKind.wrap,IntKind.bits,IntKind.signed]
theorem wu64' {x:Nat} (h:x<18446744073709551616):IntKind.u64.wrap (x:Int)=(x:Int):=by
 rw [wu64,xJ h]
theorem wu32' {x:Nat} (h:x<4294967296):IntKind.u32.wrap (x:Int)=(x:Int):=by
 rw [wu32,xJ h]
theorem shr32 (x:Nat):Int.fdiv (x:Int) (2^min (Int.toNat 32) IntKind.u64.bits)=((x/4294967296:Nat):Int):=by
 show Int.fdiv (x:Int) 4294967296=_
 rw [Int.fdiv_eq_ediv_of_nonneg _ (by decide)]
 omega
theorem zWord (s:Bool) (u:Nat) (hu:u<18446744073709551616):∃v,IsInt (sgnZ s u) v∧Ret Tryz.prog G 66 [.bool s,.int .u64 u] [] v []:=by
 have hd:Dig [u%4294967296,u/4294967296]:=Dig.cons (yX _ (by decide)) (Dig.cons (by omega) Dig.nil)
 have e:val [u%4294967296,u/4294967296]=u:=by simp only [Limb.val];omega
 obtain ⟨v,hv,hr⟩:=zMake s [u%4294967296,u/4294967296] (some 2) hd (by simp) (by rw [e];exact small_fits (by omega))
 rw [e] at hv
 obtain ⟨l',c',_,_,_,rfl⟩:=hv
 refine ⟨_,⟨l',c',by assumption,by assumption,by assumption,rfl⟩,?_⟩
 refine Ret_of mixed Tryz.func66 comp66 _ 13 res66 nt66 (by simp) (by simp) ?_
 simp only [c66,r66_0,r66_1,SS,reduceCtorEq,reduceIte,qZ,qQ,qX,shr32,wu32,wu32' (show u/4294967296<4294967296 by omega)]
 refine ⟨by omega,?_⟩
 refine callA_frz (id:=1) (cs:=u32s [u%4294967296,u/4294967296]) (d:=2) (args0:=[.bool s,.sl 0 0 2 1 (some 2)]) hr ?_ ?_ ?_ ?_
 ·rfl
 ·rfl
 ·rfl
 simp only [restA,applyE,xC,xO,SS,reduceIte,qZ,qQ,qX]
 exact ⟨.inl trivial,_,rfl,.drop _ _ rfl (by intro i cs h;omega)⟩
theorem zSmall (n:Int) (h1: -9223372036854775808≤n) (h2:n<9223372036854775808):∃v,IsInt n v∧Ret Tryz.prog G 27 [.int .i64 n] [] v []:=by
 by_cases hn:n<0
 ·obtain ⟨k,hk⟩:∃k:Nat,n= -(k:Int):=⟨n.natAbs,by omega⟩
  subst hk
  obtain ⟨v,hv,hr⟩:=zWord true k (by omega)
  have e:sgnZ true k= -(k:Int):=rfl
  rw [e] at hv
  obtain ⟨l',c',_,_,_,rfl⟩:=hv
  refine ⟨_,⟨l',c',by assumption,by assumption,by assumption,rfl⟩,?_⟩
  have w1:IntKind.u64.wrap (-(k:Int))=((18446744073709551616-k:Nat):Int):=by
   simp [IntKind.wrap,IntKind.bits,IntKind.signed];omega
  have w2:IntKind.u64.wrap (0-((18446744073709551616-k:Nat):Int))=(k:Nat):=by
   simp [IntKind.wrap,IntKind.bits,IntKind.signed];omega
  refine Ret_of mixed Tryz.func27 comp27 _ 12 res27 nt27 (by simp) (by simp) ?_
  simp only [c27,r27_0,r27_1,SS,reduceCtorEq,reduceIte,qQ]
  refine ⟨fun _=>?_,fun h=>absurd hn h⟩
  simp only [r27_2,SS,reduceCtorEq,reduceIte,qQ,w1,w2]
  refine callA_pure hr ?_
  simp only [SS,reduceIte,qZ,qQ,qX]
  exact ⟨.inl trivial,_,rfl,.drop _ _ rfl (by intro i cs h;omega)⟩
 ·obtain ⟨k,rfl⟩:∃k:Nat,n=(k:Int):=⟨n.toNat,by omega⟩
  obtain ⟨v,hv,hr⟩:=zWord false k (by omega)
  have e:sgnZ false k=(k:Int):=rfl
  rw [e] at hv
  obtain ⟨l',c',_,_,_,rfl⟩:=hv
  refine ⟨_,⟨l',c',by assumption,by assumption,by assumption,rfl⟩,?_⟩
  refine Ret_of mixed Tryz.func27 comp27 _ 12 res27 nt27 (by simp) (by simp) ?_
  simp only [c27,r27_0,r27_1,SS,reduceCtorEq,reduceIte,qQ]
  refine ⟨fun h=>absurd h hn,fun _=>?_⟩
  simp only [r27_3,SS,reduceCtorEq,reduceIte,qQ,wu64' (show k<18446744073709551616 by omega)]
  refine callA_pure hr ?_
  simp only [SS,reduceIte,qZ,qQ,qX]
  exact ⟨.inl trivial,_,rfl,.drop _ _ rfl (by intro i cs h;omega)⟩
theorem zcmp (m n:List Nat) (c d:Option Nat) (hm:m.length<16777216) (hn:n.length<16777216):Ret Tryz.prog G 121 [.vec (u32s m) m.length c,.vec (u32s n) n.length d] [] (.int .i64 (cmpL m n)) []:=by
 refine Ret_of mixed Tryz.func121 comp121 _ 41 res121 nt121 (by simp) (by simp) ?_
 simp only [c121,r121_0,r121_1,SS,reduceCtorEq,reduceIte,qQ,ne_eq,Int.ofNat_inj]
 refine ⟨fun h=>?_,fun h=>?_⟩
 ·simp only [r121_2,SS,reduceCtorEq,reduceIte,qQ]
  refine ⟨fun h2=>?_,fun h2=>?_⟩
  ·have e:cmpL m n= -1:=by unfold cmpL;rw [if_neg h,if_pos (by omega)]
   rw [e]
   simp only [r121_3,SS]
   exact ⟨.inl trivial,_,rfl,.drop _ _ rfl (by intro i cs h;omega)⟩
  ·have e:cmpL m n=1:=by unfold cmpL;rw [if_neg h,if_neg (by omega)]
   rw [e]
   simp only [r121_4,SS]
   exact ⟨.inl trivial,_,rfl,.drop _ _ rfl (by intro i cs h;omega)⟩
 ·have h:m.length=n.length:=by simpa using h
  have e:cmpL m n=cmpN m n m.length:=by unfold cmpL;rw [if_pos h]
  rw [e]
  simp only [r121_5,SS,reduceCtorEq,reduceIte,qQ]
  refine W_loop (fun k E H=>k≤m.length∧cmpN m n k=cmpN m n m.length∧E 0= .vec (u32s m) m.length c∧E 1= .vec (u32s n) n.length d∧E 5= .int .i64 ((k:Int)-1)∧H=[]) (n:=m.length) ⟨by omega,rfl,?_,?_,?_,rfl⟩ ?_
  ·simp only [upd_app,argsE_app,qY,qQ,if_false]
  ·simp only [upd_app,argsE_app,qY,qK,qQ,if_false]
  ·simp only [upd_app,argsE_app,qK,qQ,reduceIte,if_false]
   rw [w64 (by omega) (by omega)]
  rintro k E H ⟨hk,ht,h0,h1,h5,rfl⟩
  refine wpC_sound mixed ?_
  simp only [l121_0,r121_6,SS,reduceCtorEq,reduceIte,qQ,h5]
  refine ⟨fun hge=>?_,fun hlt=>?_⟩
  ·obtain ⟨k,rfl⟩:∃j,k=j+1:=⟨k-1,by omega⟩
   have e5:((k+1:Nat):Int)-1=(k:Nat):=by omega
   rw [e5] at h5
   have g1:=u32s_getD m k (by omega) AV.junk
   have g2:=u32s_getD n k (by omega) AV.junk
   simp only [cmpN] at ht
   simp only [r121_7,SS,forall_const,reduceCtorEq,reduceIte,qQ,e5,h0,h1,h5,qW,g1,g2,u32s_len]
   refine ⟨⟨by omega,by omega⟩,by omega,⟨by omega,by omega⟩,by omega,rfl,fun hne=>?_,fun heq=>?_⟩
   ·have hne:m.getD k 0≠n.getD k 0:=by omega
    rw [if_neg hne] at ht
    simp only [r121_8,SS,forall_const,reduceCtorEq,reduceIte,qQ,h0,h1,h5,qW,g1,g2,u32s_len]
    refine ⟨⟨by omega,by omega⟩,by omega,⟨by omega,by omega⟩,by omega,rfl,fun hl=>?_,fun hl=>?_⟩
    ·rw [if_pos (by omega)] at ht
     rw [←ht]
     simp only [r121_9,SS]
     exact ⟨.inl trivial,_,rfl,.drop _ _ rfl (by intro i cs h;omega)⟩
    ·rw [if_neg (by omega)] at ht
     rw [←ht]
     simp only [r121_10,SS]
     exact ⟨.inl trivial,_,rfl,.drop _ _ rfl (by intro i cs h;omega)⟩
   ·have heq:m.getD k 0=n.getD k 0:=by omega
    rw [if_pos heq] at ht
    simp only [r121_11,SS,reduceIte,qQ,h5]
    refine ⟨k,_,_,by omega,⟨by omega,ht,?_,?_,?_,rfl⟩,.refl⟩
    ·simp only [upd_app,qQ,if_false, *]
    ·simp only [upd_app,qQ,if_false, *]
    ·simp only [upd_app,qQ,reduceIte,if_false]
     rw [w64 (by omega) (by omega)]
  ·have hk0:k=0:=by omega
   subst hk0
   rw [←ht]
   simp only [r121_12,SS]
   exact ⟨.inl trivial,_,rfl,.drop _ _ rfl (by intro i cs h;omega)⟩
theorem zCmp {x y:Int} {a b:AV} (ha:IsInt x a) (hb:IsInt y b):Ret Tryz.prog G 74 [a,b] [] (.int .i64 (if x<y then -1 else if x=y then 0 else 1)) []:=by
 have s1:=zSign ha
 have s2:=zSign hb
 obtain ⟨l,c,hc,hl,hv,rfl⟩:=ha
 obtain ⟨r,d,hd,hlr,hw,rfl⟩:=hb
 obtain ⟨c1,t1⟩:=zTrim l c (by omega)
 obtain ⟨c2,t2⟩:=zTrim r d (by omega)
 have l1:(trimL l).length≤l.length:=by rw [trimL_len];exact trimN_le _ _
 have l2:(trimL r).length≤r.length:=by rw [trimL_len];exact trimN_le _ _
 have t3:=zcmp (trimL l) (trimL r) c1 c2 (by omega) (by omega)
 rw [cmpL_spec (trimL_canon hc.1) (trimL_canon hd.1),val_trimL,val_trimL,hv,hw] at t3
 refine Ret_of mixed Tryz.func74 comp74 _ 26 res74 nt74 (by simp) (by simp) ?_
 simp only [c74,r74_0,r74_1,SS,reduceCtorEq,reduceIte,qZ,qQ,qX]
 refine callA_pure s1 ?_
 simp only [SS,reduceIte,qZ,qQ,qX]
 refine callA_pure s2 ?_
 simp only [SS,reduceIte,qQ]
 refine ⟨rfl,?_⟩
 simp only [r74_2,SS,reduceIte,qQ]
 refine ⟨fun hne=>?_,fun heq=>?_⟩
 ·simp only [r74_3,SS,reduceIte,qQ]
  refine ⟨fun hl=>?_,fun hl=>?_⟩
  ·rw [if_pos (by
    rcases qG x 0 with h | h | h<;>rcases qG y 0 with h' | h' | h'<;>
     simp [xZ,xY,h,h'] at hl<;>omega)]
   simp only [r74_4,SS]
   exact ⟨.inl trivial,_,rfl,.drop _ _ rfl (by intro i cs h;omega)⟩
  ·rw [if_neg (by
    rcases qG x 0 with h | h | h<;>rcases qG y 0 with h' | h' | h'<;>
     simp [xZ,xY,h,h'] at hl hne<;>omega),if_neg (by intro e;rw [e] at hne;exact hne rfl)]
   simp only [r74_5,SS]
   exact ⟨.inl trivial,_,rfl,.drop _ _ rfl (by intro i cs h;omega)⟩
 ·have heq:x.sign=y.sign:=by simpa using heq
  simp only [r74_6,SS,forall_const,reduceIte,qZ,qQ,qX]
  refine callA_pure t1 ?_
  simp only [SS,forall_const,reduceIte,qZ,qQ,qX]
  refine callA_pure t2 ?_
  simp only [SS,reduceIte,qQ]
  refine callA_pure t3 ?_
  have e:IntKind.i64.wrap (x.sign*sgn x.natAbs y.natAbs)=(if x<y then -1 else if x=y then 0 else 1):=by
   have e1:x.sign*sgn x.natAbs y.natAbs=(if x<y then -1 else if x=y then 0 else 1):=by
    unfold sgn
    rcases qG x 0 with h | h | h<;>rcases qG y 0 with h' | h' | h'<;>
     simp [xZ,xY,h,h'] at heq ⊢ <;> (repeat' split)<;>omega
   rw [e1]
   split
   ·rfl
   ·split<;>rfl
  simp only [SS,reduceIte,qQ,e]
  refine ⟨rfl,?_⟩
  exact ⟨.inl trivial,_,rfl,.drop _ _ rfl (by intro i cs h;omega)⟩
def OutAt (B:Heap) (sz n:Nat) (cs:List AV) (a:AV) (H:Heap):Prop:=
 (n=0∧cs=[]∧a= .vec [] 0 (some 0)∧∃j,H=B++List.replicate j none)∨
 (0<n∧cs.length=n*sz∧∃j,a= .sl (B.length+j) 0 n sz none∧H=B++(List.replicate j none++[some cs]))
theorem rep_snoc (j:Nat) (x:Option (List AV)) (r:Heap) (hx:x=none):List.replicate j (none:Option (List AV))++x::r=List.replicate (j+1) none++r:=by
 subst hx
 rw [List.replicate_succ',yW];rfl
theorem out_app {B:Heap} {sz n bytes:Nat} {cs xs:List AV} {a:AV} {H:Heap} (h:OutAt B sz n cs a H) (hx:xs.length=sz) (hs:AV.scalL xs=true) (hb:4*(n+1)*bytes≤281474976710656) (hn:n+1<4611686018427387904):
  ∃e rd H4 H5,(∀n0,appendA n0 (H.length+1) (H++[some xs]) sz bytes a (.sl H.length 0 1 sz (some 1))=some (.sl (H.length+1) 0 (n+1) sz none,e,rd))∧applyE e (H++[some xs]++[none])=H4∧getB H4 (H.length+1)=some (cs++xs)∧
   (∀(Γ:Glob) (n0:Nat) (E:Env),n0≤B.length→Weak Γ n0 E H4 E H5)∧OutAt B sz (n+1) (cs++xs) (.sl (H.length+1) 0 (n+1) sz none) H5:=by
 have hg:getB (H++[some xs]) H.length=some xs:=by
  simp [getB]
 have b1:4*(n+1)*bytes≤2^48:=hb
 have b2:n+1<2^62:=hn
 have hxs:(xs.drop 0).take (1*sz)=xs:=by rw [xR,xS,qB (by omega)]
 have hel:elems (H++[some xs]) sz 1 (.sl H.length 0 1 sz (some 1))=some (xs,[H.length]):=by
  simp only [elems,hg,need,qL,yV,xS,hx,and_self,if_true]
  rw [xR,qB (by omega)]
 rcases h with ⟨rfl,rfl,rfl,j,rfl⟩ | ⟨h0,hl,j,rfl,rfl⟩
 ·refine ⟨[((B++List.replicate j none).length+1,some xs)],[(B++List.replicate j none).length],_,B++(List.replicate (j+1) none++[some xs]),fun n0=>?_,rfl,?_,fun Γ n0 E hn0=>?_,?_⟩
  ·simp only [appendA,lenA,xB,hel]
   have b1':4*(0+1)*bytes≤2^48:=hb
   simp only [need,xP,if_false,Nat.zero_mul,yC,b1',b2,and_self,if_true,List.take_zero,List.nil_append]
  ·simp only [applyE]
   have:B++List.replicate j none++[some xs]++[none]=(B++List.replicate j none)++[some xs,none]:=by simp
   rw [this,qC _ _ (by omega),qN]
   unfold getB
   rw [qU (by omega),qN]
   rfl
  ·have e1:applyE [((B++List.replicate j none).length+1,some xs)] (B++List.replicate j none++[some xs]++[none])=(B++List.replicate j none)++[some xs,some xs]:=by
    simp only [applyE]
    have:B++List.replicate j none++[some xs]++[none]=(B++List.replicate j none)++[some xs,none]:=by simp
    rw [this,qC _ _ (by omega),qN]
    rfl
   rw [e1]
   have e2:B++(List.replicate (j+1) none++[some xs])=(B++List.replicate j none)++[none,some xs]:=by
    rw [←rep_snoc j none _ rfl];simp
   rw [e2]
   refine weak_kill (by simp) (fun i=>?_)
   rcases xU i (B++List.replicate j (none:Option (List AV))).length with hi | hi
   ·left
    rw [qH hi,qH hi]
   ·rw [qU hi,qU hi]
    have:n0≤i:=by simp at hi;omega
    generalize i-(B++List.replicate j (none:Option (List AV))).length=k
    match k with
    | 0=>exact .inr ⟨this,rfl⟩
    | k+1=>exact .inl rfl
  ·refine .inr ⟨by omega,by simp;omega,j+1,?_,rfl⟩
   simp [Nat.add_assoc]
 ·have hj:getB (B++(List.replicate j none++[some cs])++[some xs]) (B.length+j)=some cs:=by
   have:B++(List.replicate j none++[some cs])++[some xs]=(B++List.replicate j none)++(some cs::[some xs]):=by simp
   rw [this]
   simp [getB]
  have hlen:(B++(List.replicate j none++[some cs])).length=B.length+j+1:=by simp;omega
  refine ⟨[(B.length+j,none),(B.length+j+1+1,some (cs++xs))],[B.length+j,B.length+j+1],_,B++(List.replicate (j+2) none++[some (cs++xs)]),fun n0=>?_,rfl,?_,fun Γ n0 E hn0=>?_,?_⟩
  ·simp only [appendA,lenA,xB,hel,hj]
   have e1:¬((none:Option Nat)=some n):=by simp
   have e2:B.length+j≠B.length+j+1+1:=by omega
   rw [hlen]
   simp only [need,xP,if_false,hl,qL,b1,b2,and_self,if_true,e1,yC,hs,e2,ne_eq,not_false_eq_true]
   rw [qB (by omega)]
  ·simp only [applyE]
   have:B++(List.replicate j none++[some cs])++[some xs]++[none]=(B++List.replicate j none)++[some cs,some xs,none]:=by simp
   rw [this,hlen,qC _ _ (by simp),qC _ _ (by simp;omega)]
   have k1:B.length+j-(B++List.replicate j (none:Option (List AV))).length=0:=by simp
   have k2:B.length+j+1+1-(B++List.replicate j (none:Option (List AV))).length=2:=by simp;omega
   rw [k1,k2]
   unfold getB
   rw [qU (by simp;omega),k2]
   rfl
  ·have e1:applyE [(B.length+j,none),(B.length+j+1+1,some (cs++xs))] (B++(List.replicate j none++[some cs])++[some xs]++[none])=(B++List.replicate j none)++[none,some xs,some (cs++xs)]:=by
    simp only [applyE]
    have:B++(List.replicate j none++[some cs])++[some xs]++[none]=(B++List.replicate j none)++[some cs,some xs,none]:=by simp
    rw [this,qC _ _ (by simp),qC _ _ (by simp;omega)]
    have k1:B.length+j-(B++List.replicate j (none:Option (List AV))).length=0:=by simp
    have k2:B.length+j+1+1-(B++List.replicate j (none:Option (List AV))).length=2:=by simp;omega
    rw [k1,k2]
    rfl
   rw [e1]
   have e2:B++(List.replicate (j+2) none++[some (cs++xs)])=(B++List.replicate j none)++[none,none,some (cs++xs)]:=by
    rw [←rep_snoc (j+1) none _ rfl,←rep_snoc j none _ rfl];simp
   rw [e2]
   refine weak_kill (by simp) (fun i=>?_)
   rcases xU i (B++List.replicate j (none:Option (List AV))).length with hi | hi
   ·left
    rw [qH hi,qH hi]
   ·rw [qU hi,qU hi]
    have:n0≤i:=by simp at hi;omega
    generalize i-(B++List.replicate j (none:Option (List AV))).length=k
    match k with
    | 0=>exact .inl rfl
    | 1=>exact .inr ⟨this,rfl⟩
    | k+2=>exact .inl rfl
  ·refine .inr ⟨by omega,by rw [yZ,hl,hx,Nat.add_mul,xS],j+2,?_,rfl⟩
   rw [hlen]
   rfl
theorem getD_ge {l:List Nat} {i:Nat} (h:l.length≤i):l.getD i 0=0:=by
 rw [qJ,List.getElem?_eq_none h];rfl
theorem len_snoc {α:Type} (H:List α) (x:α):(H++[x]).length=H.length+1:=by simp
theorem wrap_dif {x y:Nat} (hx:x<4294967296) (hy:y≤4294967296):IntKind.u32.wrap (IntKind.u64.wrap ((x:Int)-(y:Int)))=(((x+8589934592-y)%4294967296:Nat):Int):=by
 simp [IntKind.wrap,IntKind.bits,IntKind.signed];omega
theorem zsum (m n:List Nat) (c d:Option Nat) (hm:m.length<1048576) (hn:n.length<1048576) (dm:Dig m) (dn:Dig n):
  ∃c',Ret Tryz.prog G 161 [.vec (u32s m) m.length c,.vec (u32s n) n.length d] [] (.vec (u32s (sumL m n (max m.length n.length) 0 0 [])) (sumL m n (max m.length n.length) 0 0 []).length c') []:=by
 refine ⟨none,?_⟩
 refine Ret_of mixed Tryz.func161 comp161 _ 54 res161 nt161 (by simp) (by simp) ?_
 generalize hfin:sumL m n (max m.length n.length) 0 0 []=fin
 simp only [c161,r161_0,r161_1,r161_2,r161_3,SS,reduceCtorEq]
 refine W_loop (fun k E H=>∃i cy out a,k+i=max m.length n.length∧out.length=i∧cy≤1∧sumL m n k i cy out=fin∧E 0= .vec (u32s m) m.length c∧E 1= .vec (u32s n) n.length d∧
  E 5=a∧E 6= .int .u64 (cy:Nat)∧E 7= .int .i64 (i:Nat)∧OutAt [] 1 i (u32s out) a H) (n:=max m.length n.length) ⟨0,0,[],_,by omega,rfl,by omega,hfin,?_,?_,rfl,?_,?_,.inl ⟨rfl,rfl,?_,0,rfl⟩⟩ ?_
 ·simp only [upd_app,argsE_app,qY,qQ,if_false]
 ·simp only [upd_app,argsE_app,qY,qK,qQ,if_false]
 ·simp only [upd_app,argsE_app,qK,qQ,reduceIte,if_false];rfl
 ·simp only [upd_app,argsE_app,qK,qQ,reduceIte,if_false];rfl
 ·simp only [upd_app,argsE_app,qK,qQ,reduceIte,if_false]
 rintro k E H ⟨i,cy,out,a,hki,hol,hcy,hf,h0,h1,h5,h6,h7,hO⟩
 have hx:∃t,decide ((i:Int)<(m.length:Nat))=t:=⟨_,rfl⟩
 have bm:=dm.getD i
 have bn:=dn.getD i
 cases k with
 | zero=>
  refine wpC_sound mixed ?_
  have d1:decide ((i:Int)<(m.length:Nat))=false:=decide_eq_false (by omega)
  have d2:decide ((i:Int)<(n.length:Nat))=false:=decide_eq_false (by omega)
  simp only [l161_0,r161_4,SS,forall_const,reduceCtorEq,reduceIte,qQ,h0,h1,h7,d1,d2]
  simp only [sumL] at hf
  obtain ⟨e,rd,H4,H5,hap,hH4,hg,hw,hO'⟩:=out_app (bytes:=4) (xs:=[.int .u32 ((cy%4294967296:Nat):Int)]) hO rfl rfl (by omega) (by omega)
  simp only [r161_12,SS,reduceIte,qQ,qX,h5,h6,wu32,len_snoc,hap]
  refine ⟨.inl trivial,_,rfl,?_⟩
  have e1:u32s out++[.int .u32 ((cy%4294967296:Nat):Int)]=u32s fin:=by rw [←hf];simp [u32s]
  rw [e1] at hg
  have hfl:fin.length=i+1:=by rw [←hf];simp [hol]
  rw [hfl]
  refine fin_mag ?_ hfl.symm
  rw [hH4]
  exact hg
 | succ k=>
  have step9:∀E':Env,E' 0= .vec (u32s m) m.length c→E' 1= .vec (u32s n) n.length d→E' 5=a→E' 6= .int .u64 ((cy+m.getD i 0+n.getD i 0:Nat):Int)→E' 7= .int .i64 (i:Nat)→
    W Tryz.prog G 0 54 (.seq (.reg r161_9 none) (.reg r161_10 none)) E' H (fun x E'' H''=>x= .normal∧E'' 0= .vec (u32s m) m.length c∧E'' 1= .vec (u32s n) n.length d∧E'' 7= .int .i64 (i:Nat)∧E'' 6= .int .u64 (((cy+m.getD i 0+n.getD i 0)/4294967296:Nat):Int)∧
     ∃H5,(∀E3,Weak G 0 E3 H'' E3 H5)∧OutAt [] 1 (i+1) (u32s (out++[(cy+m.getD i 0+n.getD i 0)%4294967296])) (E'' 5) H5):=by
   intro E' g0 g1 g5 g6 g7
   obtain ⟨e,rd,H4,H5,hap,hH4,hg,hw,hO'⟩:=out_app (bytes:=4) (xs:=[.int .u32 (((cy+m.getD i 0+n.getD i 0)%4294967296:Nat):Int)]) hO rfl rfl (by omega) (by omega)
   refine wpC_sound mixed ?_
   simp only [r161_9,SS,reduceIte,qQ,qX,g5,g6,wu32,len_snoc,hap]
   simp only [r161_10,SS,reduceCtorEq,reduceIte,qQ,shr32,g0,g1,g7,g6]
   refine ⟨by omega,?_⟩
   rw [hH4]
   refine ⟨H5,fun E3=>hw _ _ _ (by simp),?_⟩
   have e1:u32s out++[.int .u32 (((cy+m.getD i 0+n.getD i 0)%4294967296:Nat):Int)]=u32s (out++[(cy+m.getD i 0+n.getD i 0)%4294967296]):=by simp [u32s]
   rw [e1] at hO'
   exact hO'
  have st1:∀E':Env,E' 0= .vec (u32s m) m.length c→E' 1= .vec (u32s n) n.length d→E' 5=a→E' 6= .int .u64 (cy:Nat)→E' 7= .int .i64 (i:Nat)→
    W Tryz.prog G 0 54 (.seq (.reg r161_5 none) (.cond (.t 23) (.reg r161_6 none) .skip)) E' H (fun x E'' H''=>x= .normal∧H''=H∧E'' 0= .vec (u32s m) m.length c∧E'' 1= .vec (u32s n) n.length d∧E'' 5=a∧E'' 6= .int .u64 ((cy+m.getD i 0:Nat):Int)∧E'' 7= .int .i64 (i:Nat)):=by
   intro E' g0 g1 g5 g6 g7
   refine wpC_sound mixed ?_
   simp only [r161_5,SS,reduceCtorEq,reduceIte,qQ,g0,g7]
   refine ⟨fun hl=>?_,fun hl=>?_⟩
   ·have g:=u32s_getD m i (by omega) AV.junk
    have w1:IntKind.u64.wrap ((cy:Int)+((m.getD i 0:Nat):Int))=((cy+m.getD i 0:Nat):Int):=by rw [←qO];exact wu64' (by omega)
    simp only [r161_6,SS,forall_const,reduceCtorEq,reduceIte,qQ,g0,g1,g5,g6,g7,qW,g,u32s_len,wu64' (show m.getD i 0<18446744073709551616 by omega),w1]
    exact ⟨⟨by omega,hl⟩,by omega⟩
   ·simp only [g1,g5,g6,getD_ge (show m.length≤i by omega),xE,and_self]
  have st2:∀E':Env,E' 0= .vec (u32s m) m.length c→E' 1= .vec (u32s n) n.length d→E' 5=a→E' 6= .int .u64 ((cy+m.getD i 0:Nat):Int)→E' 7= .int .i64 (i:Nat)→
    W Tryz.prog G 0 54 (.seq (.reg r161_7 none) (.cond (.t 34) (.reg r161_8 none) .skip)) E' H (fun x E'' H''=>x= .normal∧H''=H∧E'' 0= .vec (u32s m) m.length c∧E'' 1= .vec (u32s n) n.length d∧E'' 5=a∧E'' 6= .int .u64 ((cy+m.getD i 0+n.getD i 0:Nat):Int)∧E'' 7= .int .i64 (i:Nat)):=by
   intro E' g0 g1 g5 g6 g7
   refine wpC_sound mixed ?_
   simp only [r161_7,SS,reduceCtorEq,reduceIte,qQ,g1,g7]
   refine ⟨fun hl=>?_,fun hl=>?_⟩
   ·have g:=u32s_getD n i (by omega) AV.junk
    have w1:IntKind.u64.wrap (((cy+m.getD i 0:Nat):Int)+((n.getD i 0:Nat):Int))=((cy+m.getD i 0+n.getD i 0:Nat):Int):=by rw [←qO];exact wu64' (by omega)
    simp only [r161_8,SS,forall_const,reduceCtorEq,reduceIte,qQ,g0,g1,g5,g6,g7,qW,g,u32s_len,wu64' (show n.getD i 0<18446744073709551616 by omega),w1]
    exact ⟨⟨by omega,hl⟩,by omega⟩
   ·simp only [g0,g5,g6,getD_ge (show n.length≤i by omega),xE,and_self]
  have hor:(if decide ((i:Int)<(m.length:Nat))=true then AV.bool true else AV.bool (decide ((i:Int)<(n.length:Nat))))= .bool true:=by
   by_cases h:(i:Int)<(m.length:Nat)
   ·rw [if_pos (decide_eq_true h)]
   ·rw [if_neg (by simp at h ⊢;exact h),decide_eq_true (by omega)]
  have tail:∀E':Env,E' 0= .vec (u32s m) m.length c→E' 1= .vec (u32s n) n.length d→E' 5=a→E' 6= .int .u64 (cy:Nat)→E' 7= .int .i64 (i:Nat)→
    W Tryz.prog G 0 54 (.seq (.block 1 (.seq (.seq (.reg r161_5 none) (.cond (.t 23) (.reg r161_6 none) .skip)) (.seq (.seq (.reg r161_7 none) (.cond (.t 34) (.reg r161_8 none) .skip)) (.seq (.reg r161_9 none) (.reg r161_10 none))))) (.reg r161_11 none)) E' H
     (fun x E'' H''=>x= .normal∧E'' 0= .vec (u32s m) m.length c∧E'' 1= .vec (u32s n) n.length d∧E'' 7= .int .i64 ((i+1:Nat):Int)∧E'' 6= .int .u64 (((cy+m.getD i 0+n.getD i 0)/4294967296:Nat):Int)∧
     ∃H5,(∀E3,Weak G 0 E3 H'' E3 H5)∧OutAt [] 1 (i+1) (u32s (out++[(cy+m.getD i 0+n.getD i 0)%4294967296])) (E'' 5) H5):=by
   intro E' g0 g1 g5 g6 g7
   refine W_seq (W_block (W_seq ((st1 E' g0 g1 g5 g6 g7).mono ?_)))
   rintro x E1 H1 ⟨rfl,rfl,a0,a1,a5,a6,a7⟩
   refine W_seq ((st2 E1 a0 a1 a5 a6 a7).mono ?_)
   rintro x E2 H2 ⟨rfl,rfl,b0,b1,b5,b6,b7⟩
   refine (step9 E2 b0 b1 b5 b6 b7).mono ?_
   rintro x E3 H3 ⟨rfl,c0,c1,c7,c6,H5,hw,hO'⟩
   refine wpC_sound mixed ?_
   have w1:IntKind.i64.wrap ((i:Int)+1)=((i+1:Nat):Int):=by rw [show (i:Int)+1=((i+1:Nat):Int) by omega];exact w64 (by omega) (by omega)
   simp only [r161_11,SS,reduceCtorEq,reduceIte,qQ,c0,c1,c7,c6,w1]
   exact ⟨H5,hw,hO'⟩
  simp only [l161_0]
  refine W_seq (wpC_sound mixed ?_)
  simp only [r161_4,SS,forall_const,reduceCtorEq,reduceIte,qQ,h0,h1,h7]
  refine ⟨fun hnm=>⟨fun hn=>?_,fun hnn=>absurd hnn (by omega)⟩,fun hm=>?_⟩
  all_goals
   refine (tail _ (by simp only [upd_app,qQ,if_false,h0]) (by simp only [upd_app,qQ,if_false,h1]) (by simp only [upd_app,qQ,if_false,h5]) (by simp only [upd_app,qQ,if_false,h6]) (by simp only [upd_app,qQ,if_false,h7])).mono ?_
   rintro x E3 H3 ⟨rfl,c0,c1,c7,c6,H5,hw,hO'⟩
   refine ⟨k,E3,H5,by omega,⟨i+1,_,_,_,by omega,by simp [hol],?_,hf,c0,c1,rfl,c6,c7,hO'⟩,hw E3⟩
   omega
theorem zdifference (m n:List Nat) (c d:Option Nat) (hm:m.length<1048576) (hn:n.length≤m.length) (dm:Dig m) (dn:Dig n):
  ∃c',Ret Tryz.prog G 162 [.vec (u32s m) m.length c,.vec (u32s n) n.length d] [] (.vec (u32s (difL m n m.length 0 0 [])) (difL m n m.length 0 0 []).length c') []:=by
 have hlen:∀k i b out,(difL m n k i b out).length=k+out.length:=by
  intro k
  induction k with
  | zero=>intro i b out;simp [difL]
  | succ k ih=>intro i b out;simp only [difL];rw [ih];simp;omega
 refine ⟨if m.length=0 then some 0 else none,?_⟩
 refine Ret_of mixed Tryz.func162 comp162 _ 46 res162 nt162 (by simp) (by simp) ?_
 generalize hfin:difL m n m.length 0 0 []=fin
 have hfl:fin.length=m.length:=by rw [←hfin,hlen];simp
 simp only [c162,r162_0,r162_1,r162_2,r162_3,SS,reduceCtorEq]
 refine W_loop (fun k E H=>∃i b out a,k+i=m.length∧out.length=i∧b≤1∧difL m n k i b out=fin∧E 0= .vec (u32s m) m.length c∧E 1= .vec (u32s n) n.length d∧
  E 5=a∧E 6= .int .u64 (b:Nat)∧E 7= .int .i64 (i:Nat)∧OutAt [] 1 i (u32s out) a H) (n:=m.length) ⟨0,0,[],_,by omega,rfl,by omega,hfin,?_,?_,rfl,?_,?_,.inl ⟨rfl,rfl,?_,0,rfl⟩⟩ ?_
 ·simp only [upd_app,argsE_app,qY,qQ,if_false]
 ·simp only [upd_app,argsE_app,qY,qK,qQ,if_false]
 ·simp only [upd_app,argsE_app,qK,qQ,reduceIte,if_false];rfl
 ·simp only [upd_app,argsE_app,qK,qQ,reduceIte,if_false];rfl
 ·simp only [upd_app,argsE_app,qK,qQ,reduceIte,if_false]
 rintro k E H ⟨i,b,out,a,hki,hol,hb,hf,h0,h1,h5,h6,h7,hO⟩
 have bm:=dm.getD i
 have bn:=dn.getD i
 cases k with
 | zero=>
  refine wpC_sound mixed ?_
  have d1:decide ((i:Int)<(m.length:Nat))=false:=decide_eq_false (by omega)
  have hf:out=fin:=hf
  subst hf
  simp only [l162_0,r162_4,SS,forall_const,reduceCtorEq,reduceIte,qQ,h0,h7,d1]
  simp only [r162_13,SS,reduceIte,qQ,h5]
  refine ⟨.inl trivial,_,rfl,?_⟩
  rcases hO with ⟨rfl,h9,rfl,j,rfl⟩ | ⟨hi,hl,j,rfl,rfl⟩
  ·have:m.length=0:=by omega
   have:out=[]:=List.length_eq_zero_iff.1 hol
   subst this
   rw [if_pos (by omega)]
   exact .drop _ _ rfl (by intro i cs h;omega)
  ·rw [if_neg (by omega),hol]
   refine fin_mag ?_ hol.symm
   simp [getB]
 | succ k=>
  simp only [difL] at hf
  have hnt:Tryz.f162.ntmps=46:=nt162
  have st6:∀E':Env,E' 0= .vec (u32s m) m.length c→E' 1= .vec (u32s n) n.length d→E' 5=a→E' 8= .int .u64 (b:Nat)→E' 7= .int .i64 (i:Nat)→
    W Tryz.prog G 0 46 (.seq (.reg r162_6 none) (.cond (.t 19) (.reg r162_7 none) .skip)) E' H (fun x E'' H''=>x= .normal∧H''=H∧E'' 0= .vec (u32s m) m.length c∧E'' 1= .vec (u32s n) n.length d∧E'' 5=a∧E'' 8= .int .u64 ((b+n.getD i 0:Nat):Int)∧E'' 7= .int .i64 (i:Nat)):=by
   intro E' g0 g1 g5 g8 g7
   refine wpC_sound mixed ?_
   simp only [r162_6,SS,reduceCtorEq,reduceIte,qQ,g1,g7]
   refine ⟨fun hl=>?_,fun hl=>?_⟩
   ·have g:=u32s_getD n i (by omega) AV.junk
    have w1:IntKind.u64.wrap ((b:Int)+((n.getD i 0:Nat):Int))=((b+n.getD i 0:Nat):Int):=by rw [←qO];exact wu64' (by omega)
    simp only [r162_7,SS,forall_const,reduceCtorEq,reduceIte,qQ,g0,g1,g5,g8,g7,qW,g,u32s_len,wu64' (show n.getD i 0<18446744073709551616 by omega),w1]
    exact ⟨⟨by omega,hl⟩,by omega⟩
   ·simp only [g0,g5,g8,getD_ge (show n.length≤i by omega),xE,and_self]
  have hi:i<m.length:=by omega
  have gm:=u32s_getD m i hi AV.junk
  have wm:IntKind.u64.wrap ((m.getD i 0:Nat):Int)=((m.getD i 0:Nat):Int):=wu64' (by omega)
  have wd:IntKind.u32.wrap (IntKind.u64.wrap (((m.getD i 0:Nat):Int)-((b+n.getD i 0:Nat):Int)))=(((m.getD i 0+8589934592-(b+n.getD i 0))%4294967296:Nat):Int):=by
   exact wrap_dif (by omega) (by omega)
  obtain ⟨e,rd,H4,H5,hap,hH4,hg,hw,hO'⟩:=out_app (bytes:=4) (xs:=[.int .u32 (((m.getD i 0+8589934592-(b+n.getD i 0))%4294967296:Nat):Int)]) hO rfl rfl (by omega) (by omega)
  have e1:u32s out++[.int .u32 (((m.getD i 0+8589934592-(b+n.getD i 0))%4294967296:Nat):Int)]=u32s (out++[(m.getD i 0+8589934592-(b+n.getD i 0))%4294967296]):=by simp [u32s]
  rw [e1] at hO'
  have w1:IntKind.i64.wrap ((i:Int)+1)=((i+1:Nat):Int):=by rw [show (i:Int)+1=((i+1:Nat):Int) by omega];exact w64 (by omega) (by omega)
  simp only [l162_0]
  refine W_seq (wpC_sound mixed ?_)
  simp only [r162_4,SS,reduceCtorEq,reduceIte,qQ,h0,h7]
  refine ⟨fun _=>?_,fun h=>absurd h (by omega)⟩
  refine W_seq (W_block (W_seq (wpC_sound mixed ?_)))
  simp only [r162_5,SS,reduceIte,qQ,h6]
  refine W_seq ((st6 _ (by simp only [upd_app,qQ,if_false,h0]) (by simp only [upd_app,qQ,if_false,h1]) (by simp only [upd_app,qQ,if_false,h5]) (by simp only [upd_app,qQ,reduceIte,if_false]) (by simp only [upd_app,qQ,if_false,h7])).mono ?_)
  rintro x E2 H2 ⟨rfl,rfl,b0,b1,b5,b8,b7⟩
  refine wpC_sound mixed ?_
  simp only [r162_8,SS,forall_const,reduceCtorEq,reduceIte,qQ,qX,b0,b5,b7,b8,qW,gm,u32s_len,wm,wd,len_snoc,hap]
  refine ⟨⟨by omega,by omega⟩,by omega,?_⟩
  simp only [r162_9,SS]
  simp only [r162_10,SS,forall_const,reduceCtorEq,reduceIte,qQ,b0,b7,b8,qW,gm,u32s_len,wm]
  refine ⟨⟨by omega,by omega⟩,by omega,fun hlt=>?_,fun hlt=>?_⟩
  ·have eb:brw (m.getD i 0) (b+n.getD i 0)=1:=by unfold brw;rw [if_pos (by omega)]
   rw [eb] at hf
   simp only [r162_11,SS]
   refine wpC_sound mixed ?_
   simp only [r162_12,SS,reduceIte,qQ,b7,w1]
   rw [hH4]
   refine ⟨k,_,H5,by omega,⟨i+1,1,_,_,by omega,by simp [hol],by omega,hf,?_,?_,rfl,?_,?_,?_⟩,hw _ _ _ (by simp)⟩<;>simp only [upd_app,qQ,reduceIte,if_false,b0,b1]
   ·rfl
   ·exact hO'
  ·have eb:brw (m.getD i 0) (b+n.getD i 0)=0:=by unfold brw;rw [if_neg (by omega)]
   rw [eb] at hf
   refine wpC_sound mixed ?_
   simp only [r162_12,SS,reduceIte,qQ,b7,w1]
   rw [hH4]
   refine ⟨k,_,H5,by omega,⟨i+1,0,_,_,by omega,by simp [hol],by omega,hf,?_,?_,rfl,?_,?_,?_⟩,hw _ _ _ (by simp)⟩<;>simp only [upd_app,qQ,reduceIte,if_false,b0,b1]
   ·rfl
   ·exact hO'
theorem trimL_le (l:List Nat):(trimL l).length≤l.length:=by rw [trimL_len];exact trimN_le _ _
theorem IsInt.closed {z:Int} {a:AV} (h:IsInt z a):a.closed=true:=by
 obtain ⟨l,c,_,_,_,rfl⟩:=h;rfl
theorem IsInt.fits {z:Int} {a:AV} (h:IsInt z a):z.natAbs<BIG:=by
 obtain ⟨l,c,hc,hl,hv,rfl⟩:=h
 rw [←hv];exact len_fits hc.1 hl
theorem zAdd {x y:Int} {a b:AV} (ha:IsInt x a) (hb:IsInt y b) (hf:(x+y).natAbs<BIG):∃v,IsInt (x+y) v∧Ret Tryz.prog G 130 [a,b] [] v []:=by
 obtain ⟨l,c,hc,hl,hv,rfl⟩:=ha
 obtain ⟨r,d,hd,hlr,hw,rfl⟩:=hb
 obtain ⟨c1,t1⟩:=zTrim l c (by omega)
 obtain ⟨c2,t2⟩:=zTrim r d (by omega)
 have l1:=trimL_le l
 have l2:=trimL_le r
 have k1:=trimL_canon hc.1
 have k2:=trimL_canon hd.1
 have v1:=(val_trimL l).trans hv
 have v2:=(val_trimL r).trans hw
 have t3:=zcmp (trimL l) (trimL r) c1 c2 (by omega) (by omega)
 rw [cmpL_spec k1 k2,v1,v2] at t3
 by_cases hs:decide (x<0)=decide (y<0)
 ·obtain ⟨c3,t4⟩:=zsum (trimL l) (trimL r) c1 c2 (by omega) (by omega) k1.1 k2.1
  obtain ⟨s1,s2,s3⟩:=sumL_spec (trimL l) (trimL r) k1.1 k2.1 (max (trimL l).length (trimL r).length) 0 0 [] (by omega) rfl Dig.nil (by omega) (by omega) rfl
  rw [v1,v2] at s1
  have hx:x.natAbs+y.natAbs=(x+y).natAbs:=by
   rcases qG x 0 with h | h | h<;>rcases qG y 0 with h' | h' | h'<;>simp at hs<;>omega
  obtain ⟨v,hv1,t5⟩:=zMake (decide (x<0)) _ c3 s2 (by rw [s3];omega) (by rw [s1,hx];exact hf)
  have e:sgnZ (decide (x<0)) (Limb.val (sumL (trimL l) (trimL r) (max (trimL l).length (trimL r).length) 0 0 []))=x+y:=by
   rw [s1];unfold sgnZ;simp only [decide_eq_true_eq]
   simp at hs
   split<;>omega
  rw [e] at hv1
  obtain ⟨l',c',_,_,_,rfl⟩:=hv1
  refine ⟨_,⟨l',c',by assumption,by assumption,by assumption,rfl⟩,?_⟩
  refine Ret_of mixed Tryz.func130 comp130 _ 40 res130 nt130 (by simp) (by simp) ?_
  simp only [c130,r130_0,r130_1,SS,forall_const,reduceCtorEq,reduceIte,qZ,qQ,qX]
  refine callA_pure t1 ?_
  simp only [SS,forall_const,reduceIte,qZ,qQ,qX]
  refine callA_pure t2 ?_
  simp only [SS,reduceIte,qQ]
  refine ⟨rfl,?_⟩
  simp only [r130_2,SS,forall_const,reduceIte,qZ,qQ,qX,hs,beq_self_eq_true]
  simp only [r130_3,SS,forall_const,reduceIte,qZ,qQ,qX]
  refine callA_pure t4 ?_
  rw [hs] at t5
  simp only [SS,reduceIte,qQ]
  refine callA_pure t5 ?_
  simp only [SS,reduceIte,qZ,qQ,qX]
  refine ⟨rfl,?_⟩
  exact ⟨.inl trivial,_,rfl,.drop _ _ rfl (by intro i cs h;omega)⟩
 ·have hs':(decide (x<0) == decide (y<0))=false:=by simpa using hs
  by_cases hcmp:y.natAbs≤x.natAbs
  ·have hsg:decide ((0:Int)≤sgn x.natAbs y.natAbs)=true:=by
    unfold sgn
    rw [if_neg (by omega)]
    split<;>rfl
   have hlen:(trimL r).length≤(trimL l).length:=by
    rcases xU (trimL l).length (trimL r).length with h | h
    ·exfalso
     have:=cmpL_spec k1 k2
     unfold cmpL at this
     rw [if_neg (by omega),if_pos h,v1,v2] at this
     rw [←this] at hsg
     simp at hsg
    ·exact h
   obtain ⟨c3,t4⟩:=zdifference (trimL l) (trimL r) c1 c2 (by omega) hlen k1.1 k2.1
   obtain ⟨s1,s2,s3⟩:=difL_spec (trimL l) (trimL r) k1.1 k2.1 hlen (by omega) (trimL l).length 0 0 [] (by omega) rfl Dig.nil (by omega) rfl
   rw [v1,v2] at s1
   obtain ⟨v,hv1,t5⟩:=zMake (decide (x<0)) _ c3 s2 (by rw [s3];omega) (len_fits s2 (by rw [s3];omega))
   have e:sgnZ (decide (x<0)) (Limb.val (difL (trimL l) (trimL r) (trimL l).length 0 0 []))=x+y:=by
    unfold sgnZ;simp only [decide_eq_true_eq]
    simp at hs
    split<;>omega
   rw [e] at hv1
   obtain ⟨l',c',_,_,_,rfl⟩:=hv1
   refine ⟨_,⟨l',c',by assumption,by assumption,by assumption,rfl⟩,?_⟩
   refine Ret_of mixed Tryz.func130 comp130 _ 40 res130 nt130 (by simp) (by simp) ?_
   simp only [c130,r130_0,r130_1,SS,forall_const,reduceCtorEq,reduceIte,qZ,qQ,qX]
   refine callA_pure t1 ?_
   simp only [SS,forall_const,reduceIte,qZ,qQ,qX]
   refine callA_pure t2 ?_
   simp only [SS,reduceIte,qQ]
   refine ⟨rfl,?_⟩
   simp only [r130_2,SS,forall_const,reduceIte,qZ,qQ,qX,hs']
   simp only [r130_4,SS,reduceIte,qQ]
   refine callA_pure t3 ?_
   simp only [SS,forall_const,reduceIte,qQ,hsg]
   simp only [r130_5,SS,forall_const,reduceIte,qZ,qQ,qX]
   refine callA_pure t4 ?_
   simp only [SS,reduceIte,qQ]
   refine callA_pure t5 ?_
   simp only [SS,reduceIte,qZ,qQ,qX]
   refine ⟨rfl,?_⟩
   exact ⟨.inl trivial,_,rfl,.drop _ _ rfl (by intro i cs h;omega)⟩
  ·have hsg:decide ((0:Int)≤sgn x.natAbs y.natAbs)=false:=by
    unfold sgn
    rw [if_pos (by omega)]
    rfl
   have hlen:(trimL l).length≤(trimL r).length:=by
    rcases xU (trimL r).length (trimL l).length with h | h
    ·exfalso
     have:=cmpL_spec k1 k2
     unfold cmpL at this
     rw [if_neg (by omega),if_neg (by omega),v1,v2] at this
     rw [←this] at hsg
     simp at hsg
    ·exact h
   obtain ⟨c3,t4⟩:=zdifference (trimL r) (trimL l) c2 c1 (by omega) hlen k2.1 k1.1
   obtain ⟨s1,s2,s3⟩:=difL_spec (trimL r) (trimL l) k2.1 k1.1 hlen (by omega) (trimL r).length 0 0 [] (by omega) rfl Dig.nil (by omega) rfl
   rw [v1,v2] at s1
   obtain ⟨v,hv1,t5⟩:=zMake (decide (y<0)) _ c3 s2 (by rw [s3];omega) (len_fits s2 (by rw [s3];omega))
   have e:sgnZ (decide (y<0)) (Limb.val (difL (trimL r) (trimL l) (trimL r).length 0 0 []))=x+y:=by
    unfold sgnZ;simp only [decide_eq_true_eq]
    simp at hs
    split<;>omega
   rw [e] at hv1
   obtain ⟨l',c',_,_,_,rfl⟩:=hv1
   refine ⟨_,⟨l',c',by assumption,by assumption,by assumption,rfl⟩,?_⟩
   refine Ret_of mixed Tryz.func130 comp130 _ 40 res130 nt130 (by simp) (by simp) ?_
   simp only [c130,r130_0,r130_1,SS,forall_const,reduceCtorEq,reduceIte,qZ,qQ,qX]
   refine callA_pure t1 ?_
   simp only [SS,forall_const,reduceIte,qZ,qQ,qX]
   refine callA_pure t2 ?_
   simp only [SS,reduceIte,qQ]
   refine ⟨rfl,?_⟩
   simp only [r130_2,SS,forall_const,reduceIte,qZ,qQ,qX,hs']
   simp only [r130_4,SS,reduceIte,qQ]
   refine callA_pure t3 ?_
   simp only [SS,forall_const,reduceIte,qQ,hsg]
   simp only [r130_6,SS,forall_const,reduceIte,qZ,qQ,qX]
   refine callA_pure t4 ?_
   simp only [SS,reduceIte,qQ]
   refine callA_pure t5 ?_
   simp only [SS,reduceIte,qZ,qQ,qX]
   refine ⟨rfl,?_⟩
   exact ⟨.inl trivial,_,rfl,.drop _ _ rfl (by intro i cs h;omega)⟩
theorem zSub {x y:Int} {a b:AV} (ha:IsInt x a) (hb:IsInt y b) (hf:(x-y).natAbs<BIG):∃v,IsInt (x-y) v∧Ret Tryz.prog G 122 [a,b] [] v []:=by
 obtain ⟨n,hn,t1⟩:=zNeg hb
 obtain ⟨v,hv,t2⟩:=zAdd ha hn (by rwa [←yJ])
 rw [←yJ] at hv
 obtain ⟨l,c,_,_,_,rfl⟩:=ha
 obtain ⟨r,d,_,_,_,rfl⟩:=hb
 obtain ⟨l1,c1,_,_,_,rfl⟩:=hn
 obtain ⟨l',c',_,_,_,rfl⟩:=hv
 refine ⟨_,⟨l',c',by assumption,by assumption,by assumption,rfl⟩,?_⟩
 refine Ret_of mixed Tryz.func122 comp122 _ 9 res122 nt122 (by simp) (by simp) ?_
 simp only [c122,r122_0,r122_1,SS,reduceCtorEq,reduceIte,qZ,qQ,qX]
 refine callA_pure t1 ?_
 simp only [SS,reduceIte,qQ]
 refine callA_pure t2 ?_
 simp only [SS,reduceIte,qZ,qQ,qX]
 refine ⟨rfl,?_⟩
 exact ⟨.inl trivial,_,rfl,.drop _ _ rfl (by intro i cs h;omega)⟩
structure MulE (m n:List Nat) (sa sb:Bool) (ca cb:Option Nat) (E:Env):Prop where
 e2:E 2= .ptr 0 0
 e3:E 3= .ptr 1 0
 e4:E 4= .ptr 2 0
 e5:E 5= .sl 3 0 (m.length+n.length) 1 (some (m.length+n.length))
 e20:E 20= .vec (u32s m) m.length ca
 e21:E 21= .int .i64 (m.length:Nat)
def mulH (m n out:List Nat) (sa sb:Bool) (ca cb:Option Nat):Heap:=
 [some [.bool sa,.vec (u32s m) m.length ca],some [.bool sb,.vec (u32s n) n.length cb],some [.bool false,.vec [] 0 (some 0)],some (u32s out)]
theorem zMul_in (m n:List Nat) (sa sb:Bool) (ca cb:Option Nat) (i:Nat) (hi:i<m.length) (dm:Dig m) (dn:Dig n) (hm:m.length≤1100) (hn:n.length≤1100) (out0:List Nat) (ho0:out0.length=m.length+n.length) (do0:Dig out0) {E:Env} {Q:Post}
  (hE:MulE m n sa sb ca cb E) (h6:E 6= .int .i64 (i:Nat)) (h7:E 7= .int .u32 (m.getD i 0:Nat)) (h8:E 8= .int .u64 0) (h22:E 22= .int .i64 (i:Nat)) (h28:E 28= .vec (u32s n) n.length cb) (h29:E 29= .int .i64 (n.length:Nat)) (h30:E 30= .int .i64 0)
  (hQ:∀E',MulE m n sa sb ca cb E'→E' 6= .int .i64 (i:Nat)→E' 22= .int .i64 (i:Nat)→E' 8= .int .u64 ((mulR n (m.getD i 0) i n.length 0 0 out0).1:Nat)→Q (.exit 2) E' (mulH m n (mulR n (m.getD i 0) i n.length 0 0 out0).2 sa sb ca cb)):
  W Tryz.prog G 0 77 (.loop l123_1) E (mulH m n out0 sa sb ca cb) Q:=by
 have bx:=dm.getD i
 refine W_loop (fun k E H=>∃j c out,j+k=n.length∧c<4294967296∧out.length=m.length+n.length∧Dig out∧mulR n (m.getD i 0) i k j c out=mulR n (m.getD i 0) i n.length 0 0 out0∧MulE m n sa sb ca cb E∧E 6= .int .i64 (i:Nat)∧E 7= .int .u32 (m.getD i 0:Nat)∧
  E 8= .int .u64 (c:Nat)∧E 22= .int .i64 (i:Nat)∧E 28= .vec (u32s n) n.length cb∧E 29= .int .i64 (n.length:Nat)∧E 30= .int .i64 (j:Nat)∧H=mulH m n out sa sb ca cb) (n:=n.length) ⟨0,0,out0,by omega,by omega,ho0,do0,rfl,hE,h6,h7,h8,h22,h28,h29,h30,rfl⟩ ?_
 rintro k E H ⟨j,c,out,hjk,hc,ho,hd,hr,hE,h6,h7,h8,h22,h28,h29,h30,rfl⟩
 obtain ⟨e2,e3,e4,e5,e20,e21⟩:=hE
 refine wpC_sound mixed ?_
 simp only [l123_1,r123_7,SS,reduceIte,h29,h30]
 refine ⟨fun hlt=>?_,fun hge=>?_⟩
 ·obtain ⟨k,rfl⟩:∃k',k=k'+1:=⟨k-1,by omega⟩
  have hj:j<n.length:=by omega
  have gn:=u32s_getD n j hj AV.junk
  have go:=u32s_getD out (i+j) (by omega) AV.junk
  have by1:=dn.getD j
  have bo:=hd.getD (i+j)
  have hxy:m.getD i 0*n.getD j 0≤4294967295*4294967295:=Nat.mul_le_mul (by omega) (by omega)
  simp only [mulR] at hr
  have w1:IntKind.u64.wrap (((m.getD i 0:Nat):Int)*((n.getD j 0:Nat):Int))=((m.getD i 0*n.getD j 0:Nat):Int):=by rw [←Int.natCast_mul];exact wu64' (by omega)
  have w2:IntKind.i64.wrap ((i:Int)+(j:Int))=((i+j:Nat):Int):=by rw [←qO];exact w64 (by omega) (by omega)
  have w3:IntKind.u64.wrap (((m.getD i 0*n.getD j 0:Nat):Int)+((out.getD (i+j) 0:Nat):Int))=((m.getD i 0*n.getD j 0+out.getD (i+j) 0:Nat):Int):=by rw [←qO];exact wu64' (by omega)
  have w4:IntKind.u64.wrap ((c:Int)+((m.getD i 0*n.getD j 0+out.getD (i+j) 0:Nat):Int))=((c+(m.getD i 0*n.getD j 0+out.getD (i+j) 0):Nat):Int):=by rw [←qO];exact wu64' (by omega)
  have w5:IntKind.i64.wrap ((j:Int)+1)=((j+1:Nat):Int):=by rw [show (j:Int)+1=((j+1:Nat):Int) by omega];exact w64 (by omega) (by omega)
  simp only [r123_8,r123_9,r123_10,r123_11,r123_12,SS,forall_const,reduceIte,qQ,mulH,h6,h7,h8,h28,h30,e5,qW,gn,go,u32s_len,ho,wu64' (show m.getD i 0<18446744073709551616 by omega),wu64' (show n.getD j 0<18446744073709551616 by omega),
   wu64' (show out.getD (i+j) 0<18446744073709551616 by omega),w1,w2,w3,w4,w5,wu32,shr32,u32s_set]
  refine ⟨⟨by omega,by omega⟩,by omega,⟨by omega,by omega⟩,by omega,⟨by omega,by omega⟩,by omega,by omega,?_⟩
  refine ⟨k,_,_,by omega,⟨j+1,_,_,by omega,?_,?_,?_,hr,⟨?_,?_,?_,?_,?_,?_⟩,?_,?_,?_,?_,?_,?_,?_,rfl⟩,.refl⟩
  ·omega
  ·simpa using ho
  ·exact hd.set (yX _ (by decide))
  all_goals simp only [upd_app,qQ,reduceIte,if_false, *]
 ·have hk:k=0:=by omega
  subst hk
  simp only [mulR] at hr
  rw [←hr] at hQ
  exact hQ _ ⟨by simp only [upd_app,qQ,if_false, *],by simp only [upd_app,qQ,if_false, *],by simp only [upd_app,qQ,if_false, *],by simp only [upd_app,qQ,if_false, *],by simp only [upd_app,qQ,if_false, *],by simp only [upd_app,qQ,if_false, *]⟩ (by simp only [upd_app,qQ,if_false, *]) (by simp only [upd_app,qQ,if_false, *]) (by simp only [upd_app,qQ,if_false, *])
theorem frz_mag {l:List Nat} {n:Nat} {c:Option Nat} (hn:n=l.length):frzI 0 [some (u32s l)] 2 (.sl 0 0 n 1 c)=some (.vec (u32s l) n c):=by
 have e:=u32s_frz l 0 0 [some (u32s l)]
 rw [frzI]
 simp only [Nat.not_lt_zero,if_false,getB_zero,need,yV,Nat.mul_one,hn,u32s_len,qL,if_true,xR]
 rw [qB (by rw [u32s_len];omega),e]
 rfl
theorem frz_bmag {l:List Nat} {n:Nat} {c:Option Nat} {s:Bool} (hn:n=l.length):([.bool s,.sl 0 0 n 1 c]:List AV).mapM (frzI 0 [some (u32s l)] 2)=some [.bool s,.vec (u32s l) n c]:=by
 rw [xT,xT,frz_mag hn]
 rfl
theorem resA_int {E:Env} {H:Heap} {t id:Nat} {u v:AV} (hE:E t= .ptr id 0) (hb:getB H id=some [u,v]):resA Tryz.prog [.cell t 37] E H=some (.agg [u,v]):=by
 have hs:ldSz Tryz.prog 37=some (true,2):=by kernel_rfl
 simp only [resA,resOne,xT,List.mapM_nil,hE,hb,hs]
 rfl
theorem zMul {x y:Int} {a b:AV} (ha:IsInt x a) (hb:IsInt y b) (hf:(x*y).natAbs<BIG):∃v,IsInt (x*y) v∧Ret Tryz.prog G 123 [a,b] [] v []:=by
 obtain ⟨m,ca,hc,hl,hv,rfl⟩:=ha
 obtain ⟨n,cb,hd,hlr,hw,rfl⟩:=hb
 have hz:val (List.replicate (m.length+n.length) 0)=0∧Dig (List.replicate (m.length+n.length) 0):=by
  constructor
  ·generalize m.length+n.length=k
   induction k with
   | zero=>rfl
   | succ k ih=>rw [xD,Limb.val,ih]
  ·intro z hz;simp at hz;omega
 obtain ⟨s1,s2,s3⟩:=mulL_spec n hd.1 m 0 (List.replicate (m.length+n.length) 0) hc.1 hz.2 (by simp) (by intro t _;simp [qJ,xL];split<;>rfl)
 rw [hz.1,hv,hw,Nat.pow_zero,xS,yV,←Int.natAbs_mul] at s3
 rw [List.length_replicate] at s1
 obtain ⟨v,hv1,t5⟩:=zMake (decide (x<0) != decide (y<0)) (mulL n m 0 (List.replicate (m.length+n.length) 0)) (some (m.length+n.length)) s2 (by rw [s1];omega) (by rw [s3];exact hf)
 have e:sgnZ (decide (x<0) != decide (y<0)) (Limb.val (mulL n m 0 (List.replicate (m.length+n.length) 0)))=x*y:=by
  rw [s3]
  unfold sgnZ
  rcases qG x 0 with h | h | h
  ·rcases qG y 0 with h' | h' | h'
   ·have:=Int.mul_pos_of_neg_of_neg h h'
    rw [decide_eq_true h,decide_eq_true h']
    simp only [bne_self_eq_false,qT,if_false]
    omega
   ·subst h';simp
   ·have:=Int.mul_neg_of_neg_of_pos h h'
    rw [decide_eq_true h,decide_eq_false (by omega)]
    simp only [Bool.bne_false,if_true]
    omega
  ·subst h;simp
  ·rcases qG y 0 with h' | h' | h'
   ·have:=Int.mul_neg_of_pos_of_neg h h'
    rw [decide_eq_false (by omega),decide_eq_true h']
    simp only [Bool.bne_true,Bool.not_false,if_true]
    omega
   ·subst h';simp
   ·have:=Int.mul_pos h h'
    rw [decide_eq_false (by omega),decide_eq_false (by omega)]
    simp only [bne_self_eq_false,qT,if_false]
    omega
 rw [e] at hv1
 obtain ⟨l',c',_,_,_,rfl⟩:=hv1
 refine ⟨_,⟨l',c',by assumption,by assumption,by assumption,rfl⟩,?_⟩
 have w1:IntKind.i64.wrap ((m.length:Int)+(n.length:Int))=((m.length+n.length:Nat):Int):=by rw [←qO];exact w64 (by omega) (by omega)
 refine Ret_of mixed Tryz.func123 comp123 _ 77 res123 nt123 (by simp) (by simp) ?_
 simp only [c123,r123_0,r123_1,SS,forall_const,reduceCtorEq,reduceIte,qZ,qQ,qX,w1,qW]
 refine ⟨by omega,⟨by omega,by omega,by omega,by omega⟩,?_⟩
 simp only [r123_2,SS,forall_const,reduceIte,qZ,qQ,qX]
 have hrep:List.replicate (m.length+n.length) (AV.int IntKind.u32 0)=u32s (List.replicate (m.length+n.length) 0):=by simp [u32s]
 rw [hrep]
 refine W_loop (fun k E H=>∃i out,i+k=m.length∧out.length=m.length+n.length∧Dig out∧mulL n (m.drop i) i out=mulL n m 0 (List.replicate (m.length+n.length) 0)∧MulE m n (decide (x<0)) (decide (y<0)) ca cb E∧E 22= .int .i64 (i:Nat)∧
  H=mulH m n out (decide (x<0)) (decide (y<0)) ca cb) (n:=m.length) ⟨0,List.replicate (m.length+n.length) 0,by omega,by simp,hz.2,rfl,⟨by simp only [upd_app,argsE_app,qK,qQ,reduceIte,if_false],by simp only [upd_app,argsE_app,qK,qQ,reduceIte,if_false],by simp only [upd_app,argsE_app,qK,qQ,reduceIte,if_false],by simp only [upd_app,argsE_app,qK,qQ,reduceIte,if_false],by simp only [upd_app,argsE_app,qK,qQ,reduceIte,if_false],by simp only [upd_app,argsE_app,qK,qQ,reduceIte,if_false]⟩,by simp only [upd_app,argsE_app,qK,qQ,reduceIte,if_false];rfl,rfl⟩ ?_
 rintro k E H ⟨i,out,hik,ho,hdo,hr,hE,h22,rfl⟩
 have hE':=hE
 obtain ⟨e2,e3,e4,e5,e20,e21⟩:=hE
 refine wpC_sound mixed ?_
 simp only [l123_0,r123_3,SS,reduceCtorEq,reduceIte,e21,h22]
 refine ⟨fun hlt=>?_,fun hge=>?_⟩
 ·obtain ⟨k,rfl⟩:∃k',k=k'+1:=⟨k-1,by omega⟩
  have hi:i<m.length:=by omega
  have gm:=u32s_getD m i hi AV.junk
  have hdrop:m.drop i=m.getD i 0::m.drop (i+1):=by
   rw [List.drop_eq_getElem_cons hi,qJ,qV hi];rfl
  rw [hdrop,mulL] at hr
  have w5:IntKind.i64.wrap ((i:Int)+1)=((i+1:Nat):Int):=by rw [show (i:Int)+1=((i+1:Nat):Int) by omega];exact w64 (by omega) (by omega)
  have w6:IntKind.i64.wrap ((i:Int)+(n.length:Int))=((i+n.length:Nat):Int):=by rw [←qO];exact w64 (by omega) (by omega)
  obtain ⟨q1,q2,q3,q4,q5⟩:=mulR_spec n hd.1 (m.getD i 0) i (hc.1.getD i) n.length 0 0 out (by decide) (by omega) (by omega) hdo
  simp only [r123_4,r123_5,r123_6,SS,forall_const,reduceIte,qZ,qQ,qX,e20,h22,qW,gm,u32s_len,mulH,e3]
  refine ⟨⟨by omega,hlt⟩,by omega,?_⟩
  refine zMul_in m n (decide (x<0)) (decide (y<0)) ca cb i hi hc.1 hd.1 hl hlr out ho hdo ⟨?_,?_,?_,?_,?_,?_⟩ ?_ ?_ ?_ ?_ ?_ ?_ ?_ (fun E1 hE1 f6 f22 f8=>?rest)
  case rest=>
   have hE1':=hE1
   obtain ⟨f2,f3,f4,f5,f20,f21⟩:=hE1
   simp only [r123_13,r123_14,SS,forall_const,reduceCtorEq,reduceIte,qZ,qQ,qX,f3,f5,f6,f8,f22,mulH,qW,u32s_len,w5,w6,wu32,xJ q1,u32s_set,q2,ho]
   refine ⟨⟨by omega,by omega⟩,by omega,?_⟩
   refine ⟨k,_,_,by omega,⟨i+1,_,by omega,?_,?_,hr,⟨?_,?_,?_,?_,?_,?_⟩,?_,rfl⟩,.refl⟩
   ·simpa using q2.trans ho
   ·exact q3.set q1
   all_goals simp only [upd_app,qQ,reduceIte,if_false, *]
  all_goals simp only [upd_app,qQ,reduceIte,if_false, *]
 ·have hk:i=m.length:=by omega
  subst hk
  rw [List.drop_length] at hr
  simp only [mulL] at hr
  simp only [r123_15,SS,forall_const,reduceIte,qZ,qQ,qX,e2,e3,e5,mulH]
  have hb:(!(decide (x<0) == decide (y<0)))=(decide (x<0) != decide (y<0)):=rfl
  rw [←hr,ho] at t5
  rw [hb]
  refine callA_frz (id:=3) (cs:=u32s out) (d:=2) (args0:=[.bool (decide (x<0) != decide (y<0)),.sl 0 0 (m.length+n.length) 1 (some (m.length+n.length))]) t5 ?_ ?_ ?_ ?_ rfl (u32s_closed _)
  ·rfl
  ·exact frz_bmag ho.symm
  ·rfl
  simp only [restA,applyE,xC,xO,SS,reduceIte,qZ,qQ,qX,e4]
  refine ⟨.inl trivial,_,?_,.drop _ _ rfl (by intro i cs h;omega)⟩
  exact resA_int (id:=2) (by simp only [upd_app,qQ,if_false,e4]) rfl
theorem or64 {a b:Nat} (ha:a<4294967296) (hb:b<4294967296):IntKind.u64.wrap ((BitVec.ofInt IntKind.u64.bits (a:Int) ||| BitVec.ofInt IntKind.u64.bits ((b*4294967296:Nat):Int)).toNat:Int)=((a+4294967296*b:Nat):Int):=by
 have e1:(BitVec.ofInt IntKind.u64.bits (a:Int) ||| BitVec.ofInt IntKind.u64.bits ((b*4294967296:Nat):Int)).toNat=a+4294967296*b:=by
  rw [BitVec.toNat_or,BitVec.ofInt_natCast,BitVec.ofInt_natCast,BitVec.toNat_ofNat,BitVec.toNat_ofNat]
  show a%18446744073709551616 ||| b*4294967296%18446744073709551616=_
  rw [xJ (by omega),xJ (by omega),Nat.or_comm,Nat.mul_comm b]
  have:=Nat.two_pow_add_eq_or_of_lt (i:=32) (b:=a) ha b
  rw [show (2:Nat)^32=4294967296 from rfl] at this
  rw [←this];omega
 rw [e1]
 exact wu64' (by omega)
theorem zlow (m:List Nat) (c:Option Nat) (dm:Dig m) (hm:m.length<1048576):Ret Tryz.prog G 131 [.vec (u32s m) m.length c] [] (.int .u64 (val (m.take 2):Nat)) []:=by
 refine Ret_of mixed Tryz.func131 comp131 _ 26 res131 nt131 (by simp) (by simp) ?_
 simp only [c131,r131_0,r131_1,r131_2,SS,reduceCtorEq]
 refine W_loop (fun k E H=>∃i,i+k=min 2 m.length∧E 0= .vec (u32s m) m.length c∧E 3= .int .u64 (val (m.take i):Nat)∧E 4= .int .i64 (i:Nat)∧H=[]) (n:=min 2 m.length) ⟨0,by omega,by simp only [upd_app,argsE_app,qY,qQ,if_false],by simp only [upd_app,argsE_app,qK,qQ,reduceIte,if_false];rfl,by simp only [upd_app,argsE_app,qK,qQ,reduceIte,if_false];rfl,rfl⟩ ?_
 rintro k E H ⟨i,hik,h0,h3,h4,rfl⟩
 refine wpC_sound mixed ?_
 have bi:=dm.getD i
 have hv:val (m.take 2)=val (m.take (min 2 m.length)):=by
  rcases Nat.le_total 2 m.length with h | h
  ·rw [Nat.min_eq_left h]
  ·rw [Nat.min_eq_right h,qB h,yA]
 cases k with
 | zero=>
  have hi:i=min 2 m.length:=by omega
  rw [←hi] at hv
  rw [hv]
  by_cases hl:i<m.length
  ·have d1:decide ((i:Int)<(m.length:Nat))=true:=decide_eq_true (by omega)
   have d2:decide ((i:Int)<2)=false:=decide_eq_false (by omega)
   simp only [l131_0,r131_3,SS,forall_const,reduceCtorEq,reduceIte,qQ,h0,h4,d1,d2]
   simp only [r131_6,SS,reduceIte,qQ,h3]
   exact ⟨.inl trivial,_,rfl,.drop _ _ rfl (by intro i cs h;omega)⟩
  ·have d1:decide ((i:Int)<(m.length:Nat))=false:=decide_eq_false (by omega)
   simp only [l131_0,r131_3,SS,forall_const,reduceCtorEq,reduceIte,qQ,h0,h4,d1]
   simp only [r131_6,SS,reduceIte,qQ,h3]
   exact ⟨.inl trivial,_,rfl,.drop _ _ rfl (by intro i cs h;omega)⟩
 | succ k=>
  have hi:i<m.length:=by omega
  have hi2:i<2:=by omega
  have d1:decide ((i:Int)<(m.length:Nat))=true:=decide_eq_true (by omega)
  have d2:decide ((i:Int)<2)=true:=decide_eq_true (by omega)
  have g:=u32s_getD m i hi AV.junk
  have w5:IntKind.i64.wrap ((i:Int)+1)=((i+1:Nat):Int):=by rw [show (i:Int)+1=((i+1:Nat):Int) by omega];exact w64 (by omega) (by omega)
  have w6:IntKind.i64.wrap (32*(i:Int))=((32*i:Nat):Int):=by rw [show 32*(i:Int)=((32*i:Nat):Int) by omega];exact w64 (by omega) (by omega)
  have w7:IntKind.u64.wrap ((BitVec.ofInt IntKind.u64.bits ((val (m.take i):Nat):Int) ||| BitVec.ofInt IntKind.u64.bits (IntKind.u64.wrap (((m.getD i 0:Nat):Int)*2^min (32*i) IntKind.u64.bits))).toNat:Int)=(val (m.take (i+1)):Nat):=by
   rw [val_take_succ]
   rcases (by omega:i=0∨i=1) with rfl | rfl
   ·have e1:IntKind.u64.wrap (((m.getD 0 0:Nat):Int)*2^min (32*0) IntKind.u64.bits)=((m.getD 0 0:Nat):Int):=by
     show IntKind.u64.wrap (((m.getD 0 0:Nat):Int)*1)=_
     rw [yD];exact wu64' (by omega)
    rw [e1]
    have e2:val (m.take 0)=0:=rfl
    rw [e2]
    have:=or64 (a:=m.getD 0 0) (b:=0) bi (by omega)
    rw [BitVec.or_comm]
    simpa using this
   ·have e1:IntKind.u64.wrap (((m.getD 1 0:Nat):Int)*2^min (32*1) IntKind.u64.bits)=((m.getD 1 0*4294967296:Nat):Int):=by
     show IntKind.u64.wrap (((m.getD 1 0:Nat):Int)*4294967296)=_
     rw [show ((m.getD 1 0:Nat):Int)*4294967296=((m.getD 1 0*4294967296:Nat):Int) by omega];exact wu64' (by omega)
    rw [e1]
    have hlt:=val_lt (dm.take 1)
    have hlen:(m.take 1).length=1:=by rw [xM];omega
    rw [hlen] at hlt
    have:=or64 (a:=val (m.take 1)) (b:=m.getD 1 0) (by omega) bi
    rw [this]
  simp only [l131_0,r131_3,SS,forall_const,reduceCtorEq,reduceIte,qQ,h0,h4,d1,d2]
  simp only [r131_4,r131_5,SS,forall_const,reduceCtorEq,reduceIte,qQ,h0,h3,h4,qW,g,u32s_len,w5,w6,wu64' (show m.getD i 0<18446744073709551616 by omega),w7]
  refine ⟨⟨by omega,by omega⟩,by omega,by omega,?_⟩
  refine ⟨k,_,_,by omega,⟨i+1,by omega,?_,?_,?_,rfl⟩,.refl⟩<;>simp only [upd_app,qQ,reduceIte,if_false, *]
theorem canon_small {l:List Nat} (h:Canon l) (hv:val l<18446744073709551616):l.length≤2:=by
 rcases xU 2 l.length with h1 | h1
 ·exfalso
  have h2:=val_pos h.2 (by intro e;rw [e] at h1;simp at h1)
  have h3:4294967296^2≤4294967296^(l.length-1):=Nat.pow_le_pow_right (by decide) (by omega)
  omega
 ·exact h1
theorem zdivide_small (m n:List Nat) (c d:Option Nat) (cm:Canon m) (cn:Canon n) (hm:val m<18446744073709551616) (hn:val n<18446744073709551616) (hn0:val n≠0):
  ∃q r c1 c2,Canon q∧Canon r∧q.length≤1100∧r.length≤1100∧val q=val m/val n∧val r=val m%val n∧
   Ret Tryz.prog G 159 [.vec (u32s m) m.length c,.vec (u32s n) n.length d] [] (.tup [.vec (u32s q) q.length c1,.vec (u32s r) r.length c2]) []:=by
 have lm:=canon_small cm hm
 have ln:=canon_small cn hn
 have t1:=zlow m c cm.1 (by omega)
 have t2:=zlow n d cn.1 (by omega)
 rw [qB lm] at t1
 rw [qB ln] at t2
 have hq:val m/val n<18446744073709551616:=yK (Nat.div_le_self _ _) hm
 have hr:val m%val n<18446744073709551616:=yK (Nat.mod_le _ _) hm
 obtain ⟨vq,hq1,t3⟩:=zWord false (val m/val n) hq
 obtain ⟨vr,hr1,t4⟩:=zWord false (val m%val n) hr
 obtain ⟨q,c1,q1,q2,q3,rfl⟩:=hq1
 obtain ⟨r,c2,r1,r2,r3,rfl⟩:=hr1
 refine ⟨q,r,c1,c2,q1,r1,q2,r2,q3.trans (sgnZ_abs _ _),r3.trans (sgnZ_abs _ _),?_⟩
 have d1:decide ((m.length:Int)≤2)=true:=decide_eq_true (by omega)
 have d2:decide ((n.length:Int)≤2)=true:=decide_eq_true (by omega)
 have w1:IntKind.u64.wrap (Int.tdiv (val m:Nat) (val n:Nat))=((val m/val n:Nat):Int):=by
  show IntKind.u64.wrap ((val m/val n:Nat):Int)=_
  exact wu64' hq
 have w2:Int.tmod (val m:Nat) (val n:Nat)=((val m%val n:Nat):Int):=rfl
 refine Ret_of mixed Tryz.func159 comp159 _ 75 res159 nt159 (by simp) (by simp) ?_
 simp only [c159,r159_0,r159_1,SS,forall_const,reduceCtorEq,reduceIte,qQ,d1,d2]
 simp only [r159_2,SS,reduceCtorEq,reduceIte,qQ]
 refine callA_pure t1 ?_
 simp only [SS,reduceIte,qQ]
 refine callA_pure t2 ?_
 simp only [SS,reduceIte,qQ]
 simp only [r159_3,SS,reduceIte,qQ,w1]
 refine ⟨by omega,?_⟩
 refine callA_pure t3 ?_
 simp only [SS,forall_const,reduceIte,qZ,qQ,qX]
 refine ⟨by omega,?_⟩
 refine callA_pure t4 ?_
 simp only [SS,forall_const,reduceIte,qZ,qQ,qX]
 refine ⟨rfl,?_⟩
 exact ⟨.inl trivial,_,rfl,.drop _ _ rfl (by intro i cs h;omega)⟩
theorem ediv_cases {x y:Int} (hy:y≠0):x/y=(if x.natAbs%y.natAbs≠0∧x<0 then (if y<0 then sgnZ (decide (x<0) != decide (y<0)) (x.natAbs/y.natAbs)+1 else sgnZ (decide (x<0) != decide (y<0)) (x.natAbs/y.natAbs)-1) else sgnZ (decide (x<0) != decide (y<0)) (x.natAbs/y.natAbs))∧
  x%y=(if x.natAbs%y.natAbs≠0∧x<0 then sgnZ (decide (x<0)) (x.natAbs%y.natAbs)+(y.natAbs:Int) else sgnZ (decide (x<0)) (x.natAbs%y.natAbs)):=by
 have h:=Nat.div_add_mod x.natAbs y.natAbs
 have hR:=yX x.natAbs (show 0<y.natAbs by omega)
 generalize x.natAbs/y.natAbs=Q at*
 generalize x.natAbs%y.natAbs=R at*
 have h':(y.natAbs:Int)*Q+R=x.natAbs:=by exact_mod_cast h
 rcases Int.lt_or_lt_of_ne hy with hy1 | hy1
 ·rw [Int.ediv_emod_unique' hy1]
  have ey:(y.natAbs:Int)= -y:=by omega
  rw [ey] at h' ⊢
  unfold sgnZ
  rw [decide_eq_true hy1]
  by_cases hx:x<0
  ·have ex:(x.natAbs:Int)= -x:=by omega
   rw [ex] at h'
   rw [decide_eq_true hx]
   simp only [bne_self_eq_false,qT,if_false,if_true,hy1,hx,and_true]
   rw [Int.neg_mul] at h'
   by_cases h0:R=0
   ·subst h0
    simp only [ne_eq,not_true_eq_false,if_false]
    refine ⟨by omega,by omega,by omega⟩
   ·simp only [ne_eq,h0,not_false_eq_true,if_true]
    rw [Int.mul_add,yD]
    refine ⟨by omega,by omega,by omega⟩
  ·have ex:(x.natAbs:Int)=x:=by omega
   rw [ex] at h'
   rw [decide_eq_false hx]
   simp only [Bool.bne_true,Bool.not_false,if_true,hx,and_false,if_false,qT]
   rw [Int.neg_mul] at h'
   rw [yE]
   refine ⟨by omega,by omega,by omega⟩
 ·rw [Int.ediv_emod_unique hy1]
  have ey:(y.natAbs:Int)=y:=by omega
  rw [ey] at h' ⊢
  unfold sgnZ
  rw [decide_eq_false (show ¬y<0 by omega)]
  by_cases hx:x<0
  ·have ex:(x.natAbs:Int)= -x:=by omega
   rw [ex] at h'
   rw [decide_eq_true hx]
   simp only [Bool.bne_false,if_true,hx,and_true,show ¬y<0 by omega,if_false]
   by_cases h0:R=0
   ·subst h0
    simp only [ne_eq,not_true_eq_false,if_false]
    rw [yE]
    refine ⟨by omega,by omega,by omega⟩
   ·simp only [ne_eq,h0,not_false_eq_true,if_true]
    rw [Int.mul_sub,yE,yD]
    refine ⟨by omega,by omega,by omega⟩
  ·have ex:(x.natAbs:Int)=x:=by omega
   rw [ex] at h'
   rw [decide_eq_false hx]
   simp only [bne_self_eq_false,qT,if_false,hx,and_false]
   refine ⟨by omega,by omega,by omega⟩
def DivC (m n:List Nat) (c d:Option Nat):Prop:= ∃q r c1 c2,Canon q∧Canon r∧q.length≤1100∧r.length≤1100∧val q=val m/val n∧val r=val m%val n∧
   Ret Tryz.prog G 159 [.vec (u32s m) m.length c,.vec (u32s n) n.length d] [] (.tup [.vec (u32s q) q.length c1,.vec (u32s r) r.length c2]) []
theorem zDivMod {x y:Int} {a b:AV} (ha:IsInt x a) (hb:IsInt y b) (hy:y≠0) (hdiv:∀m n c d,Canon m→Canon n→m.length≤1100→n.length≤1100→val m=x.natAbs→val n=y.natAbs→DivC m n c d) (hf:(x/y).natAbs<BIG):
  ∃v w,IsInt (x/y) v∧IsInt (x%y) w∧Ret Tryz.prog G 119 [a,b] [] (.tup [v,w,.bool true]) []:=by
 have hb0:=hb
 obtain ⟨hq0,hr0⟩:=ediv_cases (x:=x) hy
 obtain ⟨l,ca,hc,hl,hv,rfl⟩:=ha
 obtain ⟨n,cb,hd,hlr,hw,rfl⟩:=hb
 obtain ⟨c1,t1⟩:=zTrim l ca (by omega)
 obtain ⟨c2,t2⟩:=zTrim n cb (by omega)
 have l1:=trimL_le l
 have l2:=trimL_le n
 have k1:=trimL_canon hc.1
 have k2:=trimL_canon hd.1
 have v1:=(val_trimL l).trans hv
 have v2:=(val_trimL n).trans hw
 have hn0:(trimL n).length≠0:=by
  intro e
  have:=List.length_eq_zero_iff.1 e
  rw [this] at v2
  have:Limb.val []=0:=rfl
  omega
 obtain ⟨q,r,cq,cr,q1,r1,q2,r2,q3,r3,t3⟩:=hdiv (trimL l) (trimL n) c1 c2 k1 k2 (by omega) (by omega) v1 v2
 rw [v1,v2] at q3 r3
 obtain ⟨vq,hvq,t4⟩:=zMake (decide (x<0) != decide (y<0)) q cq q1.1 (by omega) (len_fits q1.1 q2)
 obtain ⟨vr,hvr,t5⟩:=zMake (decide (x<0)) r cr r1.1 (by omega) (len_fits r1.1 r2)
 rw [q3] at hvq
 rw [r3] at hvr
 have s1:=zSign hvr
 have hneg:decide ((sgnZ (decide (x<0)) (x.natAbs%y.natAbs)).sign<0)=decide (x.natAbs%y.natAbs≠0∧x<0):=by
  have:(sgnZ (decide (x<0)) (x.natAbs%y.natAbs)).sign<0↔sgnZ (decide (x<0)) (x.natAbs%y.natAbs)<0:=Int.sign_neg_iff
  rw [decide_eq_decide,this]
  unfold sgnZ
  simp only [decide_eq_true_eq]
  split<;>omega
 have hclo:vq.closed=true∧vr.closed=true:=⟨hvq.closed,hvr.closed⟩
 have hvq0:=hvq
 have hvr0:=hvr
 obtain ⟨lq,dq,iq1,iq2,iq3,rfl⟩:=hvq
 obtain ⟨lr,dr,ir1,ir2,ir3,rfl⟩:=hvr
 have hb3:(!(decide (x<0) == decide (y<0)))=(decide (x<0) != decide (y<0)):=rfl
 by_cases hcase:x.natAbs%y.natAbs≠0∧x<0
 ·rw [if_pos hcase] at hq0 hr0
  rw [decide_eq_true hcase] at hneg
  obtain ⟨vn,hvn,t6⟩:=zMake false (trimL n) c2 k2.1 (by omega) (len_fits k2.1 (by omega))
  have en:sgnZ false (Limb.val (trimL n))=(y.natAbs:Int):=by rw [v2];rfl
  rw [en] at hvn
  have hrf:(x%y).natAbs<BIG:=by
   have h1:=Int.emod_nonneg x hy
   have h2:=Int.emod_lt x hy
   have h3:=hb0.fits
   omega
  obtain ⟨vs,hvs,t7⟩:=zAdd hvr0 hvn (by rw [←hr0];exact hrf)
  rw [←hr0] at hvs
  obtain ⟨v1',hv1',t8⟩:=zSmall 1 (by omega) (by omega)
  have s2:=zSign hb0
  obtain ⟨ln,dn,_,_,_,rfl⟩:=hvn
  have hvs0:=hvs
  obtain ⟨ls,ds,_,_,_,rfl⟩:=hvs
  by_cases hyn:y<0
  ·rw [if_pos hyn] at hq0
   obtain ⟨vt,hvt,t9⟩:=zAdd hvq0 hv1' (by rw [←hq0];exact hf)
   rw [←hq0] at hvt
   have hvt0:=hvt
   obtain ⟨lt,dt,_,_,_,rfl⟩:=hvt
   obtain ⟨lo,dO,_,_,_,rfl⟩:=hv1'
   refine ⟨_,_,hvt0,hvs0,?_⟩
   have hsy:decide (y.sign<0)=true:=decide_eq_true (Int.sign_neg_iff.2 hyn)
   refine Ret_of mixed Tryz.func119 comp119 _ 61 res119 nt119 (by simp) (by simp) ?_
   simp only [c119,r119_0,r119_1,SS,forall_const,reduceCtorEq,reduceIte,qZ,qQ,qX]
   refine callA_pure t1 ?_
   simp only [SS,forall_const,reduceIte,qZ,qQ,qX]
   refine callA_pure t2 ?_
   simp only [SS,reduceIte,qQ]
   refine ⟨rfl,?_⟩
   simp only [r119_2,SS,reduceIte,qQ]
   refine ⟨fun h=>absurd h (by omega),fun _=>?_⟩
   simp only [r119_4,SS,reduceIte,qQ]
   refine callA_pure t3 ?_
   simp only [SS,reduceIte,qQ,qR,qS]
   simp only [r119_5,SS,forall_const,reduceIte,qZ,qQ,qX,hb3]
   refine callA_pure t4 ?_
   simp only [SS,forall_const,reduceIte,qZ,qQ,qX]
   refine callA_pure t5 ?_
   simp only [SS,reduceIte,qZ,qQ,qX]
   refine ⟨rfl,?_⟩
   simp only [r119_6,SS,reduceIte,qZ,qQ,qX]
   refine callA_pure s1 ?_
   simp only [SS,forall_const,reduceIte,qQ,hneg]
   simp only [r119_7,SS,reduceIte,qZ,qQ,qX]
   refine callA_pure t6 ?_
   simp only [SS,reduceIte,qQ]
   refine callA_pure t7 ?_
   simp only [SS,reduceIte,qZ,qQ,qX]
   refine ⟨rfl,?_⟩
   simp only [r119_8,SS,reduceIte,qZ,qQ,qX]
   refine callA_pure s2 ?_
   simp only [SS,forall_const,reduceIte,qQ,hsy]
   simp only [r119_9,SS,reduceIte,qZ,qQ,qX]
   refine callA_pure t8 ?_
   simp only [SS,reduceIte,qQ]
   refine callA_pure t9 ?_
   simp only [SS,reduceIte,qZ,qQ,qX]
   refine ⟨rfl,?_⟩
   exact ⟨.inl trivial,_,rfl,.drop _ _ rfl (by intro i cs h;omega)⟩
  ·rw [if_neg hyn] at hq0
   obtain ⟨vt,hvt,t9⟩:=zSub hvq0 hv1' (by rw [←hq0];exact hf)
   rw [←hq0] at hvt
   have hvt0:=hvt
   obtain ⟨lt,dt,_,_,_,rfl⟩:=hvt
   obtain ⟨lo,dO,_,_,_,rfl⟩:=hv1'
   refine ⟨_,_,hvt0,hvs0,?_⟩
   have hsy:decide (y.sign<0)=false:=decide_eq_false (fun h=>hyn (Int.sign_neg_iff.1 h))
   refine Ret_of mixed Tryz.func119 comp119 _ 61 res119 nt119 (by simp) (by simp) ?_
   simp only [c119,r119_0,r119_1,SS,forall_const,reduceCtorEq,reduceIte,qZ,qQ,qX]
   refine callA_pure t1 ?_
   simp only [SS,forall_const,reduceIte,qZ,qQ,qX]
   refine callA_pure t2 ?_
   simp only [SS,reduceIte,qQ]
   refine ⟨rfl,?_⟩
   simp only [r119_2,SS,reduceIte,qQ]
   refine ⟨fun h=>absurd h (by omega),fun _=>?_⟩
   simp only [r119_4,SS,reduceIte,qQ]
   refine callA_pure t3 ?_
   simp only [SS,reduceIte,qQ,qR,qS]
   simp only [r119_5,SS,forall_const,reduceIte,qZ,qQ,qX,hb3]
   refine callA_pure t4 ?_
   simp only [SS,forall_const,reduceIte,qZ,qQ,qX]
   refine callA_pure t5 ?_
   simp only [SS,reduceIte,qZ,qQ,qX]
   refine ⟨rfl,?_⟩
   simp only [r119_6,SS,reduceIte,qZ,qQ,qX]
   refine callA_pure s1 ?_
   simp only [SS,forall_const,reduceIte,qQ,hneg]
   simp only [r119_7,SS,reduceIte,qZ,qQ,qX]
   refine callA_pure t6 ?_
   simp only [SS,reduceIte,qQ]
   refine callA_pure t7 ?_
   simp only [SS,reduceIte,qZ,qQ,qX]
   refine ⟨rfl,?_⟩
   simp only [r119_8,SS,reduceIte,qZ,qQ,qX]
   refine callA_pure s2 ?_
   simp only [SS,forall_const,reduceIte,qQ,hsy]
   simp only [r119_10,SS,reduceIte,qZ,qQ,qX]
   refine callA_pure t8 ?_
   simp only [SS,reduceIte,qQ]
   refine callA_pure t9 ?_
   simp only [SS,reduceIte,qZ,qQ,qX]
   refine ⟨rfl,?_⟩
   exact ⟨.inl trivial,_,rfl,.drop _ _ rfl (by intro i cs h;omega)⟩
 ·rw [if_neg hcase] at hq0 hr0
  rw [decide_eq_false hcase] at hneg
  rw [←hq0] at hvq0
  rw [←hr0] at hvr0
  refine ⟨_,_,hvq0,hvr0,?_⟩
  rw [hq0,hr0]
  refine Ret_of mixed Tryz.func119 comp119 _ 61 res119 nt119 (by simp) (by simp) ?_
  simp only [c119,r119_0,r119_1,SS,forall_const,reduceCtorEq,reduceIte,qZ,qQ,qX]
  refine callA_pure t1 ?_
  simp only [SS,forall_const,reduceIte,qZ,qQ,qX]
  refine callA_pure t2 ?_
  simp only [SS,reduceIte,qQ]
  refine ⟨rfl,?_⟩
  simp only [r119_2,SS,reduceIte,qQ]
  refine ⟨fun h=>absurd h (by omega),fun _=>?_⟩
  simp only [r119_4,SS,reduceIte,qQ]
  refine callA_pure t3 ?_
  simp only [SS,reduceIte,qQ,qR,qS]
  simp only [r119_5,SS,forall_const,reduceIte,qZ,qQ,qX,hb3]
  refine callA_pure t4 ?_
  simp only [SS,forall_const,reduceIte,qZ,qQ,qX]
  refine callA_pure t5 ?_
  simp only [SS,reduceIte,qZ,qQ,qX]
  refine ⟨rfl,?_⟩
  simp only [r119_6,SS,reduceIte,qZ,qQ,qX]
  refine callA_pure s1 ?_
  simp only [SS,forall_const,reduceIte,qQ,hneg]
  simp only [r119_11,SS,reduceIte,qZ,qQ,qX]
  refine ⟨rfl,?_⟩
  exact ⟨.inl trivial,_,rfl,.drop _ _ rfl (by intro i cs h;omega)⟩
theorem zQuo {x y:Int} {a b:AV} (ha:IsInt x a) (hb:IsInt y b) (hy:y≠0) (hdiv:∀m n c d,Canon m→Canon n→m.length≤1100→n.length≤1100→val m=x.natAbs→val n=y.natAbs→DivC m n c d) (hf:(x/y).natAbs<BIG):
  ∃v,IsInt (x/y) v∧Ret Tryz.prog G 65 [a,b] [] v []:=by
 obtain ⟨v,w,hv,hw,t⟩:=zDivMod ha hb hy hdiv hf
 obtain ⟨l,ca,_,_,_,rfl⟩:=ha
 obtain ⟨n,cb,_,_,_,rfl⟩:=hb
 have hv0:=hv
 obtain ⟨lv,cv,_,_,_,rfl⟩:=hv
 obtain ⟨lw,cw,_,_,_,rfl⟩:=hw
 refine ⟨_,hv0,?_⟩
 refine Ret_of mixed Tryz.func65 comp65 _ 16 res65 nt65 (by simp) (by simp) ?_
 simp only [c65,r65_0,r65_1,SS,reduceCtorEq,reduceIte,qZ,qQ,qX]
 refine callA_pure t ?_
 simp only [SS,reduceIte,qZ,qQ,qX,qR,qS]
 simp only [r65_2,SS,reduceIte,qZ,qQ,qX]
 exact ⟨.inl trivial,_,rfl,.drop _ _ rfl (by intro i cs h;omega)⟩
def RowC:List Int→List AV→Prop
 | [],[]=>True
 | z::r,u::v::cs=>IsInt z (.agg [u,v])∧RowC r cs
 | _,_=>False
theorem rowC_len:∀{r:List Int} {cs:List AV},RowC r cs→cs.length=r.length*2
 | [],[],_=>rfl
 | _::_,_::_::_,h=>by have:=rowC_len h.2;simp [this];omega
 | [],_::_,h=>h.elim
 | _::_,[],h=>h.elim
 | _::_,[_],h=>h.elim
theorem rowC_get:∀{r:List Int} {cs:List AV},RowC r cs→∀j,j<r.length→∃u v,(cs.drop (j*2)).take 2=[u,v]∧IsInt (r.getD j 0) (.agg [u,v])
 | [],[],_,j,hj=>absurd hj (by simp)
 | z::r,u::v::cs,h,0,_=>⟨u,v,rfl,h.1⟩
 | z::r,u::v::cs,h,j+1,hj=>by
  obtain ⟨a,b,h1,h2⟩:=rowC_get h.2 j (by simpa using hj)
  refine ⟨a,b,?_,by simpa using h2⟩
  rw [show (j+1)*2=j*2+2 by omega]
  exact h1
 | [],_::_,h,_,_=>h.elim
 | _::_,[],h,_,_=>h.elim
 | _::_,[_],h,_,_=>h.elim
theorem rowC_set:∀{r:List Int} {cs:List AV},RowC r cs→∀j z u v,j<r.length→IsInt z (.agg [u,v])→RowC (r.set j z) (setL cs (j*2) [u,v])
 | [],[],_,j,_,_,_,hj,_=>absurd hj (by simp)
 | z::r,u::v::cs,h,0,y,a,b,_,hy=>⟨hy,h.2⟩
 | z::r,u::v::cs,h,j+1,y,a,b,hj,hy=>by
  have:=rowC_set h.2 j y a b (by simpa using hj) hy
  rw [show (j+1)*2=j*2+2 by omega]
  exact ⟨h.1,this⟩
 | [],_::_,h,_,_,_,_,_,_=>h.elim
 | _::_,[],h,_,_,_,_,_,_=>h.elim
 | _::_,[_],h,_,_,_,_,_,_=>h.elim
theorem rowC_snoc:∀{r:List Int} {cs:List AV},RowC r cs→∀z u v,IsInt z (.agg [u,v])→RowC (r++[z]) (cs++[u,v])
 | [],[],_,z,u,v,h=>⟨h,trivial⟩
 | _::_,_::_::_,h,z,u,v,hz=>⟨h.1,rowC_snoc h.2 z u v hz⟩
 | [],_::_,h,_,_,_,_=>h.elim
 | _::_,[],h,_,_,_,_=>h.elim
 | _::_,[_],h,_,_,_,_=>h.elim
theorem rowC_frz:∀{r:List Int} {cs:List AV},RowC r cs→∀m d H,cs.mapM (frzI m H (d+1))=some cs:=by
 intro r cs h m d H
 refine frz_flat (fun a ha=>?_)
 induction r generalizing cs with
 | nil=>
  cases cs with
  | nil=>simp at ha
  | cons _ _=>exact h.elim
 | cons z r ih=>
  match cs,h with
  | u::v::cs,h=>
   obtain ⟨⟨l,c,_,_,_,e⟩,h2⟩:=h
   injection e with e
   injection e with e1 e2
   injection e2 with e2 _
   rcases List.mem_cons.1 ha with h | h
   ·rw [h,e1];rfl
   ·rcases List.mem_cons.1 h with h | h
    ·rw [h,e2];rfl
    ·exact ih h2 h
theorem rowC_closed:∀{r:List Int} {cs:List AV},RowC r cs→qA cs=true:=by
 intro r
 induction r with
 | nil=>
  intro cs h
  cases cs with
  | nil=>rfl
  | cons _ _=>exact h.elim
 | cons z r ih=>
  intro cs h
  match cs,h with
  | u::v::cs,h=>
   obtain ⟨⟨l,c,_,_,_,e⟩,h2⟩:=h
   injection e with e
   injection e with e1 e2
   injection e2 with e2 _
   rw [e1,e2]
   show qA cs=true
   exact ih h2
theorem rowC_scal:∀{r:List Int} {cs:List AV},RowC r cs→AV.scalL cs=true:=by
 intro r
 induction r with
 | nil=>
  intro cs h
  cases cs with
  | nil=>rfl
  | cons _ _=>exact h.elim
 | cons z r ih=>
  intro cs h
  match cs,h with
  | u::v::cs,h=>
   obtain ⟨⟨l,c,_,_,_,e⟩,h2⟩:=h
   injection e with e
   injection e with e1 e2
   injection e2 with e2 _
   rw [e1,e2]
   show AV.scalL cs=true
   exact ih h2
def IsRowV (r:List Int) (a:AV):Prop:= ∃cs c,a= .vec cs r.length c∧RowC r cs
def MatV (M:List (List Int)) (a:AV):Prop:= ∃rows c,a= .vec rows M.length c∧rows.length=M.length∧∀i,i<M.length→IsRowV (M.getD i []) (rows.getD i .junk)
def ShapeOK (M:List (List Int)):Prop:=1≤M.length∧M.length≤16∧∀i,i<M.length→1≤(M.getD i []).length∧(M.getD i []).length≤16∧(M.getD i []).length=(M.getD 0 []).length
theorem mShape {M:List (List Int)} {a:AV} (h:MatV M a) (hs:ShapeOK M):Ret Tryz.prog G 85 [a] [] (.tup [.int .i64 (M.length:Nat),.int .i64 ((M.getD 0 []).length:Nat),.bool true]) []:=by
 obtain ⟨rows,c,rfl,hl,hr⟩:=h
 obtain ⟨h1,h2,h3⟩:=hs
 have d1:decide ((M.length:Int)<1)=false:=decide_eq_false (by omega)
 have d2:decide ((16:Int)<(M.length:Nat))=false:=decide_eq_false (by omega)
 obtain ⟨cs0,c0,e0,r0⟩:=hr 0 (by omega)
 refine Ret_of mixed Tryz.func85 comp85 _ 45 res85 nt85 (by simp) (by simp) ?_
 simp only [c85,r85_0,r85_1,SS,forall_const,reduceCtorEq,reduceIte,qQ,d1,d2]
 simp only [r85_3,SS,reduceCtorEq,reduceIte,qQ]
 refine W_loop (fun k E H=>∃i,i+k=M.length∧E 0= .vec rows M.length c∧E 15= .vec rows M.length c∧E 16= .int .i64 (M.length:Nat)∧E 17= .int .i64 (i:Nat)∧H=[]) (n:=M.length) ⟨0,by omega,by simp only [upd_app,argsE_app,qY,qQ,if_false],by simp only [upd_app,argsE_app,qK,qQ,reduceIte,if_false],by simp only [upd_app,argsE_app,qK,qQ,reduceIte,if_false],by simp only [upd_app,argsE_app,qK,qQ,reduceIte,if_false];rfl,rfl⟩ ?_
 rintro k E H ⟨i,hik,h0,h15,h16,h17,rfl⟩
 refine wpC_sound mixed ?_
 simp only [l85_0,r85_4,SS,reduceCtorEq,reduceIte,h16,h17]
 refine ⟨fun hlt=>?_,fun hge=>?_⟩
 ·obtain ⟨k,rfl⟩:∃k',k=k'+1:=⟨k-1,by omega⟩
  obtain ⟨csi,ci,ei,ri⟩:=hr i (by omega)
  obtain ⟨g1,g2,g3⟩:=h3 i (by omega)
  have d3:decide (((M.getD i []).length:Int)<1)=false:=decide_eq_false (by omega)
  have d4:decide ((16:Int)<((M.getD i []).length:Nat))=false:=decide_eq_false (by omega)
  have d5:decide (((M.getD i []).length:Int)≠((M.getD 0 []).length:Nat))=false:=decide_eq_false (by omega)
  have w5:IntKind.i64.wrap ((i:Int)+1)=((i+1:Nat):Int):=by rw [show (i:Int)+1=((i+1:Nat):Int) by omega];exact w64 (by omega) (by omega)
  simp only [r85_5,r85_6,r85_8,SS,forall_const,reduceCtorEq,reduceIte,qQ,h0,h15,h17,qW,Int.toNat_zero,ei,e0,hl,d3,d4,d5,w5]
  refine ⟨⟨by omega,by omega⟩,by omega,⟨by omega,by omega⟩,by omega,?_⟩
  refine ⟨k,_,_,by omega,⟨i+1,by omega,?_,?_,?_,?_,rfl⟩,.refl⟩<;>simp only [upd_app,qQ,reduceIte,if_false, *]
 ·simp only [r85_9,SS,forall_const,reduceCtorEq,reduceIte,qQ,h0,Int.toNat_zero,e0,hl]
  refine ⟨⟨by omega,by omega⟩,by omega,rfl,?_⟩
  exact ⟨.inl trivial,_,rfl,.drop _ _ rfl (by intro i cs h;omega)⟩
theorem getB_app {H X:Heap} {i:Nat} (h:i<H.length):getB (H++X) i=getB H i:=by
 unfold getB;rw [qH h]
theorem getB_snoc {H:Heap} {cs:List AV} {X:Heap}:getB (H++some cs::X) H.length=some cs:=by
 unfold getB;rw [qU (qL _)];simp
theorem getB_set_ne {H:Heap} {i j:Nat} {x:Option (List AV)} (h:i≠j):getB (H.set i x) j=getB H j:=by
 unfold getB;rw [yQ h]
theorem getB_set_eq {H:Heap} {i:Nat} {cs:List AV} (h:i<H.length):getB (H.set i (some cs)) i=some cs:=by
 unfold getB;rw [xA h]
theorem getB_lt' {H:Heap} {i:Nat} {cs:List AV} (h:getB H i=some cs):i<H.length:=getB_lt h
def slRow (n:Nat) (p:Nat×Option Nat):AV:= .sl p.1 0 n 2 p.2
structure MatH (H:Heap) (o:Nat) (ps:List (Nat×Option Nat)) (n:Nat) (M:List (List Int)):Prop where
 outer:getB H o=some (ps.map (slRow n))
 len:ps.length=M.length
 cols:∀i,i<M.length→(M.getD i []).length=n
 rows:∀i,i<M.length→∃cs,getB H (ps.getD i (0,none)).1=some cs∧RowC (M.getD i []) cs
 nodup:(o::ps.map (·.1)).Nodup
def RowPart (H:Heap) (r:List Int) (a:AV) (bad:List Nat):Prop:=
 (r=[]∧a= .vec [] 0 (some 0))∨(r≠[]∧∃id cs,a= .sl id 0 r.length 2 none∧getB H id=some cs∧RowC r cs∧id∉bad)
theorem app_row {H:Heap} {r:List Int} {a:AV} {bad:List Nat} {z:Int} {u v:AV} {t fr n0:Nat} (h:RowPart H r a bad) (hz:IsInt z (.agg [u,v])) (ht:getB H t=some [u,v]) (hr:r.length<1100) (hfr:fr∉bad) (hfr2:H.length=fr):
  ∃e rd cs,appendA n0 fr H 2 32 a (.sl t 0 1 2 (some 1))=some (.sl fr 0 (r.length+1) 2 none,e,rd)∧RowC (r++[z]) cs∧getB (applyE e (H++[none])) fr=some cs∧(applyE e (H++[none])).length=H.length+1∧
   (∀i∈bad,i<H.length→getB (applyE e (H++[none])) i=getB H i)∧(∀i∈keys e,i=fr∨∃n c,a= .sl i 0 n 2 c)∧(∀i∈rd,i=t∨∃n c,a= .sl i 0 n 2 c):=by
 have hs:AV.scalL [u,v]=true:=rowC_scal (r:=[z]) (cs:=[u,v]) ⟨hz,trivial⟩
 have hel:elems H 2 1 (.sl t 0 1 2 (some 1))=some ([u,v],[t]):=by
  simp [elems,ht,need]
 rcases h with ⟨rfl,rfl⟩ | ⟨hne,id,cs,rfl,hg,hc,hb⟩
 ·refine ⟨[(fr,some [u,v])],[t],[u,v],?_,⟨hz,trivial⟩,?_,?_,?_,?_,?_⟩
  ·simp only [appendA,lenA,xB,hel]
   simp [need]
  ·simp only [applyE]
   rw [qC _ _ (by omega),←hfr2,xG]
   exact getB_snoc
  ·simp [applyE]
  ·intro i hi hlt
   simp only [applyE]
   rw [getB_set_ne (by intro e;exact hfr (e ▸ hi)),getB_app hlt]
  ·intro i hi
   simp [keys] at hi
   exact .inl hi
  ·intro i hi
   simp at hi
   exact .inl hi
 ·have hlt:=getB_lt' hg
  have hl:=rowC_len hc
  refine ⟨[(id,none),(fr,some (cs++[u,v]))],[id,t],cs++[u,v],?_,rowC_snoc hc z u v hz,?_,?_,?_,?_,?_⟩
  ·have e1:¬((none:Option Nat)=some r.length):=by simp
   have e2:id≠fr:=by omega
   have b1:4*(r.length+1)*32≤2^48:=by
    have:(2:Nat)^48=281474976710656:=rfl
    omega
   have b2:r.length+1<2^62:=by
    have:(2:Nat)^62=4611686018427387904:=rfl
    omega
   simp only [appendA,lenA,xB,hel,hg,need,xP,if_false,true_and,hl,qL,b1,b2,and_self,if_true,e1,yC,hs,e2,ne_eq,not_false_eq_true]
   rw [qB (by omega)]
  ·simp only [applyE]
   rw [getB_set_eq (by simp;omega)]
  ·simp [applyE]
  ·intro i hi hlt2
   simp only [applyE]
   rw [getB_set_ne (by intro e;exact hfr (e ▸ hi)),getB_set_ne (by intro e;exact hb (e ▸ hi)),getB_app hlt2]
  ·intro i hi
   simp [keys] at hi
   rcases hi with h | h
   ·exact .inr ⟨_,_,by rw [h]⟩
   ·exact .inl h
  ·intro i hi
   simp at hi
   rcases hi with h | h
   ·exact .inr ⟨_,_,by rw [h]⟩
   ·exact .inl h
theorem set_snoc {α:Type} {H:List α} {x y:α}:(H++[x]).set H.length y=H++[y]:=by
 rw [qC _ _ (qL _),xG];rfl
theorem getB_snoc0 {H:Heap} {cs:List AV}:getB (H++[some cs]) H.length=some cs:=getB_snoc
def cpOne (i:Nat) (st:Heap×AV) (p:List AV×List AV):Heap×AV:=
 match appendA 0 (st.1.length+1+1) (st.1++[some p.1]++[some p.2]) 2 32 st.2 (.sl (st.1.length+1) 0 1 2 (some 1)) with
 | some (v,e,_)=>((applyE e (st.1++[some p.1]++[some p.2]++[none])).set 0 (some (((getB (applyE e (st.1++[some p.1]++[some p.2]++[none])) 0).getD []).set i v)),v)
 | none=>st
structure CpOK (i:Nat) (oc:List AV) (ids:List Nat) (H0:Heap) (r:List Int) (st:Heap×AV):Prop where
 part:RowPart st.1 r st.2 (0::ids)
 outer:getB st.1 0=some (oc.set i st.2)
 keep:∀id∈ids,getB st.1 id=getB H0 id
 len:H0.length≤st.1.length
theorem cpOne_ok {i:Nat} {oc:List AV} {ids:List Nat} {H0:Heap} {r:List Int} {st:Heap×AV} {x:List AV} {u v:AV} {z:Int} (hids:∀id∈ids,id<H0.length∧id≠0) (h:CpOK i oc ids H0 r st) (hi:i<oc.length) (hz:IsInt z (.agg [u,v])) (hr:r.length<1100):
  CpOK i oc ids H0 (r++[z]) (cpOne i st (x,[u,v]))∧∃e rd,appendA 0 (st.1.length+1+1) (st.1++[some x]++[some [u,v]]) 2 32 st.2 (.sl (st.1.length+1) 0 1 2 (some 1))=some ((cpOne i st (x,[u,v])).2,e,rd)∧
   getB (applyE e (st.1++[some x]++[some [u,v]]++[none])) 0=some (oc.set i st.2)∧(cpOne i st (x,[u,v])).1=(applyE e (st.1++[some x]++[some [u,v]]++[none])).set 0 (some (oc.set i (cpOne i st (x,[u,v])).2))∧∃id n,(cpOne i st (x,[u,v])).2= .sl id 0 n 2 none:=by
 obtain ⟨hp,hg,hkeep,hlen⟩:=h
 have h0lt:0<st.1.length:=getB_lt' hg
 have hl2:(st.1++[some x]++[some [u,v]]).length=st.1.length+1+1:=by simp
 have hk2:∀y,y<st.1.length→getB (st.1++[some x]++[some [u,v]]) y=getB st.1 y:=by
  intro y hy;rw [yW,getB_app hy]
 have hp2:RowPart (st.1++[some x]++[some [u,v]]) r st.2 (0::ids):=by
  rcases hp with ⟨h1,h2⟩ | ⟨h1,id,cs',h2,h3,h4,h5⟩
  ·exact .inl ⟨h1,h2⟩
  ·exact .inr ⟨h1,id,cs',h2,by rw [hk2 _ (getB_lt' h3)];exact h3,h4,h5⟩
 have ht2:getB (st.1++[some x]++[some [u,v]]) (st.1.length+1)=some [u,v]:=by
  have:st.1.length+1=(st.1++[some x]).length:=by simp
  rw [this];exact getB_snoc0
 have hfb:st.1.length+1+1∉0::ids:=by
  intro hm
  rcases List.mem_cons.1 hm with h | h
  ·omega
  ·have:=(hids _ h).1;omega
 obtain ⟨e,rd,cs',hap,hrow,hfr,hl3,hsame,hke,hrd⟩:=app_row (n0:=0) (fr:=st.1.length+1+1) hp2 hz ht2 hr hfb hl2
 have g3:getB (applyE e (st.1++[some x]++[some [u,v]]++[none])) 0=some (oc.set i st.2):=by
  rw [hsame 0 (by simp) (by omega),hk2 0 h0lt];exact hg
 have hc:cpOne i st (x,[u,v])=((applyE e (st.1++[some x]++[some [u,v]]++[none])).set 0 (some (oc.set i (.sl (st.1.length+1+1) 0 (r.length+1) 2 none))),.sl (st.1.length+1+1) 0 (r.length+1) 2 none):=by
  unfold cpOne
  rw [hap]
  simp only [g3,Option.getD_some,yY]
 rw [hc]
 refine ⟨⟨.inr ⟨by simp,_,cs',by simp,?_,hrow,hfb⟩,?_,?_,?_⟩,e,rd,hap,g3,rfl,_,_,rfl⟩
 ·show getB (List.set _ 0 _) _=_
  rw [getB_set_ne (by omega)];exact hfr
 ·show getB (List.set _ 0 _) _=_
  rw [getB_set_eq (by omega)]
 ·intro id hid
  show getB (List.set _ 0 _) _=_
  have:=hids id hid
  rw [getB_set_ne (by omega),hsame id (by simp [hid]) (by omega),hk2 id (by omega)]
  exact hkeep id hid
 ·show _≤(List.set _ 0 _).length
  rw [xV];omega
def Pairs:List Int→List AV→List (List AV×List AV)→Prop
 | [],[],[]=>True
 | z::r,a::b::cs,(x,y)::l=>x=[a,b]∧(∃u v,y=[u,v]∧IsInt z (.agg [u,v]))∧IsInt z (.agg [a,b])∧Ret Tryz.prog G 76 [.agg x] [] (.agg y) []∧Pairs r cs l
 | _,_,_=>False
theorem pairs_mk:∀{r:List Int} {cs:List AV},RowC r cs→∃l,Pairs r cs l:=by
 intro r
 induction r with
 | nil=>
  intro cs h
  cases cs with
  | nil=>exact ⟨[],trivial⟩
  | cons _ _=>exact h.elim
 | cons z r ih=>
  intro cs h
  match cs,h with
  | a::b::cs,h=>
   obtain ⟨l,hl⟩:=ih h.2
   obtain ⟨w,hw,t⟩:=zNormalize h.1
   have hw0:=hw
   obtain ⟨lw,cw,_,_,_,rfl⟩:=hw0
   exact ⟨([a,b],_)::l,rfl,⟨_,_,rfl,hw⟩,h.1,t,hl⟩
theorem pairs_len:∀{r:List Int} {cs:List AV} {l:List (List AV×List AV)},Pairs r cs l→l.length=r.length
 | [],[],[],_=>rfl
 | _::_,_::_::_,(_,_)::_,h=>by have:=pairs_len h.2.2.2.2;simp [this]
 | [],[],_::_,h=>h.elim
 | [],_::_,_,h=>by cases ‹List (List AV×List AV)› <;> exact h.elim
 | _::_,[],_,h=>by cases ‹List (List AV×List AV)› <;> exact h.elim
 | _::_,[_],_,h=>by cases ‹List (List AV×List AV)› <;> exact h.elim
 | _::_,_::_::_,[],h=>h.elim
theorem pairs_get:∀{r:List Int} {cs:List AV} {l:List (List AV×List AV)},Pairs r cs l→∀j,j<r.length→∃a b u v,(cs.drop (j*2)).take 2=[a,b]∧l[j]?=some ([a,b],[u,v])∧IsInt (r.getD j 0) (.agg [a,b])∧IsInt (r.getD j 0) (.agg [u,v])∧
  Ret Tryz.prog G 76 [.agg [a,b]] [] (.agg [u,v]) []:=by
 intro r
 induction r with
 | nil=>intro cs l _ j hj;exact absurd hj (by simp)
 | cons z r ih=>
  intro cs l h j hj
  match cs,l,h with
  | a::b::cs,(x,y)::l,h=>
   obtain ⟨rfl,⟨u,v,rfl,hu⟩,ha,t,hl⟩:=h
   cases j with
   | zero=>exact ⟨a,b,u,v,rfl,rfl,ha,hu,t⟩
   | succ j=>
    obtain ⟨a',b',u',v',h1,h2,h3,h4,h5⟩:=ih hl j (by simpa using hj)
    refine ⟨a',b',u',v',?_,by simpa using h2,by simpa using h3,by simpa using h4,h5⟩
    rw [show (j+1)*2=j*2+2 by omega]
    exact h1
def cpRow (i:Nat) (st:Heap×AV) (l:List (List AV×List AV)):Heap×AV:=l.foldl (cpOne i) st
theorem foldl_take {α β:Type} (f:β→α→β) (b:β) (l:List α) (j:Nat) (x:α) (h:l[j]?=some x):(l.take (j+1)).foldl f b=f ((l.take j).foldl f b) x:=by
 rw [yU,h]
 simp
theorem cpRow_ok {i:Nat} {oc:List AV} {ids:List Nat} {H0:Heap} {r:List Int} {cs:List AV} {l:List (List AV×List AV)} (hids:∀id∈ids,id<H0.length∧id≠0) (h00:getB H0 0=some oc) (hi:i<oc.length) (hoci:oc.getD i .junk= .vec [] 0 (some 0))
  (hp:Pairs r cs l) (hr:r.length<1100):∀j,j≤r.length→CpOK i oc ids H0 (r.take j) (cpRow i (H0,.vec [] 0 (some 0)) (l.take j)):=by
 intro j
 induction j with
 | zero=>
  intro _
  refine ⟨.inl ⟨rfl,rfl⟩,?_,fun _ _=>rfl,qL _⟩
  show getB H0 0=some (oc.set i (.vec [] 0 (some 0)))
  rw [h00]
  have:oc.set i (.vec [] 0 (some 0))=oc:=by
   rw [←hoci,qJ,qV hi]
   simp
  rw [this]
 | succ j ih=>
  intro hj
  obtain ⟨a,b,u,v,_,h2,_,h4,_⟩:=pairs_get hp j (by omega)
  have:=(cpOne_ok (x:=[a,b]) hids (ih (by omega)) hi h4 (by rw [xM];omega)).1
  unfold cpRow at this ⊢
  rw [foldl_take _ _ _ _ _ h2]
  have htk:r.take j++[r.getD j 0]=r.take (j+1):=by
   rw [yU,qJ,qV (by omega)];rfl
  rw [htk] at this
  exact this
theorem mCopy_in {r:List Int} {cs:List AV} {c:Option Nat} {l:List (List AV×List AV)} (hpr:Pairs r cs l) (hr:RowC r cs) (hn:r.length≤16) {arg:AV} {i N:Nat} {oc:List AV} (hoc:oc.length=N) (hi:i<N) (hN:N≤16) {ids:List Nat} {H0:Heap} (h00:getB H0 0=some oc)
  (hoci:oc.getD i .junk= .vec [] 0 (some 0)) (hids:∀id∈ids,id<H0.length∧id≠0) {v10:AV} {E:Env} {Q:Post} (e0:E 0=arg) (e3:E 3= .sl 0 0 N 1 (some N)) (e4:E 4= .int .i64 (i:Nat)) (e10:E 10=v10) (e11:E 11= .int .i64 (N:Nat))
  (e12:E 12= .int .i64 (i:Nat)) (e18:E 18= .vec cs r.length c) (e19:E 19= .int .i64 (r.length:Nat)) (e20:E 20= .int .i64 0)
  (hQ:∀E',E' 0=arg→E' 3= .sl 0 0 N 1 (some N)→E' 10=v10→E' 11= .int .i64 (N:Nat)→E' 12= .int .i64 (i:Nat)→Q (.exit 2) E' (cpRow i (H0,.vec [] 0 (some 0)) l).1):
  W Tryz.prog G 0 38 (.loop l34_1) E H0 Q:=by
 have hall:=cpRow_ok hids h00 (by omega) hoci hpr (by omega)
 refine W_loop (fun k E H=>∃j,j+k=r.length∧H=(cpRow i (H0,.vec [] 0 (some 0)) (l.take j)).1∧E 0=arg∧E 3= .sl 0 0 N 1 (some N)∧E 4= .int .i64 (i:Nat)∧E 10=v10∧
  E 11= .int .i64 (N:Nat)∧E 12= .int .i64 (i:Nat)∧E 18= .vec cs r.length c∧E 19= .int .i64 (r.length:Nat)∧E 20= .int .i64 (j:Nat)) (n:=r.length) ⟨0,by omega,rfl,e0,e3,e4,e10,e11,e12,e18,e19,e20⟩ ?_
 rintro k E H ⟨j,hjk,hH,e0,e3,e4,e10,e11,e12,e18,e19,e20⟩
 refine wpC_sound mixed ?_
 simp only [l34_1,r34_6,SS,reduceIte,e19,e20]
 refine ⟨fun hlt=>?_,fun hge=>?_⟩
 ·obtain ⟨k,rfl⟩:∃k',k=k'+1:=⟨k-1,by omega⟩
  obtain ⟨u,v,x,y,hu,hl,hz,hw,tn⟩:=pairs_get hpr j (by omega)
  have hok:=hall j (by omega)
  obtain ⟨hok2,e,rd,hap,g3,hH4,idn,nn,hv2⟩:=cpOne_ok (x:=[u,v]) hids hok (by omega) hw (by rw [xM];omega)
  have hnext:cpRow i (H0,.vec [] 0 (some 0)) (l.take (j+1))=cpOne i (cpRow i (H0,.vec [] 0 (some 0)) (l.take j)) ([u,v],[x,y]):=foldl_take _ _ _ _ _ hl
  generalize cpRow i (H0,.vec [] 0 (some 0)) (l.take j)=st at*
  subst hH
  obtain ⟨hp,hg,hkeep,hlen⟩:=hok
  have hscz:AV.scalL [u,v]=true:=rowC_scal (r:=[r.getD j 0]) (cs:=[u,v]) ⟨hz,trivial⟩
  obtain ⟨lz,cz,_,_,_,ez⟩:=hz
  injection ez with ez
  injection ez with ez1 ez2
  injection ez2 with ez2 _
  obtain ⟨lw,cw,_,_,_,ew⟩:=hw
  injection ew with ew
  injection ew with ew1 ew2
  injection ew2 with ew2 _
  subst ez1 ez2 ew1 ew2
  have hcl:=rowC_len hr
  have h0lt:0<st.1.length:=getB_lt' hg
  have w5:IntKind.i64.wrap ((j:Int)+1)=((j+1:Nat):Int):=by rw [show (j:Int)+1=((j+1:Nat):Int) by omega];exact w64 (by omega) (by omega)
  simp only [r34_7,SS,reduceIte,qZ,qQ,qX,e18,e20,qW,hcl,hu,getB_snoc0,set_snoc]
  refine ⟨⟨by omega,by omega⟩,by omega,?_⟩
  have g0:getB (st.1++[some [AV.bool (decide (r.getD j 0<0)),AV.vec (u32s lz) lz.length cz]]) 0=some (oc.set i st.2):=by rw [getB_app h0lt];exact hg
  have ga:(oc.set i st.2).getD i AV.junk=st.2:=by
   rw [qJ,xA (by omega)];rfl
  simp only [r34_8,SS,forall_const,reduceIte,qZ,qQ,qX,e3,e4,qW,g0,ga,xV,hoc,getB_snoc0]
  refine ⟨⟨by omega,by omega⟩,by omega,?_⟩
  refine callA_pure tn ?_
  simp only [SS,reduceIte,qZ,qQ,qX,len_snoc]
  rw [hap]
  simp only [SS,g3,qW,xV,hoc,hv2]
  refine ⟨⟨by omega,by omega⟩,by omega,by simp [dynB,disjL],?_⟩
  simp only [r34_9,SS,reduceIte,qQ,e20,w5]
  refine ⟨k,_,_,by omega,⟨j+1,by omega,?_,?_,?_,?_,?_,?_,?_,?_,?_,?_⟩,.refl⟩
  ·rw [hnext,hH4,hv2,yY]
  all_goals simp only [upd_app,qQ,reduceIte,if_false, *]
 ·have hk:j=r.length:=by omega
  subst hk
  have hl:=pairs_len hpr
  rw [qB (by omega)] at hH
  rw [hH]
  exact hQ _ (by simp only [upd_app,qQ,if_false, *]) (by simp only [upd_app,qQ,if_false, *]) (by simp only [upd_app,qQ,if_false, *]) (by simp only [upd_app,qQ,if_false, *]) (by simp only [upd_app,qQ,if_false, *])
abbrev nilV:AV:= .vec [] 0 (some 0)
def cpM (N:Nat) (ls:List (List (List AV×List AV))):Nat→Heap
 | 0=>[some (List.replicate N nilV)]
 | i+1=>(cpRow i (cpM N ls i,nilV) (ls.getD i [])).1
structure CpM (N n:Nat) (M:List (List Int)) (H:Heap) (i:Nat) (ps:List (Nat×Option Nat)):Prop where
 len:ps.length=i
 outer:getB H 0=some (ps.map (slRow n)++List.replicate (N-i) nilV)
 rows:∀i',i'<i→∃cs,getB H (ps.getD i' (0,none)).1=some cs∧RowC (M.getD i' []) cs
 nodup:(0::ps.map (·.1)).Nodup
 lt:∀p∈ps,p.1<H.length
theorem cpM_oc {N n i:Nat} {ps:List (Nat×Option Nat)} (hl:ps.length=i) (hi:i<N):(ps.map (slRow n)++List.replicate (N-i) nilV).getD i .junk=nilV:=by
 rw [qJ,qU (by simp;omega),xL,if_pos (by simp;omega)];rfl
theorem cpM_ids {N n i:Nat} {M:List (List Int)} {H:Heap} {ps:List (Nat×Option Nat)} (h:CpM N n M H i ps):∀id∈ps.map (·.1),id<H.length∧id≠0:=by
 intro id hid
 have hn:=h.nodup
 rw [qD] at hn
 refine ⟨?_,fun e=>hn.1 (e ▸ hid)⟩
 obtain ⟨p,hp,rfl⟩:=List.mem_map.1 hid
 exact h.lt p hp
theorem cpM_ok {N n:Nat} {M:List (List Int)} {cf:Nat→List AV} {ls:List (List (List AV×List AV))} (hn:1≤n∧n≤16) (hc:∀i,i<N→(M.getD i []).length=n) (hls:∀i,i<N→Pairs (M.getD i []) (cf i) (ls.getD i [])):
  ∀i,i≤N→∃ps,CpM N n M (cpM N ls i) i ps:=by
 intro i
 induction i with
 | zero=>
  intro _
  refine ⟨[],rfl,?_,fun _ h=>absurd h (by omega),by simp,by simp⟩
  simp [cpM,getB]
 | succ i ih=>
  intro hi
  obtain ⟨ps,h⟩:=ih (by omega)
  have hri:=hc i (by omega)
  have hok:=cpRow_ok (cpM_ids h) h.outer (by simp [h.len];omega) (cpM_oc h.len (by omega)) (hls i (by omega)) (by omega) (M.getD i []).length (qL _)
  rw [yA,qB (by rw [pairs_len (hls i (by omega))];omega)] at hok
  obtain ⟨hp,hg,hkeep,hlen⟩:=hok
  rcases hp with ⟨h1,_⟩ | ⟨_,id,cs,hid,hb,hrow,hnm⟩
  ·rw [h1] at hri;simp at hri;omega
  ·rw [hri] at hid
   have hnm2:id≠0∧id∉ps.map (·.1):=⟨fun e=>hnm (by simp [e]),fun hm=>hnm (by simp only [xK];exact .inr hm)⟩
   refine ⟨ps++[(id,none)],by simp [h.len],?_,?_,?_,?_⟩
   ·show getB (cpRow i (cpM N ls i,nilV) (ls.getD i [])).1 0=_
    rw [hg,hid]
    have e:List.replicate (N-i) nilV=nilV::List.replicate (N-(i+1)) nilV:=by
     rw [←xD];congr 1;omega
    rw [e,qC _ _ (by simp [h.len])]
    simp [h.len,slRow]
   ·intro i' hi'
    show ∃cs,getB (cpRow i (cpM N ls i,nilV) (ls.getD i [])).1 _=some cs∧_
    rcases xU i' i with hlt | hge
    ·obtain ⟨cs',h1,h2⟩:=h.rows i' hlt
     refine ⟨cs',?_,h2⟩
     have e:(ps++[(id,none)]).getD i' (0,none)=ps.getD i' (0,none):=by
      rw [qJ,qH (by rw [h.len];exact hlt),qJ]
     rw [e,hkeep _ (by
      rw [qJ,qV (by rw [h.len];exact hlt)]
      exact List.mem_map.2 ⟨_,yB _,rfl⟩)]
     exact h1
    ·have e:i'=i:=by omega
     subst e
     refine ⟨cs,?_,hrow⟩
     have e:(ps++[(id,(none:Option Nat))]).getD i' (0,none)=(id,none):=by
      rw [qJ,qU (by rw [h.len];exact qL _),h.len,xG];rfl
     rw [e]
     exact hb
   ·rw [List.map_append]
    have hn0:=h.nodup
    rw [qD] at hn0 ⊢
    refine ⟨?_,?_⟩
    ·intro hm
     rcases List.mem_append.1 hm with hm | hm
     ·exact hn0.1 hm
     ·simp at hm;exact hnm2.1 hm.symm
    ·rw [List.nodup_append]
     refine ⟨hn0.2,by simp,?_⟩
     intro x hx y hy
     simp at hy
     subst hy
     intro e
     exact hnm2.2 (e ▸ hx)
   ·intro p hp
    rcases List.mem_append.1 hp with hp | hp
    ·have:=h.lt p hp
     exact xQ this hlen
    ·simp at hp
     subst hp
     exact getB_lt' hb
theorem mCopy {M:List (List Int)} {a:AV} {n:Nat} (h:MatV M a) (hn:1≤n∧n≤16) (hN:M.length≤16) (hc:∀i,i<M.length→(M.getD i []).length=n):
  ∃ps H',MatH H' 0 ps n M∧Ret Tryz.prog G 34 [a] [] (.sl 0 0 M.length 1 (some M.length)) H':=by
 obtain ⟨rows,c,rfl,hl,hr⟩:=h
 have hex:∀i,i<M.length→∃l cs c,rows.getD i .junk= .vec cs (M.getD i []).length c∧RowC (M.getD i []) cs∧Pairs (M.getD i []) cs l:=by
  intro i hi
  obtain ⟨cs,c,h1,h2⟩:=hr i hi
  obtain ⟨l,hl⟩:=pairs_mk h2
  exact ⟨l,cs,c,h1,h2,hl⟩
 have hch:∃(ls:List (List (List AV×List AV))) (cf:Nat→List AV),∀i,i<M.length→(∃c,rows.getD i .junk= .vec (cf i) (M.getD i []).length c)∧RowC (M.getD i []) (cf i)∧Pairs (M.getD i []) (cf i) (ls.getD i []):=by
  refine ⟨(List.range M.length).map fun i=>if h:i<M.length then Classical.choose (hex i h) else [],fun i=>if h:i<M.length then Classical.choose (Classical.choose_spec (hex i h)) else [],fun i hi=>?_⟩
  obtain ⟨c,h1,h2,h3⟩:=Classical.choose_spec (Classical.choose_spec (hex i hi))
  have e:((List.range M.length).map fun i=>if h:i<M.length then Classical.choose (hex i h) else []).getD i []=Classical.choose (hex i hi):=by
   rw [qJ,xX,List.getElem?_range hi]
   simp [hi]
  rw [e]
  simp only [hi,dif_pos]
  exact ⟨⟨c,h1⟩,h2,h3⟩
 obtain ⟨ls,cf,hls⟩:=hch
 have hall:=cpM_ok (N:=M.length) (cf:=cf) hn hc (fun i hi=>(hls i hi).2.2)
 obtain ⟨ps,hps⟩:=hall M.length (qL _)
 refine ⟨ps,cpM M.length ls M.length,⟨?_,hps.len,hc,hps.rows,hps.nodup⟩,?_⟩
 ·have:=hps.outer
  rw [xG,xC,xO] at this
  exact this
 refine Ret_of mixed Tryz.func34 comp34 _ 38 res34 nt34 (by simp) (by simp) ?_
 simp only [c34,r34_0,r34_1,SS,forall_const,reduceCtorEq,reduceIte,implies_true,qZ,qQ,qX,qW]
 refine ⟨by omega,⟨by omega,by omega,by omega,by omega⟩,?_⟩
 simp only [r34_2,SS,forall_const,reduceCtorEq,reduceIte,implies_true,qZ,qQ,qX]
 refine W_loop (fun k E H=>∃i,i+k=M.length∧H=cpM M.length ls i∧E 0= .vec rows M.length c∧E 3= .sl 0 0 M.length 1 (some M.length)∧E 10= .vec rows M.length c∧E 11= .int .i64 (M.length:Nat)∧E 12= .int .i64 (i:Nat)) (n:=M.length) ⟨0,by omega,rfl,?_,?_,?_,?_,?_⟩ ?_
 ·simp only [upd_app,argsE_app,qY,qK,qQ,reduceIte,if_false]
 ·simp only [upd_app,argsE_app,qY,qK,qQ,reduceIte,if_false]
 ·simp only [upd_app,argsE_app,qY,qK,qQ,reduceIte,if_false]
 ·simp only [upd_app,argsE_app,qY,qK,qQ,reduceIte,if_false]
 ·simp only [upd_app,argsE_app,qY,qK,qQ,reduceIte,if_false];rfl
 rintro k E H ⟨i,hik,rfl,e0,e3,e10,e11,e12⟩
 refine wpC_sound mixed ?_
 simp only [l34_0,r34_3,SS,forall_const,reduceCtorEq,reduceIte,implies_true,qZ,qQ,qX,e11,e12]
 refine ⟨fun hlt=>?_,fun hge=>?_⟩
 ·obtain ⟨k,rfl⟩:∃k',k=k'+1:=⟨k-1,by omega⟩
  obtain ⟨⟨ci,hci⟩,hrow,hpi⟩:=hls i (by omega)
  obtain ⟨qs,hqs⟩:=hall i (by omega)
  have w5:IntKind.i64.wrap ((i:Int)+1)=((i+1:Nat):Int):=by rw [show (i:Int)+1=((i+1:Nat):Int) by omega];exact w64 (by omega) (by omega)
  simp only [r34_4,r34_5,SS,forall_const,reduceCtorEq,reduceIte,implies_true,qZ,qQ,qX,e0,e12,qW,hci,hl]
  refine ⟨⟨by omega,by omega⟩,by omega,?_⟩
  refine mCopy_in (c:=ci) hpi hrow (by rw [hc i (by omega)];omega) (N:=M.length) (i:=i) (by simp [hqs.len];omega) (by omega) hN hqs.outer (cpM_oc hqs.len (by omega)) (cpM_ids hqs) (v10:= .vec rows M.length c) (arg:= .vec rows M.length c) ?_ ?_ ?_ ?_ ?_ ?_ ?_ ?_ ?_ (fun E1 f0 f3 f10 f11 f12=>?rest)
  case rest=>
   simp only [r34_10,SS,forall_const,reduceCtorEq,reduceIte,implies_true,qZ,qQ,qX,f12,w5]
   refine ⟨k,_,_,by omega,⟨i+1,by omega,rfl,?_,?_,?_,?_,?_⟩,.refl⟩<;>simp only [upd_app,argsE_app,qY,qK,qQ,reduceIte,if_false, *]
  all_goals simp only [upd_app,argsE_app,qY,qK,qQ,reduceIte,if_false, *]
 ·have hk:i=M.length:=by omega
  subst hk
  simp only [r34_11,SS,forall_const,reduceCtorEq,reduceIte,implies_true,qZ,qQ,qX,e3]
  exact ⟨.inl trivial,_,rfl,.keep _ _⟩
end Go.Proofs.YtenboapacjlmoaaGreatDoor
namespace Go.Proofs.YtenboapacjlmoaaGreatDoor
open Nat renaming reduceEqDiff → qQ, reduceLeDiff → qX, reduceAdd → qZ, le_refl → qL, add_sub_cancel_left → qN, lt_of_lt_of_le → xQ, add_zero → xE, sub_self → xG, mod_lt → yX
open List renaming getD_eq_getElem?_getD → qJ, getD_cons_succ → qK, getElem?_eq_getElem → qV, getElem?_append_right → qU, take_of_length_le → qB, set_append_right → qC, nodup_cons → qD, getElem_map → qM, length_map → qP, getElem?_map → xX, mem_cons → xK, length_set → xV, getElem?_set_self → xA, replicate_succ → xD, mem_or_eq_of_mem_set → xH, getElem?_set → xI, map_map → xN, getElem?_set_ne → yQ, length_append → yZ, set_set → yY, getElem_mem → yB
open Int renaming toNat_natCast → qW
open Go.AL.AV.closed renaming closedL → qA
open Option renaming bind_eq_some_iff → qE
open Option.some renaming injEq → qI
open Bool renaming and_self → xW
set_option linter.unusedSimpArgs false
set_option linter.unusedVariables false
open Go Go.AL
def ck (B:Nat) (z:Int):Option Int:=if z.natAbs<B then some z else none
def ent (M:List (List Int)) (i j:Nat):Int:=(M.getD i []).getD j 0
def setM (M:List (List Int)) (i j:Nat) (z:Int):List (List Int):=M.set i ((M.getD i []).set j z)
def newE (B:Nat) (M:List (List Int)) (k i j:Nat) (last:Int):Option Int:=
 if last=0 then none else (ck B last).bind fun _=>(ck B (ent M k k*ent M i j)).bind fun p=>(ck B (ent M i k*ent M k j)).bind fun q=>(ck B (p-q)).bind fun s=>ck B (s/last)
def elJ (B k i:Nat) (last:Int):Nat→Nat→List (List Int)→Option (List (List Int))
 | 0,_,M=>some M
 | m+1,j,M=>(newE B M k i j last).bind fun z=>elJ B k i last m (j+1) (setM M i j z)
def elI (B n k:Nat) (last:Int):Nat→Nat→List (List Int)→Option (List (List Int))
 | 0,_,M=>some M
 | m+1,i,M=>(elJ B k i last (n-(k+1)) (k+1) M).bind fun M'=>elI B n k last m (i+1) M'
def piv (M:List (List Int)) (k:Nat):Nat→Nat→Nat
 | 0,p=>p
 | m+1,p=>if ent M p k=0 then piv M k m (p+1) else p
def swapM (M:List (List Int)) (p k:Nat):List (List Int):=(M.set p (M.getD k [])).set k (M.getD p [])
def detG (B n:Nat):Nat→Nat→List (List Int)→Int→Bool→Option Int
 | 0,_,_,last,neg=>some (if neg then -last else last)
 | m+1,k,M,last,neg=>if piv M k (n-k) k=n then some 0 else
  (elI B n k last (n-(k+1)) (k+1) (if k<piv M k (n-k) k then swapM M (piv M k (n-k) k) k else M)).bind fun M2=>detG B n m (k+1) M2 (ent M2 k k) (if k<piv M k (n-k) k then !neg else neg)
def detO (B:Nat) (M:List (List Int)):Option Int:=detG B M.length M.length 0 M 1 false
theorem ck_some {B:Nat} {z y:Int} (h:ck B z=some y):y=z∧z.natAbs<B:=by
 unfold ck at h
 split at h
 ·simp at h;exact ⟨h.symm,by assumption⟩
 ·simp at h
theorem newE_some {B:Nat} {M:List (List Int)} {k i j:Nat} {last z:Int} (h:newE B M k i j last=some z):last≠0∧last.natAbs<B∧(ent M k k*ent M i j).natAbs<B∧(ent M i k*ent M k j).natAbs<B∧(ent M k k*ent M i j-ent M i k*ent M k j).natAbs<B∧
  z=(ent M k k*ent M i j-ent M i k*ent M k j)/last∧z.natAbs<B:=by
 unfold newE at h
 split at h
 ·simp at h
 ·rename_i h0
  simp only [qE] at h
  obtain ⟨l,h1,p,h2,q,h3,s,h4,h5⟩:=h
  obtain ⟨_,k1⟩:=ck_some h1
  obtain ⟨rfl,k2⟩:=ck_some h2
  obtain ⟨rfl,k3⟩:=ck_some h3
  obtain ⟨rfl,k4⟩:=ck_some h4
  obtain ⟨rfl,k5⟩:=ck_some h5
  exact ⟨h0,k1,k2,k3,k4,rfl,k5⟩
theorem setM_len (M:List (List Int)) (i j:Nat) (z:Int):(setM M i j z).length=M.length:=by simp [setM]
theorem piv_le {M:List (List Int)} {k:Nat}:∀{m p:Nat},p≤piv M k m p∧piv M k m p≤p+m:=by
 intro m
 induction m with
 | zero=>intro p;simp [piv]
 | succ m ih=>
  intro p
  simp only [piv]
  split
  ·have:=ih (p:=p+1);omega
  ·omega
theorem piv_ne {M:List (List Int)} {k:Nat}:∀{m p:Nat},piv M k m p<p+m→ent M (piv M k m p) k≠0:=by
 intro m
 induction m with
 | zero=>intro p h;simp only [piv] at h;omega
 | succ m ih=>
  intro p h
  simp only [piv] at h ⊢
  split
  ·rename_i h0
   rw [if_pos h0] at h
   exact ih (by omega)
  ·assumption
def selR (M:List (List Int)) (i:Nat) (cs:List Nat):List Int:=cs.map fun j=>ent M i j
def selM (M:List (List Int)) (rs cs:List Nat):List (List Int):=rs.map fun i=>selR M i cs
def minK (M:List (List Int)) (k:Nat):List (List Int):=selM M (List.range k++[k]) (List.range k++[k])
def leadL (B:Nat) (M:List (List Int)):Nat→Option (List Int)
 | 0=>some []
 | k+1=>(leadL B M k).bind fun l=>(detO B (minK M k)).bind fun d=>(ck B d).bind fun d=>some (l++[d])
def leadO (B:Nat) (M:List (List Int)):Option (List Int):=leadL B M M.length
theorem leadL_len {B:Nat} {M:List (List Int)}:∀{k:Nat} {l:List Int},leadL B M k=some l→l.length=k:=by
 intro k
 induction k with
 | zero=>intro l h;simp only [leadL,qI] at h;rw [←h];rfl
 | succ k ih=>
  intro l h
  simp only [leadL,qE,qI] at h
  obtain ⟨l0,h1,d,_,d',_,rfl⟩:=h
  simp [ih h1]
theorem leadL_pre {B:Nat} {M:List (List Int)}:∀{k m:Nat} {l:List Int},leadL B M (k+m)=some l→leadL B M k=some (l.take k):=by
 intro k m
 induction m with
 | zero=>intro l h;have:=leadL_len h;rw [qB (by omega)];exact h
 | succ m ih=>
  intro l h
  have h':leadL B M ((k+m)+1)=some l:=h
  simp only [leadL,qE,qI] at h'
  obtain ⟨l0,h1,d,_,d',_,rfl⟩:=h'
  rw [ih h1,List.take_append_of_le_length (by rw [leadL_len h1];omega)]
def symB (M:List (List Int)):Bool:=(List.range M.length).all fun i=>(List.range i).all fun j=>decide (ent M i j=ent M j i)
theorem symB_true {M:List (List Int)}:symB M=true↔∀i,i<M.length→∀j,j<i→ent M i j=ent M j i:=by
 unfold symB
 simp only [List.all_eq_true,List.mem_range,decide_eq_true_eq]
def defB (M:List (List Int)) (ds:List Int):Bool:=symB M && ds.all fun d=>decide (0<d)
theorem leadL_fits {B:Nat} {M:List (List Int)}:∀{k:Nat} {l:List Int},leadL B M k=some l→∀z∈l,z.natAbs<B:=by
 intro k
 induction k with
 | zero=>intro l h;simp only [leadL,qI] at h;rw [←h];simp
 | succ k ih=>
  intro l h z hz
  simp only [leadL,qE,qI] at h
  obtain ⟨l0,h1,d,_,d',hck,rfl⟩:=h
  rcases List.mem_append.1 hz with e | e
  ·exact ih h1 z e
  ·simp at e
   have:=(ck_some hck)
   rw [e,this.1];exact this.2
def valZ (M:List (List Int)) (ds:List Int):Int:=if symB M=false then 4 else if defB M ds=false then 5 else 0
def minorZ (ds:List Int) (k:Nat):Int:=if k=0 then 1 else ds.getD (k-1) 0
def lamM (M:List (List Int)) (i j:Nat):List (List Int):=selM M (List.range j++[i]) (List.range j++[j])
def lamO (B:Nat) (M:List (List Int)) (i j:Nat):Option Int:=(detO B (lamM M i j)).bind (ck B)
def sizedO (B:Nat) (M:List (List Int)) (ds:List Int) (i j:Nat):Option Bool:=(lamO B M i j).bind fun l=>(ck B (2*l)).bind fun _=>some (decide (2*(l.natAbs:Int)≤minorZ ds (j+1)))
def lovO (B:Nat) (M:List (List Int)) (ds:List Int) (i:Nat):Option Bool:=(lamO B M i (i-1)).bind fun l=>(ck B (minorZ ds (i-1)*minorZ ds (i+1))).bind fun p=>(ck B (l*l)).bind fun q=>(ck B (p+q)).bind fun s=>(ck B (4*s)).bind fun x=>
 (ck B (minorZ ds i*minorZ ds i)).bind fun r=>(ck B (3*r)).bind fun y=>some (decide (y≤x))
theorem lamO_some {B:Nat} {M:List (List Int)} {i j:Nat} {l:Int} (h:lamO B M i j=some l):detO B (lamM M i j)=some l∧l.natAbs<B:=by
 unfold lamO at h
 rw [qE] at h
 obtain ⟨d,h1,h2⟩:=h
 obtain ⟨rfl,h3⟩:=ck_some h2
 exact ⟨h1,h3⟩
open Go.Proofs Go.Limb
set_option maxRecDepth 100000
def DivB (B:Nat):Prop:=B≤BIG∧∀x y:Int,x.natAbs<B→y.natAbs<B→y≠0→∀m n c d,Canon m→Canon n→m.length≤1100→n.length≤1100→val m=x.natAbs→val n=y.natAbs→DivC m n c d
def pid (ps:List (Nat×Option Nat)) (i:Nat):Nat:=(ps.getD i (0,none)).1
theorem mat_outer {ps:List (Nat×Option Nat)} {n i:Nat} (hi:i<ps.length):(ps.map (slRow n)).getD i .junk= .sl (pid ps i) 0 n 2 (ps.getD i (0,none)).2:=by
 rw [qJ,xX,qV hi]
 simp [slRow,pid,qJ,hi]
theorem mat_get {H:Heap} {o n:Nat} {ps:List (Nat×Option Nat)} {M:List (List Int)} (h:MatH H o ps n M) {i:Nat} (hi:i<M.length):∃cs,getB H (pid ps i)=some cs∧cs.length=n*2∧RowC (M.getD i []) cs∧
  ∀j,j<n→∃u v,(cs.drop (j*2)).take 2=[u,v]∧IsInt (ent M i j) (.agg [u,v]):=by
 obtain ⟨cs,h1,h2⟩:=h.rows i hi
 have hl:=rowC_len h2
 rw [h.cols i hi] at hl
 refine ⟨cs,h1,hl,h2,fun j hj=>?_⟩
 exact rowC_get h2 j (by rw [h.cols i hi];exact hj)
theorem pid_mem {ps:List (Nat×Option Nat)} {i:Nat} (hi:i<ps.length):pid ps i∈ps.map (·.1):=by
 unfold pid
 rw [qJ,qV hi]
 exact List.mem_map.2 ⟨_,yB _,rfl⟩
theorem pid_inj {ps:List (Nat×Option Nat)} (hn:(ps.map (·.1)).Nodup) {i j:Nat} (hi:i<ps.length) (hj:j<ps.length) (h:pid ps i=pid ps j):i=j:=by
 unfold pid at h
 rw [qJ,qV hi,qJ,qV hj] at h
 have key:=List.pairwise_iff_getElem.1 hn
 rcases Nat.lt_trichotomy i j with hlt | he | hlt
 ·exact absurd (by rw [qM,qM];exact h) (key i j (by simpa using hi) (by simpa using hj) hlt)
 ·exact he
 ·exact absurd (by rw [qM,qM];exact h.symm) (key j i (by simpa using hj) (by simpa using hi) hlt)
theorem mat_set {H:Heap} {o n:Nat} {ps:List (Nat×Option Nat)} {M:List (List Int)} (h:MatH H o ps n M) {i j:Nat} (hi:i<M.length) (hj:j<n) {z:Int} {u v:AV} (hz:IsInt z (.agg [u,v])) {cs:List AV} (hcs:getB H (pid ps i)=some cs):
  MatH (H.set (pid ps i) (some (setL cs (j*2) [u,v]))) o ps n (setM M i j z):=by
 have hnd:=h.nodup
 rw [qD] at hnd
 have hoi:pid ps i≠o:=fun e=>hnd.1 (e ▸ pid_mem (by rw [h.len];exact hi))
 refine ⟨by rw [getB_set_ne hoi];exact h.outer,by rw [setM_len];exact h.len,?_,?_,h.nodup⟩
 ·intro i' hi'
  rw [setM_len] at hi'
  unfold setM
  rw [qJ,xI]
  split
  ·rename_i e
   subst e
   show ((M.getD i []).set j z).length=n
   rw [xV];exact h.cols i hi
  ·rw [←qJ]
   exact h.cols i' hi'
 ·intro i' hi'
  rw [setM_len] at hi'
  by_cases e:i=i'
  ·subst e
   obtain ⟨cs',h1,h2⟩:=h.rows i hi
   have:cs'=cs:=by
    have:=h1.symm.trans hcs
    simpa using this
   subst this
   refine ⟨_,getB_set_eq (getB_lt' hcs),?_⟩
   unfold setM
   rw [qJ,xA hi]
   exact rowC_set h2 j z u v (by rw [h.cols i hi];exact hj) hz
  ·obtain ⟨cs',h1,h2⟩:=h.rows i' hi'
   refine ⟨cs',?_,?_⟩
   ·show getB (List.set H (pid ps i) _) (pid ps i')=_
    rw [getB_set_ne (fun e'=>e (pid_inj hnd.2 (by rw [h.len];exact hi) (by rw [h.len];exact hi') e'))]
    exact h1
   ·unfold setM
    rw [qJ,yQ e,←qJ]
    exact h2
structure DS (n:Nat) (M:List (List Int)) (last:Int) (neg:Bool) (k:Nat) (E:Env) (H:Heap) (ps:List (Nat×Option Nat)) (b:Nat):Prop where
 mat:MatH H 1 ps n M
 rows:M.length=n
 e2:E 2= .ptr 0 0
 e3:E 3= .sl 1 0 n 1 (some n)
 e4:E 4= .int .i64 (n:Nat)
 e5:E 5= .ptr b 0
 e6:E 6= .bool neg
 e7:E 7= .int .i64 (k:Nat)
 last:∃u v,getB H b=some [u,v]∧IsInt last (.agg [u,v])
 res:∃u v,getB H 0=some [u,v]
 nodup:(0::b::1::ps.map (·.1)).Nodup
theorem DS.frame {n k b:Nat} {M:List (List Int)} {last:Int} {neg:Bool} {E E':Env} {H:Heap} {ps:List (Nat×Option Nat)} (h:DS n M last neg k E H ps b) (hE:∀t,t<8→E' t=E t):DS n M last neg k E' H ps b:=
 ⟨h.mat,h.rows,(hE 2 (by omega)).trans h.e2,(hE 3 (by omega)).trans h.e3,(hE 4 (by omega)).trans h.e4,(hE 5 (by omega)).trans h.e5,(hE 6 (by omega)).trans h.e6,(hE 7 (by omega)).trans h.e7,h.last,h.res,h.nodup⟩
theorem upd_lo {E:Env} {d:Nat} {v:AV} {t:Nat} (ht:t<8) (hd:8≤d):upd E d v t=E t:=by
 unfold upd;rw [if_neg (by omega)]
theorem intCells {z:Int} {u v:AV} (h:IsInt z (.agg [u,v])):∃l c,u= .bool (decide (z<0))∧v= .vec (u32s l) l.length c:=by
 obtain ⟨l,c,_,_,_,e⟩:=h
 injection e with e
 injection e with e1 e2
 injection e2 with e2 _
 exact ⟨l,c,e1,e2⟩
theorem mDetJ {B n k i b:Nat} {last:Int} {neg:Bool} (hB:DivB B) (hn:n≤16) (hk:k<n) (hi:k<i∧i<n) {fin:List (List Int)} {Q:Post}:∀{E:Env} {H:Heap} {ps:List (Nat×Option Nat)} {M:List (List Int)},
  DS n M last neg k E H ps b→E 9= .int .i64 (i:Nat)→E 10= .int .i64 ((k+1:Nat):Int)→elJ B k i last (n-(k+1)) (k+1) M=some fin→
  (∀E' H',DS n fin last neg k E' H' ps b→E' 9= .int .i64 (i:Nat)→Q (.exit 6) E' H')→W Tryz.prog G 0 125 (.loop l75_3) E H Q:=by
 intro E H ps M hD h9 h10 hf hQ
 refine W_loop (fun m E H=>∃j M,j+m=n∧k<j∧DS n M last neg k E H ps b∧E 9= .int .i64 (i:Nat)∧E 10= .int .i64 (j:Nat)∧elJ B k i last m j M=some fin) (n:=n-(k+1)) ⟨k+1,M,by omega,by omega,hD,h9,h10,hf⟩ ?_
 clear hD h9 h10 hf M E H
 rintro m E H ⟨j,M,hjm,hkj,hD,h9,h10,hf⟩
 refine wpC_sound mixed ?_
 obtain ⟨hM,hrows,e2,e3,e4,e5,e6,e7,⟨lu,lv,hlast,hl⟩,⟨ru,rv,hres⟩,hnd⟩:=hD
 simp only [l75_3,r75_17,SS,reduceIte,qQ,e4,h10]
 refine ⟨fun hlt=>?_,fun hge=>?_⟩
 ·obtain ⟨m,rfl⟩:∃m',m=m'+1:=⟨m-1,by omega⟩
  have hj:j<n:=by omega
  simp only [elJ,qE] at hf
  obtain ⟨z,hz,hf⟩:=hf
  obtain ⟨b0,b1,b2,b3,b4,hzz,b5⟩:=newE_some hz
  obtain ⟨csi,gi,li,ri,fi⟩:=mat_get hM (i:=i) (by omega)
  obtain ⟨csk,gk,lk,rk,fk⟩:=mat_get hM (i:=k) (by omega)
  obtain ⟨u1,v1,x1,y1⟩:=fk k hk
  obtain ⟨u2,v2,x2,y2⟩:=fi j hj
  obtain ⟨u3,v3,x3,y3⟩:=fi k hk
  obtain ⟨u4,v4,x4,y4⟩:=fk j hj
  obtain ⟨p,hp,t1⟩:=zMul y1 y2 (xQ b2 hB.1)
  obtain ⟨q,hq,t2⟩:=zMul y3 y4 (xQ b3 hB.1)
  obtain ⟨s,hs,t3⟩:=zSub hp hq (xQ b4 hB.1)
  obtain ⟨d,hd,t4⟩:=zQuo hs hl b0 (hB.2 _ _ b4 b1 b0) (by rw [←hzz];exact xQ b5 hB.1)
  rw [←hzz] at hd
  have oi:=mat_outer (ps:=ps) (n:=n) (i:=i) (by rw [hM.len];omega)
  have ok:=mat_outer (ps:=ps) (n:=n) (i:=k) (by rw [hM.len];omega)
  have hol:(ps.map (slRow n)).length=n:=by rw [qP,hM.len];exact hrows
  have hou:=hM.outer
  have hpc:=hp.closed
  have hqc:=hq.closed
  have hsc:=hs.closed
  have w5:IntKind.i64.wrap ((j:Int)+1)=((j+1:Nat):Int):=by rw [show (j:Int)+1=((j+1:Nat):Int) by omega];exact w64 (by omega) (by omega)
  have hd0:=hd
  obtain ⟨ld,cd,_,_,_,rfl⟩:=hd0
  have hdr:(lu,lv)=(lu,lv):=rfl
  have hlast2:([lu,lv].drop 0).take 2=[lu,lv]:=rfl
  have c1:qA [.agg [u1,v1],.agg [u2,v2]]=true:=by
   simp only [qA,y1.closed,y2.closed,xW]
  have c2:qA [.agg [u3,v3],.agg [u4,v4]]=true:=by
   simp only [qA,y3.closed,y4.closed,xW]
  have c3:qA [p,q]=true:=by simp only [qA,hpc,hqc,xW]
  have c4:qA [s,.agg [lu,lv]]=true:=by simp only [qA,hsc,hl.closed,xW]
  simp only [r75_18,SS,forall_const,reduceIte,qQ,e3,e7,h9,h10,qW,hou,hol,oi,ok,gi,gk,li,lk,x1,x2]
  refine ⟨⟨by omega,by omega⟩,by omega,⟨by omega,by omega⟩,by omega,⟨by omega,by omega⟩,by omega,⟨by omega,by omega⟩,by omega,⟨by omega,by omega⟩,by omega,?_⟩
  refine callA_pure t1 ?_ c1 hpc
  simp only [SS,forall_const,reduceIte,qQ,e3,e7,h9,h10,qW,hou,hol,oi,ok,gi,gk,li,lk,x3,x4]
  refine ⟨⟨by omega,by omega⟩,by omega,⟨by omega,by omega⟩,by omega,⟨by omega,by omega⟩,by omega,⟨by omega,by omega⟩,by omega,?_⟩
  refine callA_pure t2 ?_ c2 hqc
  simp only [SS,reduceIte,qQ]
  refine callA_pure t3 ?_ c3 hsc
  simp only [SS,reduceIte,qZ,qQ,qX,e5,hlast]
  refine callA_pure t4 ?_ c4
  simp only [SS,reduceIte,qZ,qQ,qW,gi,li]
  refine ⟨⟨by omega,by omega⟩,by omega,rfl,?_⟩
  have hs2:((csi.set (j*2) (AV.bool (decide (z<0)))).set (j*2+1) (AV.vec (u32s ld) ld.length cd))=setL csi (j*2) [AV.bool (decide (z<0)),AV.vec (u32s ld) ld.length cd]:=rfl
  rw [hs2]
  simp only [r75_19,SS,reduceIte,qQ,h10,w5]
  have hnd2:=hnd
  simp only [qD,xK,not_or] at hnd2
  have hpi:pid ps i∈ps.map (·.1):=pid_mem (by rw [hM.len];omega)
  have hpi0:pid ps i≠0:=fun e=>hnd2.1.2.2 (e ▸ hpi)
  have hpib:pid ps i≠b:=fun e=>hnd2.2.1.2 (e ▸ hpi)
  refine ⟨m,_,_,by omega,⟨j+1,setM M i j z,by omega,by omega,⟨mat_set hM (by omega) hj hd gi,by rw [setM_len];exact hrows,?_,?_,?_,?_,?_,?_,⟨lu,lv,?_,hl⟩,⟨ru,rv,?_⟩,hnd⟩,?_,?_,hf⟩,.refl⟩
  ·simp only [upd_app,qQ,if_false,e2]
  ·simp only [upd_app,qQ,if_false,e3]
  ·simp only [upd_app,qQ,if_false,e4]
  ·simp only [upd_app,qQ,if_false,e5]
  ·simp only [upd_app,qQ,if_false,e6]
  ·simp only [upd_app,qQ,if_false,e7]
  ·rw [getB_set_ne hpib];exact hlast
  ·rw [getB_set_ne hpi0];exact hres
  ·simp only [upd_app,qQ,if_false,h9]
  ·simp only [upd_app,qQ,reduceIte,if_false]
 ·have hk2:m=0:=by omega
  subst hk2
  simp only [elJ,qI] at hf
  subst hf
  refine hQ _ _ (DS.frame (E:=E) ⟨hM,hrows,e2,e3,e4,e5,e6,e7,⟨lu,lv,hlast,hl⟩,⟨ru,rv,hres⟩,hnd⟩ (fun t ht=>?_)) ?_
  ·repeat rw [upd_lo ht (by decide)]
  ·simp only [upd_app,qQ,if_false,h9]
theorem mDetI {B n k b:Nat} {last:Int} {neg:Bool} (hB:DivB B) (hn:n≤16) (hk:k<n) {fin:List (List Int)} {Q:Post} {E:Env} {H:Heap} {ps:List (Nat×Option Nat)} {M:List (List Int)}
  (hD:DS n M last neg k E H ps b) (h9:E 9= .int .i64 ((k+1:Nat):Int)) (hf:elI B n k last (n-(k+1)) (k+1) M=some fin)
  (hQ:∀E' H',DS n fin last neg k E' H' ps b→Q (.exit 4) E' H'):W Tryz.prog G 0 125 (.loop l75_2) E H Q:=by
 refine W_loop (fun m E H=>∃i M,i+m=n∧k<i∧DS n M last neg k E H ps b∧E 9= .int .i64 (i:Nat)∧elI B n k last m i M=some fin) (n:=n-(k+1)) ⟨k+1,M,by omega,by omega,hD,h9,hf⟩ ?_
 clear hD h9 hf M E H
 rintro m E H ⟨i,M,him,hki,hD,h9,hf⟩
 refine wpC_sound mixed ?_
 have hD0:=hD
 obtain ⟨hM,hrows,e2,e3,e4,e5,e6,e7,hlast,hres,hnd⟩:=hD
 simp only [l75_2,r75_15,SS,reduceIte,qQ,e4,h9]
 refine ⟨fun hlt=>?_,fun hge=>?_⟩
 ·obtain ⟨m,rfl⟩:∃m',m=m'+1:=⟨m-1,by omega⟩
  simp only [elI,qE] at hf
  obtain ⟨M',hf1,hf2⟩:=hf
  have w5:IntKind.i64.wrap ((i:Int)+1)=((i+1:Nat):Int):=by rw [show (i:Int)+1=((i+1:Nat):Int) by omega];exact w64 (by omega) (by omega)
  have w6:IntKind.i64.wrap ((k:Int)+1)=((k+1:Nat):Int):=by rw [show (k:Int)+1=((k+1:Nat):Int) by omega];exact w64 (by omega) (by omega)
  simp only [r75_16,SS,reduceIte,qQ,e7,w6]
  refine mDetJ hB hn hk ⟨hki,by omega⟩ (ps:=ps) (b:=b) (last:=last) (neg:=neg) (i:=i) (hD0.frame (fun t ht=>?_)) ?_ ?_ hf1 (fun E1 H1 hD1 f9=>?rest)
  case rest=>
   simp only [r75_20,SS,reduceIte,qQ,f9,w5]
   refine ⟨m,_,_,by omega,⟨i+1,M',by omega,by omega,hD1.frame (fun t ht=>?_),?_,hf2⟩,.refl⟩
   ·repeat rw [upd_lo ht (by decide)]
   ·simp only [upd_app,qQ,reduceIte,if_false]
  ·repeat rw [upd_lo ht (by decide)]
  ·simp only [upd_app,qQ,if_false,h9]
  ·simp only [upd_app,qQ,reduceIte,if_false]
 ·have hk2:m=0:=by omega
  subst hk2
  simp only [elI,qI] at hf
  subst hf
  refine hQ _ _ (hD0.frame (fun t ht=>?_))
  repeat rw [upd_lo ht (by decide)]
theorem mDetP {n k b:Nat} {last:Int} {neg:Bool} (hn:n≤16) (hk:k<n) {Q:Post} {E:Env} {H:Heap} {ps:List (Nat×Option Nat)} {M:List (List Int)}
  (hD:DS n M last neg k E H ps b) (h8:E 8= .int .i64 (k:Nat))
  (hQ:∀E',DS n M last neg k E' H ps b→E' 8= .int .i64 (piv M k (n-k) k:Nat)→Q (.exit 2) E' H):W Tryz.prog G 0 125 (.loop l75_1) E H Q:=by
 refine W_loop (fun m E H'=>∃p,p+m=n∧k≤p∧H'=H∧DS n M last neg k E H ps b∧E 8= .int .i64 (p:Nat)∧piv M k m p=piv M k (n-k) k) (n:=n-k) ⟨k,by omega,by omega,rfl,hD,h8,rfl⟩ ?_
 clear hD h8 E
 rintro m E H' ⟨p,hpm,hkp,rfl,hD,h8,hp⟩
 refine wpC_sound mixed ?_
 have hD0:=hD
 obtain ⟨hM,hrows,e2,e3,e4,e5,e6,e7,hlast,hres,hnd⟩:=hD
 cases m with
 | zero=>
  have d1:decide ((p:Int)<(n:Nat))=false:=decide_eq_false (by omega)
  simp only [l75_1,r75_7,SS,forall_const,reduceIte,qQ,e4,h8,d1]
  simp only [piv] at hp
  refine hQ _ (hD0.frame (fun t ht=>?_)) ?_
  ·repeat rw [upd_lo ht (by decide)]
  ·simp only [upd_app,qQ,if_false,h8,hp]
 | succ m=>
  have d1:decide ((p:Int)<(n:Nat))=true:=decide_eq_true (by omega)
  obtain ⟨csp,gp,lp,rp,fp⟩:=mat_get hM (i:=p) (by omega)
  obtain ⟨u,v,x,y⟩:=fp k hk
  have op:=mat_outer (ps:=ps) (n:=n) (i:=p) (by rw [hM.len];omega)
  have hol:(ps.map (slRow n)).length=n:=by rw [qP,hM.len];exact hrows
  have hou:=hM.outer
  have t:=zSign y
  have c1:qA [.agg [u,v]]=true:=by simp only [qA,y.closed,xW]
  have w5:IntKind.i64.wrap ((p:Int)+1)=((p+1:Nat):Int):=by rw [show (p:Int)+1=((p+1:Nat):Int) by omega];exact w64 (by omega) (by omega)
  simp only [l75_1,r75_7,SS,forall_const,reduceIte,qQ,e3,e4,e7,h8,d1,qW,hou,hol,op,gp,lp,x]
  refine ⟨⟨by omega,by omega⟩,by omega,⟨by omega,by omega⟩,by omega,?_⟩
  refine callA_pure t ?_ c1
  simp only [SS,forall_const,reduceIte,qQ]
  simp only [piv] at hp
  refine ⟨fun h0=>?_,fun h0=>?_⟩
  ·have h0:ent M p k=0:=Int.sign_eq_zero_iff_zero.1 h0
   rw [if_pos h0] at hp
   simp only [r75_8,SS,reduceIte,qQ,h8,w5]
   refine ⟨m,_,_,by omega,⟨p+1,by omega,by omega,rfl,hD0.frame (fun t ht=>?_),?_,hp⟩,.refl⟩
   ·repeat rw [upd_lo ht (by decide)]
   ·simp only [upd_app,qQ,reduceIte,if_false]
  ·have h0:¬ent M p k=0:=fun e=>h0 (by rw [e];rfl)
   rw [if_neg h0] at hp
   refine hQ _ (hD0.frame (fun t ht=>?_)) ?_
   ·repeat rw [upd_lo ht (by decide)]
   ·simp only [upd_app,qQ,if_false,h8,hp]
def swapP (ps:List (Nat×Option Nat)) (p k:Nat):List (Nat×Option Nat):=(ps.set p (ps.getD k (0,none))).set k (ps.getD p (0,none))
theorem getD_swap {α:Type} {l:List α} {p k i:Nat} {d:α} (hp:p<l.length) (hk:k<l.length):((l.set p (l.getD k d)).set k (l.getD p d)).getD i d=l.getD (if i=k then p else if i=p then k else i) d:=by
 rw [qJ,xI]
 by_cases h1:k=i
 ·subst h1
  rw [if_pos rfl,if_pos (by simpa using hk),if_pos rfl];rfl
 ·rw [if_neg h1,if_neg (fun e=>h1 e.symm),xI]
  by_cases h2:p=i
  ·subst h2
   rw [if_pos rfl,if_pos hp,if_pos rfl];rfl
  ·rw [if_neg h2,if_neg (fun e=>h2 e.symm),qJ]
theorem mat_swap {H:Heap} {o n:Nat} {ps:List (Nat×Option Nat)} {M:List (List Int)} (h:MatH H o ps n M) {p k:Nat} (hp:p<M.length) (hk:k<M.length):
  MatH (H.set o (some (((ps.map (slRow n)).set p (.sl (pid ps k) 0 n 2 (ps.getD k (0,none)).2)).set k (.sl (pid ps p) 0 n 2 (ps.getD p (0,none)).2)))) o (swapP ps p k) n (swapM M p k)∧(∀x,x∈(swapP ps p k).map (·.1)↔x∈ps.map (·.1))∧((swapP ps p k).map (·.1)).Nodup:=by
 have hnd:=h.nodup
 rw [qD] at hnd
 have hlen:=h.len
 have hidx:∀i,i<M.length→(if i=k then p else if i=p then k else i)<M.length:=by
  intro i hi;split
  ·exact hp
  ·split<;>omega
 have hpid:∀i,pid (swapP ps p k) i=pid ps (if i=k then p else if i=p then k else i):=by
  intro i
  unfold pid swapP
  rw [getD_swap (by omega) (by omega)]
 have hsl:(swapP ps p k).length=ps.length:=by simp [swapP]
 have hmem:∀x,x∈(swapP ps p k).map (·.1)↔x∈ps.map (·.1):=by
  intro x
  constructor
  ·intro hx
   obtain ⟨q,hq,rfl⟩:=List.mem_map.1 hx
   unfold swapP at hq
   rcases xH hq with hq | rfl
   ·rcases xH hq with hq | rfl
    ·exact List.mem_map.2 ⟨q,hq,rfl⟩
    ·exact pid_mem (i:=k) (by omega)
   ·exact pid_mem (i:=p) (by omega)
  ·intro hx
   obtain ⟨q,hq,rfl⟩:=List.mem_map.1 hx
   obtain ⟨i,hi,rfl⟩:=List.mem_iff_getElem.1 hq
   have e:=hpid (if i=k then p else if i=p then k else i)
   have e2:(if (if i=k then p else if i=p then k else i)=k then p else if (if i=k then p else if i=p then k else i)=p then k else (if i=k then p else if i=p then k else i))=i:=by
    by_cases h1:i=k
    ·subst h1
     rw [if_pos rfl]
     by_cases h2:p=i
     ·rw [if_pos h2];exact h2
     ·rw [if_neg h2,if_pos rfl]
    ·rw [if_neg h1]
     by_cases h2:i=p
     ·subst h2
      rw [if_pos rfl,if_pos rfl]
     ·rw [if_neg h2,if_neg h1,if_neg h2]
   rw [e2] at e
   have e3:pid ps i=ps[i].1:=by unfold pid;rw [qJ,qV hi];rfl
   rw [←e3,←e]
   exact pid_mem (by rw [hsl,hlen];exact hidx i (by omega))
 have hnd2:((swapP ps p k).map (·.1)).Nodup:=by
  refine List.pairwise_iff_getElem.2 (fun i j hi hj hij=>?_)
  rw [qM,qM]
  simp only [qP,hsl] at hi hj
  have e1:(swapP ps p k)[i]'(by rw [hsl];exact hi)=(swapP ps p k).getD i (0,none):=by rw [qJ,qV (by rw [hsl];exact hi)];rfl
  have e2:(swapP ps p k)[j]'(by rw [hsl];exact hj)=(swapP ps p k).getD j (0,none):=by rw [qJ,qV (by rw [hsl];exact hj)];rfl
  rw [e1,e2]
  intro e
  have e':pid (swapP ps p k) i=pid (swapP ps p k) j:=e
  rw [hpid,hpid] at e'
  have:=pid_inj hnd.2 (by rw [hlen];exact hidx i (by omega)) (by rw [hlen];exact hidx j (by omega)) e'
  revert this
  by_cases h1:i=k
  ·by_cases h3:j=p
   ·rw [if_pos h1,if_neg (show ¬j=k by omega),if_pos h3];omega
   ·rw [if_pos h1,if_neg (show ¬j=k by omega),if_neg h3];omega
  ·by_cases h2:i=p
   ·by_cases h3:j=k
    ·rw [if_neg h1,if_pos h2,if_pos h3];omega
    ·rw [if_neg h1,if_pos h2,if_neg h3,if_neg (show ¬j=p by omega)];omega
   ·by_cases h3:j=k
    ·rw [if_neg h1,if_neg h2,if_pos h3];omega
    ·by_cases h4:j=p
     ·rw [if_neg h1,if_neg h2,if_neg h3,if_pos h4];omega
     ·rw [if_neg h1,if_neg h2,if_neg h3,if_neg h4];omega
 refine ⟨⟨?_,?_,?_,?_,?_⟩,hmem,hnd2⟩
 ·rw [getB_set_eq (getB_lt' h.outer)]
  have e1:AV.sl (pid ps k) 0 n 2 (ps.getD k (0,none)).2=slRow n (ps.getD k (0,none)):=rfl
  have e2:AV.sl (pid ps p) 0 n 2 (ps.getD p (0,none)).2=slRow n (ps.getD p (0,none)):=rfl
  rw [e1,e2,←List.map_set,←List.map_set];rfl
 ·rw [hsl,hlen];simp [swapM]
 ·intro i hi
  have hi:i<M.length:=by simpa [swapM] using hi
  unfold swapM
  rw [getD_swap hp hk]
  exact h.cols _ (hidx i hi)
 ·intro i hi
  have hi:i<M.length:=by simpa [swapM] using hi
  obtain ⟨cs,h1,h2⟩:=h.rows _ (hidx i hi)
  refine ⟨cs,?_,?_⟩
  ·show getB _ (pid (swapP ps p k) i)=_
   have hne:o≠pid ps (if i=k then p else if i=p then k else i):=fun e=>hnd.1 (by rw [e];exact pid_mem (by rw [hlen];exact hidx i hi))
   rw [hpid,getB_set_ne hne]
   exact h1
  ·unfold swapM
   rw [getD_swap hp hk]
   exact h2
 ·rw [qD]
  exact ⟨fun hm=>hnd.1 ((hmem _).1 hm),hnd2⟩
def limbsF:Nat→Nat→List Nat
 | 0,_=>[]
 | f+1,n=>if n=0 then [] else n%4294967296::limbsF f (n/4294967296)
def limbsOf (n:Nat):List Nat:=limbsF n n
theorem limbsF_ok:∀f n,n≤f→Canon (limbsF f n)∧val (limbsF f n)=n:=by
 intro f
 induction f with
 | zero=>intro n h;have:n=0:=by omega
         subst this;exact ⟨Canon.nil,rfl⟩
 | succ f ih=>
  intro n h
  unfold limbsF
  by_cases h0:n=0
  ·rw [if_pos h0,h0];exact ⟨Canon.nil,rfl⟩
  ·rw [if_neg h0]
   obtain ⟨h1,h2⟩:=ih (n/4294967296) (by omega)
   refine ⟨⟨Dig.cons (yX _ (by decide)) h1.1,?_⟩,?_⟩
   ·cases e:limbsF f (n/4294967296) with
    | nil=>
     rw [e] at h2
     have:n/4294967296=0:=h2.symm
     show n%4294967296≠0
     omega
    | cons d r=>
     have:=h1.2
     rw [e] at this
     exact this
   ·rw [Limb.val,h2];omega
theorem limbsOf_canon (n:Nat):Canon (limbsOf n):=(limbsF_ok n n (qL _)).1
theorem val_limbsOf (n:Nat):val (limbsOf n)=n:=(limbsF_ok n n (qL _)).2
def intV (z:Int):AV:= .agg [.bool (decide (z<0)),.vec (u32s (limbsOf z.natAbs)) (limbsOf z.natAbs).length none]
theorem wk_u32s (l:List Nat):AV.wk.wkL (u32s l)=u32s l:=by
 induction l with
 | nil=>rfl
 | cons d l ih=>show AV.wk (.int .u32 d)::AV.wk.wkL (u32s l)=_;rw [ih];rfl
theorem IsInt.wk {z:Int} {a:AV} (h:IsInt z a):a.wk=intV z:=by
 obtain ⟨l,c,hc,_,hv,rfl⟩:=h
 have:l=limbsOf z.natAbs:=canon_inj hc (limbsOf_canon _) (hv.trans (val_limbsOf _).symm)
 subst this
 simp only [AV.wk,AV.wk.wkL,wk_u32s,intV]
theorem intV_isInt {z:Int} (h:z.natAbs<BIG):IsInt z (intV z):=
 ⟨limbsOf z.natAbs,none,limbsOf_canon _,canon_len (limbsOf_canon _) (by rw [val_limbsOf];exact h),val_limbsOf _,rfl⟩
theorem names_nil (k i:Nat):names [] k i=k+i:=by simp [names]
theorem effs_new {H:Heap} (σ:Nat→Nat) (hσ:∀i,σ i=H.length+i):∀(L X:Heap),applyE (effs σ X.length L) (H++(X++List.replicate L.length none))=H++(X++L.map (renB σ)):=by
 intro L
 induction L with
 | nil=>intro X;simp [effs,applyE]
 | cons c L ih=>
  intro X
  simp only [effs,applyE,List.length_cons,xD]
  have e:(H++(X++none::List.replicate L.length none)).set (σ X.length) (renB σ c)=H++((X++[renB σ c])++List.replicate L.length none):=by
   rw [hσ,qC _ _ (by omega),qN,qC _ _ (qL _),xG]
   simp
  rw [e]
  have:=ih (X++[renB σ c])
  rw [yZ,List.length_singleton] at this
  rw [this]
  simp
theorem callA_new {f:FuncId} {args:List AV} {v:AV} {H H0:Heap} {K:AV→Eff→List Nat→Nat→Prop} (h:Ret Tryz.prog G f args [] v H0) (ha:qA args=true)
  (hk:K (v.ren (names [] H.length)) (effs (names [] H.length) 0 H0) [] H0.length):callA Tryz.prog G f args H K:=by
 refine ⟨_,_,_,_,?_,hk⟩
 have:=CallR0.mk (P:= Tryz.prog) (Γ:=G) (f:=f) (args:=args) (k:=H.length) (H:=H++List.replicate H0.length none) [] args [] v H0 h rfl .nil (by simp) (map_ren_closed _ _ ha).symm (underL_closed _ _ ha) (by intro i c h;simp at h)
 exact .base this
theorem getB_new {H L:Heap} {σ:Nat→Nat} {i:Nat} {cs:List AV} (h:getB L i=some cs):getB (H++L.map (renB σ)) (H.length+i)=some (cs.map (AV.ren σ)):=by
 unfold getB at h ⊢
 rw [qU (by omega),qN,xX]
 cases hx:L[i]? with
 | none=>rw [hx] at h;simp at h
 | some c=>
  rw [hx] at h
  cases c with
  | none=>simp at h
  | some c=>simp at h;subst h;rfl
theorem mat_shift {H L:Heap} {n:Nat} {ps:List (Nat×Option Nat)} {M:List (List Int)} (h:MatH L 0 ps n M):MatH (H++L.map (renB (names [] H.length))) H.length (ps.map fun p=>(H.length+p.1,p.2)) n M:=by
 have hp:∀i,i<ps.length→pid (ps.map fun p=>(H.length+p.1,p.2)) i=H.length+pid ps i:=by
  intro i hi
  unfold pid
  rw [qJ,xX,qV hi,qJ,qV hi];rfl
 refine ⟨?_,by rw [qP];exact h.len,h.cols,?_,?_⟩
 ·have:=getB_new (H:=H) (σ:=names [] H.length) h.outer
  rw [xE] at this
  rw [this,xN,xN]
  have e:(AV.ren (names [] H.length) ∘ slRow n)=(slRow n ∘ fun p=>(H.length+p.1,p.2)):=by
   funext p
   simp [slRow,AV.ren,names_nil]
  rw [e]
 ·intro i hi
  obtain ⟨cs,h1,h2⟩:=h.rows i hi
  refine ⟨cs,?_,h2⟩
  show getB _ (pid _ i)=_
  have h1':getB L (pid ps i)=some cs:=h1
  rw [hp i (by rw [h.len];exact hi),getB_new h1',map_ren_closed _ _ (rowC_closed h2)]
 ·have hnd:=h.nodup
  rw [qD] at hnd ⊢
  rw [xN]
  refine ⟨?_,?_⟩
  ·intro hm
   obtain ⟨p,hp,e⟩:=List.mem_map.1 hm
   have e:H.length+p.1=H.length:=e
   exact hnd.1 (List.mem_map.2 ⟨p,hp,by omega⟩)
  ·refine List.pairwise_iff_getElem.2 (fun i j hi hj hij=>?_)
   have:=List.pairwise_iff_getElem.1 hnd.2 i j (by simpa using hi) (by simpa using hj) hij
   rw [qM,qM] at this ⊢
   simp only [Function.comp]
   omega
theorem mat_app {H X:Heap} {o n:Nat} {ps:List (Nat×Option Nat)} {M:List (List Int)} (h:MatH H o ps n M):MatH (H++X) o ps n M:=
 ⟨by rw [getB_app (getB_lt' h.outer)];exact h.outer,h.len,h.cols,fun i hi=>by
  obtain ⟨cs,h1,h2⟩:=h.rows i hi
  exact ⟨cs,by rw [getB_app (getB_lt' h1)];exact h1,h2⟩,h.nodup⟩
theorem mat_other {H:Heap} {o n x:Nat} {y:Option (List AV)} {ps:List (Nat×Option Nat)} {M:List (List Int)} (h:MatH H o ps n M) (h1:x≠o) (h2:x∉ps.map (·.1)):MatH (H.set x y) o ps n M:=
 ⟨by rw [getB_set_ne h1];exact h.outer,h.len,h.cols,fun i hi=>by
  obtain ⟨cs,g1,g2⟩:=h.rows i hi
  refine ⟨cs,?_,g2⟩
  have hne:x≠(ps.getD i (0,none)).1:=fun e=>h2 (by rw [e];exact pid_mem (ps:=ps) (by rw [h.len];exact hi))
  rw [getB_set_ne hne];exact g1,h.nodup⟩
theorem mDet {B:Nat} {M:List (List Int)} {a:AV} {d:Int} (hB:DivB B) (h:MatV M a) (hN:1≤M.length∧M.length≤16) (hc:∀i,i<M.length→(M.getD i []).length=M.length) (hd:detO B M=some d):
  Ret Tryz.prog G 75 [a] [] (intV d) []:=by
 obtain ⟨ps0,L,hL,tc⟩:=mCopy h ⟨hN.1,hN.2⟩ hN.2 hc
 obtain ⟨v1,hv1,ts⟩:=zSmall 1 (by omega) (by omega)
 have ha:qA [a]=true:=by
  obtain ⟨rows,c,rfl,_⟩:=h;rfl
 have hv1':=hv1
 obtain ⟨l1,c1,_,_,_,rfl⟩:=hv1'
 refine Ret_ofw mixed Tryz.func75 comp75 _ 125 res75 nt75 (by simp) (by simp) ?_
 simp only [c75,r75_0,r75_1,SS,reduceCtorEq,reduceIte]
 refine callA_new tc ha ?_
 simp only [restA,SS,reduceIte,qQ,AV.ren,names_nil,xE]
 have hH1:applyE (effs (names [] 1) 0 L) (some [AV.bool false,AV.vec [] 0 (some 0)]::List.replicate (List.length L) none)=some [AV.bool false,AV.vec [] 0 (some 0)]::L.map (renB (names [] 1)):=
  effs_new (H:=[some [AV.bool false,AV.vec [] 0 (some 0)]]) (names [] 1) (fun i=>names_nil 1 i) L []
 rw [hH1]
 have hM1:MatH (some [AV.bool false,AV.vec [] 0 (some 0)]::L.map (renB (names [] 1))) 1 (ps0.map fun p=>(1+p.1,p.2)) M.length M:=mat_shift (H:=[some [AV.bool false,AV.vec [] 0 (some 0)]]) hL
 generalize hHH:(some [AV.bool false,AV.vec [] 0 (some 0)]::L.map (renB (names [] 1)):Heap)=H1 at*
 have g0:getB H1 0=some [AV.bool false,AV.vec [] 0 (some 0)]:=by rw [←hHH];rfl
 have hlt0:=getB_lt' g0
 simp only [r75_2,r75_3,SS,reduceIte,qQ]
 refine callA_pure ts ?_
 simp only [SS,reduceIte,qZ,qQ,qX,getB_snoc0,set_snoc]
 simp only [r75_4,SS]
 have hlast0:=hv1
 have hM2:=mat_app (X:=[some [AV.bool (decide ((1:Int)<0)),AV.vec (u32s l1) l1.length c1]]) hM1
 have hids:∀x∈(ps0.map fun p=>(1+p.1,p.2)).map (·.1),2≤x∧x<H1.length:=by
  intro x hx
  have hnd:=hL.nodup
  rw [qD] at hnd
  rw [xN] at hx
  obtain ⟨p,hp,rfl⟩:=List.mem_map.1 hx
  have hp0:p.1≠0:=fun e=>hnd.1 (List.mem_map.2 ⟨p,hp,e⟩)
  refine ⟨by show 2≤1+p.1;omega,?_⟩
  obtain ⟨i,hi,e⟩:=List.mem_iff_getElem.1 hp
  obtain ⟨cs,h1,_⟩:=hM1.rows i (by rw [←hL.len];exact hi)
  have:=getB_lt' h1
  rw [qJ,xX,qV hi,e] at this
  exact this
 have hnd0:(0::H1.length::1::(ps0.map fun p=>(1+p.1,p.2)).map (·.1)).Nodup:=by
  have hn1:=hM1.nodup
  have h1lt:=getB_lt' hM1.outer
  rw [qD,qD]
  refine ⟨?_,?_,hn1⟩
  ·intro hm
   rcases List.mem_cons.1 hm with e | hm
   ·omega
   ·rcases List.mem_cons.1 hm with e | hm
    ·omega
    ·have:=hids _ hm;omega
  ·intro hm
   rcases List.mem_cons.1 hm with e | hm
   ·omega
   ·have:=hids _ hm;omega
 refine W_loop (fun m E H=>∃k M' last neg ps,k+m=M.length∧DS M.length M' last neg k E H ps H1.length∧detG B M.length m k M' last neg=some d) (n:=M.length) ⟨0,M,1,false,_,by omega,⟨hM2,rfl,?_,?_,?_,?_,?_,?_,⟨_,_,getB_snoc0,hlast0⟩,⟨_,_,(getB_app hlt0).trans g0⟩,hnd0⟩,hd⟩ ?_
 ·simp only [upd_app,argsE_app,qK,qQ,reduceIte,if_false]
 ·simp only [upd_app,argsE_app,qK,qQ,reduceIte,if_false]
 ·simp only [upd_app,argsE_app,qK,qQ,reduceIte,if_false]
 ·simp only [upd_app,argsE_app,qK,qQ,reduceIte,if_false]
 ·simp only [upd_app,argsE_app,qK,qQ,reduceIte,if_false]
 ·simp only [upd_app,argsE_app,qK,qQ,reduceIte,if_false];rfl
 rintro m E H ⟨k,M',last,neg,ps,hkm,hD,hdet⟩
 have hD0:=hD
 obtain ⟨hM,hrows,e2,e3,e4,e5,e6,e7,⟨lu,lv,hlast,hl⟩,⟨ru,rv,hres⟩,hnd⟩:=hD
 refine wpC_sound mixed ?_
 simp only [l75_0,r75_5,SS,reduceCtorEq,reduceIte,qQ,e4,e7]
 refine ⟨fun hlt=>?_,fun hge=>?_⟩
 ·obtain ⟨m,rfl⟩:∃m',m=m'+1:=⟨m-1,by omega⟩
  have hk:k<M.length:=by omega
  simp only [detG] at hdet
  have hpl:=piv_le (M:=M') (k:=k) (m:=M.length-k) (p:=k)
  have w6:IntKind.i64.wrap ((k:Int)+1)=((k+1:Nat):Int):=by rw [show (k:Int)+1=((k+1:Nat):Int) by omega];exact w64 (by omega) (by omega)
  simp only [r75_6,SS,reduceIte,qQ,e7]
  refine mDetP hN.2 hk (hD0.frame (fun t ht=>?_)) ?_ (fun E1 hD1 f8=>?rest)
  case rest=>
   generalize hpv:piv M' k (M.length-k) k=p at*
   have hD10:=hD1
   obtain ⟨hM3,hrows3,f2,f3,f4,f5,f6,f7,⟨lu3,lv3,hlast3,hl3⟩,⟨ru3,rv3,hres3⟩,hnd3⟩:=hD1
   simp only [r75_9,SS,reduceCtorEq,reduceIte,qQ,f4,f8]
   refine ⟨fun hpn=>?_,fun hpn=>?_⟩
   ·have hpn:p=M.length:=by omega
    rw [if_pos hpn,qI] at hdet
    subst hdet
    simp only [r75_10,SS,reduceIte,qZ,qQ,qX,f2,hres3]
    refine ⟨.inl trivial,_,_,resA_int (id:=0) (by simp only [upd_app,qQ,if_false,f2]) (getB_set_eq (getB_lt' hres3)),.drop _ _ rfl (by intro i cs h;omega),rfl⟩
   ·have hpn:p≠M.length:=by omega
    rw [if_neg hpn,qE] at hdet
    obtain ⟨M2,hel,hdet⟩:=hdet
    by_cases hkp:k<p
    ·rw [if_pos hkp] at hel hdet
     have d1:decide ((k:Int)<(p:Nat))=true:=decide_eq_true (by omega)
     have ok3:=mat_outer (ps:=ps) (n:=M.length) (i:=k) (by rw [hM3.len];omega)
     have op3:=mat_outer (ps:=ps) (n:=M.length) (i:=p) (by rw [hM3.len];omega)
     have hol3:(ps.map (slRow M.length)).length=M.length:=by rw [qP,hM3.len];exact hrows3
     have hou3:=hM3.outer
     obtain ⟨hMs,hmem,hnds⟩:=mat_swap hM3 (p:=p) (k:=k) (by omega) (by omega)
     simp only [r75_11,SS,forall_const,reduceIte,qQ,f7,f8,d1]
     simp only [r75_12,SS,forall_const,reduceIte,qQ,f3,f7,f8,qW,hou3,hol3,ok3,op3]
     have gs:getB (List.set H 1 (some ((List.map (slRow M.length) ps).set p (AV.sl (pid ps k) 0 M.length 2 (ps.getD k (0,none)).snd)))) 1=some ((List.map (slRow M.length) ps).set p (AV.sl (pid ps k) 0 M.length 2 (ps.getD k (0,none)).snd)):=getB_set_eq (getB_lt' hou3)
     simp only [SS,gs,xV,hol3,yY]
     refine ⟨⟨by omega,by omega⟩,by omega,⟨by omega,by omega⟩,by omega,⟨by omega,by omega⟩,by omega,⟨by omega,by omega⟩,by omega,rfl,?_⟩
     simp only [r75_13,SS,reduceIte,qQ,f6]
     simp only [r75_14,SS,reduceIte,qQ,f7,w6]
     have hnd6:=hnd3
     simp only [qD,xK,not_or] at hnd6
     have hnd7:(0::H1.length::1::(swapP ps p k).map (·.1)).Nodup:=by
      simp only [qD,xK,not_or]
      exact ⟨⟨hnd6.1.1,hnd6.1.2.1,fun hm=>hnd6.1.2.2 ((hmem _).1 hm)⟩,⟨hnd6.2.1.1,fun hm=>hnd6.2.1.2 ((hmem _).1 hm)⟩,fun hm=>hnd6.2.2.1 ((hmem _).1 hm),hnds⟩
     refine mDetI hB hN.2 hk (ps:=swapP ps p k) (b:=H1.length) (last:=last) (neg:=!neg) (M:=swapM M' p k) ⟨hMs,by simp [swapM,hrows3],?_,?_,?_,?_,?_,?_,⟨lu3,lv3,?_,hl3⟩,⟨ru3,rv3,?_⟩,hnd7⟩ ?_ hel (fun E3 H3 hD3=>?rest2)
     case rest2=>
      obtain ⟨hM4,hrows4,g2,g3,g4,g5,g6,g7,⟨lu4,lv4,hlast4,hl4⟩,⟨ru4,rv4,hres4⟩,hnd4⟩:=hD3
      obtain ⟨csk,gk,lk,rk,fk⟩:=mat_get hM4 (i:=k) (by omega)
      obtain ⟨u,v,hx,hy⟩:=fk k hk
      have ok:=mat_outer (ps:=swapP ps p k) (n:=M.length) (i:=k) (by rw [hM4.len];omega)
      have hol:((swapP ps p k).map (slRow M.length)).length=M.length:=by rw [qP,hM4.len];exact hrows4
      have hou:=hM4.outer
      obtain ⟨ly,cy,hy1,hy2⟩:=intCells hy
      subst hy1 hy2
      simp only [r75_21,SS,forall_const,reduceCtorEq,reduceIte,qZ,qQ,qX,g3,g5,g7,qW,hou,hol,ok,gk,lk,hx,hlast4]
      refine ⟨⟨by omega,by omega⟩,by omega,⟨by omega,by omega⟩,by omega,?_⟩
      simp only [r75_22,SS,reduceIte,qQ,g7,w6]
      have hnd5:=hnd4
      simp only [qD,xK,not_or] at hnd5
      refine ⟨m,_,_,by omega,⟨k+1,M2,_,(!neg),swapP ps p k,by omega,⟨mat_other hM4 (fun e=>hnd5.2.1.1 e) (fun hm=>hnd5.2.1.2 hm),hrows4,?_,?_,?_,?_,?_,?_,⟨_,_,getB_set_eq (getB_lt' hlast4),hy⟩,⟨ru4,rv4,?_⟩,hnd4⟩,hdet⟩,.refl⟩
      ·simp only [upd_app,qQ,if_false,g2]
      ·simp only [upd_app,qQ,if_false,g3]
      ·simp only [upd_app,qQ,if_false,g4]
      ·simp only [upd_app,qQ,if_false,g5]
      ·simp only [upd_app,qQ,if_false,g6]
      ·simp only [upd_app,qQ,reduceIte,if_false]
      ·rw [getB_set_ne (fun e=>hnd5.1.1 e.symm)];exact hres4
     ·simp only [upd_app,qQ,if_false,f2]
     ·simp only [upd_app,qQ,if_false,f3]
     ·simp only [upd_app,qQ,if_false,f4]
     ·simp only [upd_app,qQ,if_false,f5]
     ·simp only [upd_app,qQ,reduceIte,if_false]
     ·simp only [upd_app,qQ,if_false,f7]
     ·rw [getB_set_ne (fun e=>hnd6.2.1.1 e.symm)];exact hlast3
     ·rw [getB_set_ne (by decide)];exact hres3
     ·simp only [upd_app,qQ,reduceIte,if_false]
    ·rw [if_neg hkp] at hel hdet
     have d1:decide ((k:Int)<(p:Nat))=false:=decide_eq_false (by omega)
     simp only [r75_11,SS,forall_const,reduceIte,qQ,f7,f8,d1]
     simp only [r75_14,SS,reduceIte,qQ,f7,w6]
     refine mDetI hB hN.2 hk (hD10.frame (fun t ht=>?_)) ?_ hel (fun E3 H3 hD3=>?rest2)
     case rest2=>
      obtain ⟨hM4,hrows4,g2,g3,g4,g5,g6,g7,⟨lu4,lv4,hlast4,hl4⟩,⟨ru4,rv4,hres4⟩,hnd4⟩:=hD3
      obtain ⟨csk,gk,lk,rk,fk⟩:=mat_get hM4 (i:=k) (by omega)
      obtain ⟨u,v,hx,hy⟩:=fk k hk
      have ok:=mat_outer (ps:=ps) (n:=M.length) (i:=k) (by rw [hM4.len];omega)
      have hol:((ps).map (slRow M.length)).length=M.length:=by rw [qP,hM4.len];exact hrows4
      have hou:=hM4.outer
      obtain ⟨ly,cy,hy1,hy2⟩:=intCells hy
      subst hy1 hy2
      simp only [r75_21,SS,forall_const,reduceCtorEq,reduceIte,qZ,qQ,qX,g3,g5,g7,qW,hou,hol,ok,gk,lk,hx,hlast4]
      refine ⟨⟨by omega,by omega⟩,by omega,⟨by omega,by omega⟩,by omega,?_⟩
      simp only [r75_22,SS,reduceIte,qQ,g7,w6]
      have hnd5:=hnd4
      simp only [qD,xK,not_or] at hnd5
      refine ⟨m,_,_,by omega,⟨k+1,M2,_,neg,ps,by omega,⟨mat_other hM4 (fun e=>hnd5.2.1.1 e) (fun hm=>hnd5.2.1.2 hm),hrows4,?_,?_,?_,?_,?_,?_,⟨_,_,getB_set_eq (getB_lt' hlast4),hy⟩,⟨ru4,rv4,?_⟩,hnd4⟩,hdet⟩,.refl⟩
      ·simp only [upd_app,qQ,if_false,g2]
      ·simp only [upd_app,qQ,if_false,g3]
      ·simp only [upd_app,qQ,if_false,g4]
      ·simp only [upd_app,qQ,if_false,g5]
      ·simp only [upd_app,qQ,if_false,g6]
      ·simp only [upd_app,qQ,reduceIte,if_false]
      ·rw [getB_set_ne (fun e=>hnd5.1.1 e.symm)];exact hres4
     ·repeat rw [upd_lo ht (by decide)]
     ·simp only [upd_app,qQ,reduceIte,if_false]
  ·repeat rw [upd_lo ht (by decide)]
  ·simp only [upd_app,qQ,reduceIte,if_false]
 ·have hm:m=0:=by omega
  subst hm
  simp only [detG,qI] at hdet
  have c4:qA [.agg [lu,lv]]=true:=by simp only [qA,hl.closed,xW]
  simp only [r75_23,SS,reduceIte,qQ,e6]
  refine ⟨fun hn=>?_,fun hn=>?_⟩
  ·rw [if_pos hn] at hdet
   obtain ⟨w,hw,tn⟩:=zNeg hl
   rw [hdet] at hw
   have hw0:=hw
   obtain ⟨lw,cw,_,_,_,rfl⟩:=hw0
   simp only [r75_24,SS,reduceIte,qZ,qQ,qX,e5,hlast]
   refine callA_pure tn ?_ c4
   simp only [SS,reduceIte,qZ,qQ,qX,e2,hres]
   refine ⟨.inl trivial,_,_,resA_int (id:=0) (by simp only [upd_app,qQ,if_false,e2]) (getB_set_eq (getB_lt' hres)),.drop _ _ rfl (by intro i cs h;omega),hw.wk⟩
  ·rw [if_neg (by rw [hn];simp)] at hdet
   subst hdet
   obtain ⟨lw,cw,h1,h2⟩:=intCells hl
   subst h1 h2
   simp only [r75_25,SS,reduceIte,qZ,qQ,qX,e5,hlast,e2,hres]
   refine ⟨.inl trivial,_,_,resA_int (id:=0) (by simp only [upd_app,qQ,if_false,e2]) (getB_set_eq (getB_lt' hres)),.drop _ _ rfl (by intro i cs h;omega),hl.wk⟩
end Go.Proofs.YtenboapacjlmoaaGreatDoor
