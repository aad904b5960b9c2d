/- A part of the proof. -/
import Derived.Test.YtpflahgcdgdkjaaGreatDoorAL59
import Derived.Test.YtpflahgcdgdkjaaGreatDoorAL52
import Derived.Test.YtpflahgcdgdkjaaGreatDoorPA
namespace Go.Proofs.YtpflahgcdgdkjaaGreatDoor
open Nat renaming reduceEqDiff → qQ, reduceLeDiff → qX, reduceAdd → qZ, le_refl → qD, zero_add → qP, mod_eq_of_lt → qS, mul_one → xK, zero_le → xE, not_lt_zero → yX, mod_lt → yK
open List renaming getD_cons_succ → qJ, take_of_length_le → qV, getD_cons_zero → qU, drop_zero → xQ, replicate_zero → xZ, append_nil → xB, nil_append → yQ
open Int renaming toNat_natCast → qK, lt_trichotomy → qB, sign_eq_neg_one_of_neg → qG, sign_eq_one_of_pos → qM
open Option renaming bind_some → qR
open Go.AL.AV.closed renaming closedL → xJ
set_option linter.unusedSimpArgs false
set_option linter.unusedVariables false
open Go Go.AL Go.Proofs Go.Limb
set_option maxRecDepth 100000
def u32s (l:List Nat):List AV:=l.map fun (n:Nat)=>AV.int .u32 (n:Int)
theorem zbl (l:List Nat):(u32s l).length=l.length:=by simp [u32s]
theorem zcl (l:List Nat) (i:Nat) (h:i<l.length) (d:AV):(u32s l).getD i d= .int .u32 ((l.getD i 0:Nat):Int):=by
 simp [u32s,h]
theorem zsv (l:List Nat) (n:Nat):(u32s l).take n=u32s (l.take n):=by simp [u32s,List.map_take]
theorem zql (l:List Nat) (i a:Nat):(u32s l).set i (.int .u32 (a:Int))=u32s (l.set i a):=by simp [u32s,List.map_set]
theorem zmx (l:List Nat):xJ (u32s l)=true:=by
 induction l with
 | nil=>rfl
 | cons d l ih=>exact ih
theorem zxk (l:List Nat) (m d:Nat) (H:Heap):(u32s l).mapM (frzI m H (d+1))=some (u32s l):=by
 refine zlr (fun a ha=>?_)
 simp only [u32s,List.mem_map] at ha
 obtain ⟨n,_,rfl⟩:=ha
 rfl
theorem w64 {a:Int} (h1: -9223372036854775808≤a) (h2:a<9223372036854775808):IntKind.i64.wrap a=a:=by
 simp [IntKind.wrap,IntKind.bits,IntKind.signed]
 omega
def zaw (z:Int) (a:AV):Prop:= ∃l c,zcg l∧l.length≤1100∧val l=z.natAbs∧a= .agg [.bool (decide (z<0)),.vec (u32s l) l.length c]
theorem qan {n0 fr n sz bytes:Nat} {H:Heap} {cs ds:List AV} {c c':Option Nat}:zbu n0 fr H sz bytes (.vec cs n c) (.vec ds 0 c')=some (.vec cs n c,[],[]):=by
 simp [zbu,lenA,zds,need]
theorem qao {n0 fr m sz bytes:Nat} {H:Heap} {ds:List AV} {c':Option Nat} (hm:0<m) (hl:m*sz≤ds.length) (h1:4*m*bytes≤281474976710656) (h2:m<4611686018427387904):
  zbu n0 fr H sz bytes (.vec [] 0 (some 0)) (.vec ds m c')=some (.sl fr 0 m sz none,[(fr,some (ds.take (m*sz)))],[]):=by
 have e1:m≠0:=by omega
 have e2:4*(0+m)*bytes≤2^48:=by rw [qP];exact h1
 have e3:0+m<2^62:=by rw [qP];exact h2
 simp only [zbu,lenA,zds,need,qR,qD,hl,and_self,if_true,e1,if_false,Nat.zero_mul,xE,e2,e3,List.take_nil,yQ,true_and]
 simp only [qP]
theorem zqm {H:Heap} {id n:Nat} {c:Option Nat} {l:List Nat} (hb:getB H id=some (u32s l)) (hn:n=l.length):AL.Fin 0 (.sl id 0 n 1 c) H (.vec (u32s l) n c) []:=by
 refine .freeze 2 _ _ _ ?_ (by intro i cs h;omega)
 have e:=zxk l 0 0 H
 rw [frzI]
 simp only [yX,if_false,hb,need,qP,xK,hn,zbl,qD,if_true,xQ]
 rw [qV (by rw [zbl];omega),e]
 rfl
theorem zlj (l:List Nat) (c:Option Nat) (hl:l.length<16777216):∃c',Ret Tryz.prog G 161 [.vec (u32s l) l.length c] [] (.vec (u32s (zbg l)) (zbg l).length c') []:=by
 have key:∀{E:Env} {Q:Post},E 0= .vec (u32s l) l.length c→E 3= .int .i64 (l.length:Nat)→(∀E',E' 0= .vec (u32s l) l.length c→E' 3= .int .i64 (zgg l l.length:Nat)→Q (.exit 0) E' [])→W Tryz.prog G 0 22 (.loop l161_0) E [] Q:=by
  intro E Q h0 h3 hQ
  refine zal (fun k E H=>k≤l.length∧zgg l k=zgg l l.length∧E 0= .vec (u32s l) l.length c∧E 3= .int .i64 (k:Nat)∧H=[]) (n:=l.length) ⟨by omega,rfl,h0,h3,rfl⟩ ?_
  rintro k E H ⟨hk,ht,h0,h3,rfl⟩
  refine zaf zah ?_
  cases k with
  | zero=>
   simp only [l161_0,r161_2,SS,forall_const,reduceCtorEq,reduceIte,qQ,h3,Int.natCast_zero,show decide ((0:Int)<0)=false from rfl]
   refine hQ _ ?_ ?_<;>simp only [zaa,qQ,if_false, *]
   rw [←ht];rfl
  | succ k=>
   have g:=zcl l k (by omega) AV.junk
   have w1:IntKind.i64.wrap (((k+1:Nat):Int)-1)=(k:Nat):=by rw [show ((k+1:Nat):Int)-1=(k:Nat) by omega];exact w64 (by omega) (by omega)
   have d1:decide ((0:Int)<((k+1:Nat):Int))=true:=decide_eq_true (by omega)
   simp only [l161_0,r161_2,r161_3,SS,forall_const,reduceCtorEq,reduceIte,qQ,h0,h3,d1,w1,g,qK,zbl]
   refine ⟨⟨by omega,by omega⟩,by omega,fun hz=>?_,fun hz=>?_⟩
   ·have hz:l.getD k 0=0:=by omega
    refine ⟨k,_,_,by omega,⟨by omega,?_,?_,?_,rfl⟩,.refl⟩
    ·rw [←ht,zgg,if_pos hz]
    ·simp only [zaa,qQ,if_false, *]
    ·simp only [zaa,qQ,reduceIte,if_false, *]
   ·have hz:l.getD k 0≠0:=by omega
    refine hQ _ ?_ ?_
    ·simp only [zaa,qQ,if_false, *]
    ·simp only [zaa,qQ,if_false, *]
     rw [←ht,zgg,if_neg hz]
 have hle:=zhy l l.length
 have hsl:((u32s l).drop (0*1)).take ((zgg l l.length-0)*1)=u32s (zbg l):=by
  simp only [xQ,xK,Nat.sub_zero,zsv];rfl
 rcases Nat.eq_zero_or_pos (zgg l l.length) with h0 | h0
 ·have e:zbg l=[]:=by unfold zbg;rw [h0];rfl
  refine ⟨some 0,?_⟩
  refine zai zah Tryz.func161 comp161 _ 22 res161 nt161 (by simp) (by simp) ?_
  simp only [c161,r161_0,r161_1,SS,reduceCtorEq,reduceIte,qQ]
  refine key (by simp only [zaa,zac,qU,qQ,if_false, *]) (by simp only [zaa,zac,qJ,qQ,reduceIte,if_false, *]) (fun E' h0' h3'=>?_)
  simp only [r161_4,SS,reduceCtorEq,reduceIte,qQ,h0',h3',qK,zbl]
  refine ⟨by omega,⟨by omega,by omega,by omega⟩,?_⟩
  rw [e,h0,Nat.zero_sub,qan]
  exact ⟨.inl trivial,_,rfl,.drop _ _ rfl (by intro i cs h;omega)⟩
 ·have hlen:=zhb l
  refine ⟨none,?_⟩
  refine zai zah Tryz.func161 comp161 _ 22 res161 nt161 (by simp) (by simp) ?_
  simp only [c161,r161_0,r161_1,SS,reduceCtorEq,reduceIte,qQ]
  refine key (by simp only [zaa,zac,qU,qQ,if_false, *]) (by simp only [zaa,zac,qJ,qQ,reduceIte,if_false, *]) (fun E' h0' h3'=>?_)
  simp only [r161_4,SS,reduceCtorEq,reduceIte,qQ,h0',h3',qK,zbl]
  refine ⟨by omega,⟨by omega,by omega,by omega⟩,?_⟩
  rw [Nat.sub_zero,zsv,qao h0 (by rw [zbl,xK];exact Nat.le_of_eq hlen.symm) (by omega) (by omega)]
  refine ⟨.inl trivial,_,rfl,?_⟩
  have e1:(u32s (l.take (zgg l l.length))).take (zgg l l.length*1)=u32s (zbg l):=by
   rw [xK,qV (by rw [zbl];exact Nat.le_of_eq hlen)];rfl
  rw [e1,←hlen]
  exact zqm rfl rfl
def sgnZ (s:Bool) (n:Nat):Int:=if s then -(n:Int) else n
theorem zqn (s:Bool) (n:Nat):(sgnZ s n).natAbs=n:=by unfold sgnZ;split<;>omega
theorem zmy (s:Bool) (l:List Nat) (c:Option Nat) (hd:Dig l) (hl:l.length<1048576) (hfit:val l<BIG):∃v,zaw (sgnZ s (val l)) v∧Ret Tryz.prog G 184 [.bool s,.vec (u32s l) l.length c] [] v []:=by
 obtain ⟨c',ht⟩:=zlj l c (by omega)
 have hlen:(zbg l).length≤l.length:=by rw [zhb];exact zhy _ _
 have hneg:decide (sgnZ s (val l)<0)=(if s=true then decide ((0:Int)<((zbg l).length:Nat)) else false):=by
  cases s
  ·simp [sgnZ]
  ·have h1:=zxh (zbk hd)
   rw [zck] at h1
   simp only [sgnZ,if_true]
   by_cases h0:zbg l=[]
   ·rw [h0] at h1 ⊢
    have:val l=0:=h1.2 rfl
    simp [this]
   ·have:val l≠0:=fun e=>h0 (h1.1 e)
    have:0<(zbg l).length:=List.length_pos_iff.2 h0
    rw [decide_eq_true (by omega),decide_eq_true (by omega)]
 refine ⟨_,⟨zbg l,c',zbk hd,canon_len (zbk hd) (by rw [zck];exact hfit),by rw [zck,zqn],rfl⟩,?_⟩
 rw [hneg]
 refine zai zah Tryz.func184 comp184 _ 16 res184 nt184 (by simp) (by simp) ?_
 simp only [c184,r184_0,r184_1,SS,reduceCtorEq,reduceIte,qQ]
 refine zab ht ?_
 cases s
 ·simp only [r184_2,SS,forall_const,reduceCtorEq,reduceIte,qZ,qQ,qX]
  exact ⟨.inl trivial,_,rfl,.drop _ _ rfl (by intro i cs h;omega)⟩
 ·simp only [r184_2,SS,forall_const,reduceCtorEq,reduceIte,qZ,qQ,qX]
  exact ⟨.inl trivial,_,rfl,.drop _ _ rfl (by intro i cs h;omega)⟩
theorem zos {z:Int} {a:AV} (h:zaw z a):∃v,zaw z v∧Ret Tryz.prog G 122 [a] [] v []:=by
 obtain ⟨l,c,hc,hl,hv,rfl⟩:=h
 obtain ⟨v,hv1,hr⟩:=zmy (decide (z<0)) l c hc.1 (by omega) (zeu hc.1 hl)
 have e:sgnZ (decide (z<0)) (val l)=z:=by
  rw [hv];unfold sgnZ;simp only [decide_eq_true_eq];split<;>omega
 rw [e] at hv1
 obtain ⟨l',c',_,_,_,rfl⟩:=hv1
 refine ⟨_,⟨l',c',by assumption,by assumption,by assumption,rfl⟩,?_⟩
 refine zai zah Tryz.func122 comp122 _ 8 res122 nt122 (by simp) (by simp) ?_
 simp only [c122,r122_0,r122_1,SS,forall_const,reduceCtorEq,reduceIte,qZ,qQ,qX]
 refine zab hr ?_
 simp only [SS,reduceIte,qZ,qQ,qX]
 exact ⟨.inl trivial,_,rfl,.drop _ _ rfl (by intro i cs h;omega)⟩
theorem zNeg {z:Int} {a:AV} (h:zaw z a):∃v,zaw (-z) v∧Ret Tryz.prog G 126 [a] [] v []:=by
 obtain ⟨l,c,hc,hl,hv,rfl⟩:=h
 obtain ⟨v,hv1,hr⟩:=zmy (!decide (z<0)) l c hc.1 (by omega) (zeu hc.1 hl)
 have e:sgnZ (!decide (z<0)) (val l)= -z:=by
  rw [hv];unfold sgnZ;simp only [Bool.not_eq_true',decide_eq_false_iff_not];split<;>omega
 rw [e] at hv1
 obtain ⟨l',c',_,_,_,rfl⟩:=hv1
 refine ⟨_,⟨l',c',by assumption,by assumption,by assumption,rfl⟩,?_⟩
 refine zai zah Tryz.func126 comp126 _ 9 res126 nt126 (by simp) (by simp) ?_
 simp only [c126,r126_0,r126_1,SS,forall_const,reduceCtorEq,reduceIte,qZ,qQ,qX]
 refine zab hr ?_
 simp only [SS,reduceIte,qZ,qQ,qX]
 exact ⟨.inl trivial,_,rfl,.drop _ _ rfl (by intro i cs h;omega)⟩
theorem zAbs {z:Int} {a:AV} (h:zaw z a):∃v,zaw (z.natAbs:Int) v∧Ret Tryz.prog G 187 [a] [] v []:=by
 obtain ⟨l,c,hc,hl,hv,rfl⟩:=h
 obtain ⟨v,hv1,hr⟩:=zmy false l c hc.1 (by omega) (zeu hc.1 hl)
 have e:sgnZ false (val l)=(z.natAbs:Int):=by rw [hv];rfl
 rw [e] at hv1
 obtain ⟨l',c',_,_,_,rfl⟩:=hv1
 refine ⟨_,⟨l',c',by assumption,by assumption,by assumption,rfl⟩,?_⟩
 refine zai zah Tryz.func187 comp187 _ 6 res187 nt187 (by simp) (by simp) ?_
 simp only [c187,r187_0,r187_1,SS,forall_const,reduceCtorEq,reduceIte,qZ,qQ,qX]
 refine zab hr ?_
 simp only [SS,reduceIte,qZ,qQ,qX]
 exact ⟨.inl trivial,_,rfl,.drop _ _ rfl (by intro i cs h;omega)⟩
theorem zsw {z:Int} {a:AV} (h:zaw z a):Ret Tryz.prog G 149 [a] [] (.int .i64 z.sign) []:=by
 obtain ⟨l,c,hc,hl,hv,rfl⟩:=h
 obtain ⟨c',ht⟩:=zlj l c (by omega)
 have h1:=zxh (zbk hc.1)
 rw [zck,hv] at h1
 refine zai zah Tryz.func149 comp149 _ 12 res149 nt149 (by simp) (by simp) ?_
 simp only [c149,r149_0,r149_1,SS,forall_const,reduceCtorEq,reduceIte,qZ,qQ,qX]
 refine zab ht ?_
 simp only [SS,reduceIte,qQ]
 refine ⟨fun h0=>?_,fun h0=>?_⟩
 ·have:z=0:=by
   have:=h1.2 (List.length_eq_zero_iff.1 (by omega))
   omega
  subst this
  simp only [r149_2,SS]
  exact ⟨.inl trivial,_,rfl,.drop _ _ rfl (by intro i cs h;omega)⟩
 ·have:z≠0:=by
   intro e
   have:=h1.1 (by omega)
   rw [this] at h0
   simp at h0
  simp only [r149_3,SS,forall_const,reduceIte,qZ,qQ,qX]
  refine ⟨fun h2=>?_,fun h2=>?_⟩
  ·rw [qG h2]
   simp only [r149_4,SS]
   exact ⟨.inl trivial,_,rfl,.drop _ _ rfl (by intro i cs h;omega)⟩
  ·rw [qM (by omega)]
   simp only [r149_5,SS]
   exact ⟨.inl trivial,_,rfl,.drop _ _ rfl (by intro i cs h;omega)⟩
theorem wu32 (x:Nat):IntKind.u32.wrap (x:Int)=((x%4294967296:Nat):Int):=by
 simp [IntKind.wrap,IntKind.bits,IntKind.signed]
theorem wu64 (x:Nat):IntKind.u64.wrap (x:Int)=((x%18446744073709551616:Nat):Int):=by
 simp [IntKind.wrap,IntKind.bits,IntKind.signed]
theorem zgh {x:Nat} (h:x<18446744073709551616):IntKind.u64.wrap (x:Int)=(x:Int):=by
 rw [wu64,qS h]
theorem qlg {x:Nat} (h:x<4294967296):IntKind.u32.wrap (x:Int)=(x:Int):=by
 rw [wu32,qS h]
theorem qrj (x:Nat):Int.fdiv (x:Int) (2^min (Int.toNat 32) IntKind.u64.bits)=((x/4294967296:Nat):Int):=by
 show Int.fdiv (x:Int) 4294967296=_
 rw [Int.fdiv_eq_ediv_of_nonneg _ (by decide)]
 omega
theorem qlh (s:Bool) (u:Nat) (hu:u<18446744073709551616):∃v,zaw (sgnZ s u) v∧Ret Tryz.prog G 152 [.bool s,.int .u64 u] [] v []:=by
 have hd:Dig [u%4294967296,u/4294967296]:=Dig.cons (yK _ (by decide)) (Dig.cons (by omega) Dig.nil)
 have e:val [u%4294967296,u/4294967296]=u:=by simp only [Limb.val];omega
 obtain ⟨v,hv,hr⟩:=zmy s [u%4294967296,u/4294967296] (some 2) hd (by simp) (by rw [e];exact zhz (by omega))
 rw [e] at hv
 obtain ⟨l',c',_,_,_,rfl⟩:=hv
 refine ⟨_,⟨l',c',by assumption,by assumption,by assumption,rfl⟩,?_⟩
 refine zai zah Tryz.func152 comp152 _ 13 res152 nt152 (by simp) (by simp) ?_
 simp only [c152,r152_0,r152_1,SS,reduceCtorEq,reduceIte,qZ,qQ,qX,qrj,wu32,qlg (show u/4294967296<4294967296 by omega)]
 refine ⟨by omega,?_⟩
 refine zmu (id:=1) (cs:=u32s [u%4294967296,u/4294967296]) (d:=2) (args0:=[.bool s,.sl 0 0 2 1 (some 2)]) hr ?_ ?_ ?_ ?_
 ·rfl
 ·rfl
 ·rfl
 simp only [zba,zag,xZ,xB,SS,reduceIte,qZ,qQ,qX]
 exact ⟨.inl trivial,_,rfl,.drop _ _ rfl (by intro i cs h;omega)⟩
theorem zfu (n:Int) (h1: -9223372036854775808≤n) (h2:n<9223372036854775808):∃v,zaw n v∧Ret Tryz.prog G 87 [.int .i64 n] [] v []:=by
 by_cases hn:n<0
 ·obtain ⟨k,hk⟩:∃k:Nat,n= -(k:Int):=⟨n.natAbs,by omega⟩
  subst hk
  obtain ⟨v,hv,hr⟩:=qlh true k (by omega)
  have e:sgnZ true k= -(k:Int):=rfl
  rw [e] at hv
  obtain ⟨l',c',_,_,_,rfl⟩:=hv
  refine ⟨_,⟨l',c',by assumption,by assumption,by assumption,rfl⟩,?_⟩
  have w1:IntKind.u64.wrap (-(k:Int))=((18446744073709551616-k:Nat):Int):=by
   simp [IntKind.wrap,IntKind.bits,IntKind.signed];omega
  have w2:IntKind.u64.wrap (0-((18446744073709551616-k:Nat):Int))=(k:Nat):=by
   simp [IntKind.wrap,IntKind.bits,IntKind.signed];omega
  refine zai zah Tryz.func87 comp87 _ 12 res87 nt87 (by simp) (by simp) ?_
  simp only [c87,r87_0,r87_1,SS,reduceCtorEq,reduceIte,qQ]
  refine ⟨fun _=>?_,fun h=>absurd hn h⟩
  simp only [r87_2,SS,reduceCtorEq,reduceIte,qQ,w1,w2]
  refine zab hr ?_
  simp only [SS,reduceIte,qZ,qQ,qX]
  exact ⟨.inl trivial,_,rfl,.drop _ _ rfl (by intro i cs h;omega)⟩
 ·obtain ⟨k,rfl⟩:∃k:Nat,n=(k:Int):=⟨n.toNat,by omega⟩
  obtain ⟨v,hv,hr⟩:=qlh false k (by omega)
  have e:sgnZ false k=(k:Int):=rfl
  rw [e] at hv
  obtain ⟨l',c',_,_,_,rfl⟩:=hv
  refine ⟨_,⟨l',c',by assumption,by assumption,by assumption,rfl⟩,?_⟩
  refine zai zah Tryz.func87 comp87 _ 12 res87 nt87 (by simp) (by simp) ?_
  simp only [c87,r87_0,r87_1,SS,reduceCtorEq,reduceIte,qQ]
  refine ⟨fun h=>absurd h hn,fun _=>?_⟩
  simp only [r87_3,SS,reduceCtorEq,reduceIte,qQ,zgh (show k<18446744073709551616 by omega)]
  refine zab hr ?_
  simp only [SS,reduceIte,qZ,qQ,qX]
  exact ⟨.inl trivial,_,rfl,.drop _ _ rfl (by intro i cs h;omega)⟩
theorem zcmp (m n:List Nat) (c d:Option Nat) (hm:m.length<16777216) (hn:n.length<16777216):Ret Tryz.prog G 88 [.vec (u32s m) m.length c,.vec (u32s n) n.length d] [] (.int .i64 (cmpL m n)) []:=by
 refine zai zah Tryz.func88 comp88 _ 41 res88 nt88 (by simp) (by simp) ?_
 simp only [c88,r88_0,r88_1,SS,reduceCtorEq,reduceIte,qQ,ne_eq,Int.ofNat_inj]
 refine ⟨fun h=>?_,fun h=>?_⟩
 ·simp only [r88_2,SS,reduceCtorEq,reduceIte,qQ]
  refine ⟨fun h2=>?_,fun h2=>?_⟩
  ·have e:cmpL m n= -1:=by unfold cmpL;rw [if_neg h,if_pos (by omega)]
   rw [e]
   simp only [r88_3,SS]
   exact ⟨.inl trivial,_,rfl,.drop _ _ rfl (by intro i cs h;omega)⟩
  ·have e:cmpL m n=1:=by unfold cmpL;rw [if_neg h,if_neg (by omega)]
   rw [e]
   simp only [r88_4,SS]
   exact ⟨.inl trivial,_,rfl,.drop _ _ rfl (by intro i cs h;omega)⟩
 ·have h:m.length=n.length:=by simpa using h
  have e:cmpL m n=cmpN m n m.length:=by unfold cmpL;rw [if_pos h]
  rw [e]
  simp only [r88_5,SS,reduceCtorEq,reduceIte,qQ]
  refine zal (fun k E H=>k≤m.length∧cmpN m n k=cmpN m n m.length∧E 0= .vec (u32s m) m.length c∧E 1= .vec (u32s n) n.length d∧E 5= .int .i64 ((k:Int)-1)∧H=[]) (n:=m.length) ⟨by omega,rfl,?_,?_,?_,rfl⟩ ?_
  ·simp only [zaa,zac,qU,qQ,if_false]
  ·simp only [zaa,zac,qU,qJ,qQ,if_false]
  ·simp only [zaa,zac,qJ,qQ,reduceIte,if_false]
   rw [w64 (by omega) (by omega)]
  rintro k E H ⟨hk,ht,h0,h1,h5,rfl⟩
  refine zaf zah ?_
  simp only [l88_0,r88_6,SS,reduceCtorEq,reduceIte,qQ,h5]
  refine ⟨fun hge=>?_,fun hlt=>?_⟩
  ·obtain ⟨k,rfl⟩:∃j,k=j+1:=⟨k-1,by omega⟩
   have e5:((k+1:Nat):Int)-1=(k:Nat):=by omega
   rw [e5] at h5
   have g1:=zcl m k (by omega) AV.junk
   have g2:=zcl n k (by omega) AV.junk
   simp only [cmpN] at ht
   simp only [r88_7,SS,forall_const,reduceCtorEq,reduceIte,qQ,e5,h0,h1,h5,qK,g1,g2,zbl]
   refine ⟨⟨by omega,by omega⟩,by omega,⟨by omega,by omega⟩,by omega,rfl,fun hne=>?_,fun heq=>?_⟩
   ·have hne:m.getD k 0≠n.getD k 0:=by omega
    rw [if_neg hne] at ht
    simp only [r88_8,SS,forall_const,reduceCtorEq,reduceIte,qQ,h0,h1,h5,qK,g1,g2,zbl]
    refine ⟨⟨by omega,by omega⟩,by omega,⟨by omega,by omega⟩,by omega,rfl,fun hl=>?_,fun hl=>?_⟩
    ·rw [if_pos (by omega)] at ht
     rw [←ht]
     simp only [r88_9,SS]
     exact ⟨.inl trivial,_,rfl,.drop _ _ rfl (by intro i cs h;omega)⟩
    ·rw [if_neg (by omega)] at ht
     rw [←ht]
     simp only [r88_10,SS]
     exact ⟨.inl trivial,_,rfl,.drop _ _ rfl (by intro i cs h;omega)⟩
   ·have heq:m.getD k 0=n.getD k 0:=by omega
    rw [if_pos heq] at ht
    simp only [r88_11,SS,reduceIte,qQ,h5]
    refine ⟨k,_,_,by omega,⟨by omega,ht,?_,?_,?_,rfl⟩,.refl⟩
    ·simp only [zaa,qQ,if_false, *]
    ·simp only [zaa,qQ,if_false, *]
    ·simp only [zaa,qQ,reduceIte,if_false]
     rw [w64 (by omega) (by omega)]
  ·have hk0:k=0:=by omega
   subst hk0
   rw [←ht]
   simp only [r88_12,SS]
   exact ⟨.inl trivial,_,rfl,.drop _ _ rfl (by intro i cs h;omega)⟩
theorem zCmp {x y:Int} {a b:AV} (ha:zaw x a) (hb:zaw y b):Ret Tryz.prog G 121 [a,b] [] (.int .i64 (if x<y then -1 else if x=y then 0 else 1)) []:=by
 have s1:=zsw ha
 have s2:=zsw hb
 obtain ⟨l,c,hc,hl,hv,rfl⟩:=ha
 obtain ⟨r,d,hd,hlr,hw,rfl⟩:=hb
 obtain ⟨c1,t1⟩:=zlj l c (by omega)
 obtain ⟨c2,t2⟩:=zlj r d (by omega)
 have l1:(zbg l).length≤l.length:=by rw [zhb];exact zhy _ _
 have l2:(zbg r).length≤r.length:=by rw [zhb];exact zhy _ _
 have t3:=zcmp (zbg l) (zbg r) c1 c2 (by omega) (by omega)
 rw [zhc (zbk hc.1) (zbk hd.1),zck,zck,hv,hw] at t3
 refine zai zah Tryz.func121 comp121 _ 26 res121 nt121 (by simp) (by simp) ?_
 simp only [c121,r121_0,r121_1,SS,reduceCtorEq,reduceIte,qZ,qQ,qX]
 refine zab s1 ?_
 simp only [SS,reduceIte,qZ,qQ,qX]
 refine zab s2 ?_
 simp only [SS,reduceIte,qQ]
 refine ⟨rfl,?_⟩
 simp only [r121_2,SS,reduceIte,qQ]
 refine ⟨fun hne=>?_,fun heq=>?_⟩
 ·simp only [r121_3,SS,reduceIte,qQ]
  refine ⟨fun hl=>?_,fun hl=>?_⟩
  ·rw [if_pos (by
    rcases qB x 0 with h | h | h<;>rcases qB y 0 with h' | h' | h'<;>
     simp [qG,qM,h,h'] at hl<;>omega)]
   simp only [r121_4,SS]
   exact ⟨.inl trivial,_,rfl,.drop _ _ rfl (by intro i cs h;omega)⟩
  ·rw [if_neg (by
    rcases qB x 0 with h | h | h<;>rcases qB y 0 with h' | h' | h'<;>
     simp [qG,qM,h,h'] at hl hne<;>omega),if_neg (by intro e;rw [e] at hne;exact hne rfl)]
   simp only [r121_5,SS]
   exact ⟨.inl trivial,_,rfl,.drop _ _ rfl (by intro i cs h;omega)⟩
 ·have heq:x.sign=y.sign:=by simpa using heq
  simp only [r121_6,SS,forall_const,reduceIte,qZ,qQ,qX]
  refine zab t1 ?_
  simp only [SS,forall_const,reduceIte,qZ,qQ,qX]
  refine zab t2 ?_
  simp only [SS,reduceIte,qQ]
  refine zab t3 ?_
  have e:IntKind.i64.wrap (x.sign*sgn x.natAbs y.natAbs)=(if x<y then -1 else if x=y then 0 else 1):=by
   have e1:x.sign*sgn x.natAbs y.natAbs=(if x<y then -1 else if x=y then 0 else 1):=by
    unfold sgn
    rcases qB x 0 with h | h | h<;>rcases qB y 0 with h' | h' | h'<;>
     simp [qG,qM,h,h'] at heq ⊢ <;> (repeat' split)<;>omega
   rw [e1]
   split
   ·rfl
   ·split<;>rfl
  simp only [SS,reduceIte,qQ,e]
  refine ⟨rfl,?_⟩
  exact ⟨.inl trivial,_,rfl,.drop _ _ rfl (by intro i cs h;omega)⟩
end Go.Proofs.YtpflahgcdgdkjaaGreatDoor
namespace Go.Proofs.YtpflahgcdgdkjaaGreatDoor
open Nat renaming reduceEqDiff → qQ, reduceLeDiff → qX, reduceAdd → qZ, le_refl → qD, lt_or_ge → qN, zero_add → qP, mod_eq_of_lt → qS, add_sub_cancel_left → qT, mul_le_mul → xX, mul_one → xK, dvd_of_mod_eq_zero → xY, sub_self → xA, one_ne_zero → xC, zero_le → xE, one_mul → xG, lt_of_le_of_lt → xM, add_zero → xO, not_lt_zero → yX, mod_lt → yK
open List renaming getD_cons_succ → qJ, getD_eq_getElem?_getD → qW, take_of_length_le → qV, getElem?_append_right → qY, getD_cons_zero → qU, set_append_right → qA, getElem?_append_left → qC, getElem?_eq_getElem → qH, getElem?_cons_zero → qI, getElem?_cons_succ → qL, drop_zero → xQ, replicate_zero → xZ, getElem?_replicate → xW, length_take → xV, getElem?_set_self → xU, append_nil → xB, length_set → xD, mapM_cons → xH, replicate_succ → xI, append_assoc → xN, take_add_one → xP, take_length → xR, nil_append → yQ, nodup_cons → yJ
open Int renaming toNat_natCast → qK, lt_trichotomy → qB, natCast_add → qE, sub_eq_add_neg → xL, mul_one → xS, mul_neg → xT, natCast_mul → yZ
open Bool renaming false_eq_true → qO
open Option renaming bind_some → qR
open Go.AL.AV.closed renaming closedL → xJ
set_option linter.unusedSimpArgs false
set_option linter.unusedVariables false
open Go Go.AL Go.Proofs
set_option maxRecDepth 100000
def r3_0:List COp:=[oP 9 (.box (.t 1)),oP 16 (.mov (.k (.bool false)))]
def r3_1:List COp:=[mV 22 0,oP 23 (.call 6 [.t 22])]
def r3_2:List COp:=[oP 24 (.call 7 []),mV 16 24]
def r3_3:List COp:=[mV 25 6]
def r3_4:List COp:=[oP 26 (.load true 4 (.t 9)),oP 27 (.call 8 [.t 26,(kI 4)]),mV 0 27]
def r3_5:List COp:=[mV 28 2,oP 29 (.call 9 [.t 28]),mV 17 29]
def r3_6:List COp:=[mV 30 5]
def r3_7:List COp:=[mV 31 3,mV 17 31]
def r3_8:List COp:=[mV 32 7]
def r3_9:List COp:=[mV 33 4,oP 34 (.bin .rem (.t 33) (kI 5)),oP 35 (.bin .add (.t 34) (kI 5)),oP 36 (.bin .rem (.t 35) (kI 5)),mV 4 36]
def r3_10:List COp:=[mV 37 4,oP 38 (.bin .gtr (.t 37) (kI 0)),mV 39 38,gU 40 39 true (.mov (.t 17)),gU 41 39 true (.bin .gtr (.t 40) (kI 1)),oP 42 (.pick (.t 39) (.t 41) (.k (.bool false))),mV 43 42,gU 44 43 true (.mov (.t 4)),gU 45 43 true (.mov (.t 0)),gU 46 43 true (.len false (.t 45)),gU 47 43 true (.bin .mul (.t 44) (.t 46)),gU 48 43 true (.bin .lss (.t 47) (kI 64)),oP 49 (.pick (.t 43) (.t 48) (.k (.bool false))),mV 50 49,gU 51 50 true (.mov (.t 17)),gU 52 50 true (.mov (.t 4)),gU 53 50 true (.mov (.t 0)),gU 54 50 true (.len false (.t 53)),gU 55 50 true (.bin .mul (.t 52) (.t 54)),gU 56 50 true (.call 10 [.t 51,.t 55,(kI 2097152)]),gU 57 50 true (.bin .gtr (.t 56) (kI 20000)),oP 58 (.pick (.t 50) (.t 57) (.k (.bool false))),mV 59 58,gU 60 59 true (.mov (.t 17)),gU 61 59 true (.mov (.t 4)),gU 62 59 true (.mov (.t 0)),gU 63 59 true (.len false (.t 62)),gU 64 59 true (.bin .mul (.t 61) (.t 63)),gU 65 59 true (.call 10 [.t 60,.t 64,(kI 2097152)]),gU 66 59 true (.bin .leq (.t 65) (kI 2097152)),oP 67 (.pick (.t 59) (.t 66) (.k (.bool false)))]
def r3_11:List COp:=[oP 68 (.call 7 []),mV 16 68]
def r3_12:List COp:=[mV 70 0,mV 71 17,mV 72 4,oP 73 (.call 11 [.t 70,.t 71,.t 72]),mV 69 73,oP 74 (.ext (.t 69) 0),oP 75 (.ext (.t 69) 1),mV 18 74,mV 19 75]
def r3_13:List COp:=[mV 77 0,mV 78 17,mV 79 4,oP 80 (.call 12 [.t 77,.t 78,.t 79]),mV 76 80,oP 81 (.ext (.t 76) 0),oP 82 (.ext (.t 76) 1),mV 20 81,mV 21 82]
def r3_14:List COp:=[mV 83 19,mV 84 21,oP 85 (.bin .eql (.t 83) (.t 84)),mV 86 85,gU 87 86 true (.mov (.t 18)),gU 88 86 true (.mov (.t 20)),gU 89 86 true (.call 13 [.t 87,.t 88]),oP 90 (.pick (.t 86) (.t 89) (.k (.bool false))),mV 91 90,gU 92 91 true (.call 7 []),oP 93 (.pick (.t 91) (.t 92) (.k (.bool false))),mV 16 93]
def c3:CC:=(.seq (.reg r3_0 none) (.seq (.seq (.reg r3_1 none) (.cond (.t 23) (.seq (.reg r3_2 none) .ret) .skip)) (.seq (.seq (.reg r3_3 none) (.cond (.t 25) (.reg r3_4 none) .skip)) (.seq (.reg r3_5 none) (.seq (.seq (.reg r3_6 none) (.cond (.t 30) (.reg r3_7 none) .skip)) (.seq (.seq (.reg r3_8 none) (.cond (.t 32) (.reg r3_9 none) .skip)) (.seq (.seq (.reg r3_10 none) (.cond (.t 67) (.seq (.reg r3_11 none) .ret) .skip)) (.seq (.reg r3_12 none) (.seq (.reg r3_13 none) (.seq (.reg r3_14 none) .ret))))))))))
theorem comp3:CmpC Tryz.prog G Tryz.f3=some c3:=by kernel_rfl
theorem res3:Tryz.f3.results.toList=[(.tmp 16)]:=by kernel_rfl
def r6_0:List COp:=[oP 2 (.mov (.k (.bool false)))]
def r6_1:List COp:=[mV 5 0,oP 6 (.len false (.t 5)),oP 7 (.bin .gtr (.t 6) (kI 8))]
def r6_2:List COp:=[oP 2 (.mov (.k (.bool true)))]
def r6_3:List COp:=[mV 8 0,oP 9 (.len false (.t 8)),oP 10 (.mov (kI 0))]
def r6_4:List COp:=[oP 11 (.bin .lss (.t 10) (.t 9))]
def r6_5:List COp:=[oP 12 (.idx 1 (.t 8) (.t 10)),oP 13 (.load false 1 (.t 12)),mV 4 13]
def r6_6:List COp:=[mV 14 4,oP 15 (.len false (.t 14)),oP 16 (.bin .gtr (.t 15) (kI 8))]
def r6_7:List COp:=[oP 2 (.mov (.k (.bool true)))]
def r6_8:List COp:=[oP 17 (.bin .add (.t 10) (kI 1)),mV 10 17]
def l6_0:CC:=(.seq (.reg r6_4 none) (.seq (.cond (.t 11) .skip (.exit 0)) (.seq (.block 1 (.seq (.reg r6_5 none) (.seq (.reg r6_6 none) (.cond (.t 16) (.seq (.reg r6_7 none) .ret) .skip)))) (.reg r6_8 none))))
def r6_9:List COp:=[oP 2 (.mov (.k (.bool false)))]
def c6:CC:=(.seq (.reg r6_0 none) (.seq (.seq (.reg r6_1 none) (.cond (.t 7) (.seq (.reg r6_2 none) .ret) .skip)) (.seq (.seq (.reg r6_3 none) (.block 0 (.loop l6_0))) (.seq (.reg r6_9 none) .ret))))
theorem comp6:CmpC Tryz.prog G Tryz.f6=some c6:=by kernel_rfl
theorem res6:Tryz.f6.results.toList=[(.tmp 2)]:=by kernel_rfl
def r9_0:List COp:=[oP 2 (.mov (kI 0))]
def r9_1:List COp:=[oP 4 (.bsl 20 1 [(.int .i64 0),(.int .i64 0),(.int .i64 0),(.int .i64 0),(.int .i64 0),(.int .i64 0),(.int .i64 0),(.int .i64 0),(.int .i64 0),(.int .i64 0),(.int .i64 0),(.int .i64 0),(.int .i64 0),(.int .i64 0),(.int .i64 0),(.int .i64 0),(.int .i64 0),(.int .i64 0),(.int .i64 0),(.int .i64 0)] [(0,(1,(kI 2))),(1,(1,(kI 3))),(2,(1,(kI 5))),(3,(1,(kI 7))),(4,(1,(kI 2))),(5,(1,(kI 3))),(6,(1,(kI 5))),(7,(1,(kI 11))),(8,(1,(kI 13))),(9,(1,(kI 17))),(10,(1,(kI 19))),(11,(1,(kI 23))),(12,(1,(kI 3))),(13,(1,(kI 2))),(14,(1,(kI 9973))),(15,(1,(kI 10007))),(16,(1,(kI 1))),(17,(1,(kI 4))),(18,(1,(kI 9))),(19,(1,(.k (.int .i64 (-3)))))]),mV 3 4]
def r9_2:List COp:=[mV 5 3,mV 6 0,oP 7 (.conv .i64 (.t 6)),mV 8 3,oP 9 (.len false (.t 8)),oP 10 (.bin .rem (.t 7) (.t 9)),oP 11 (.idx 1 (.t 5) (.t 10)),oP 12 (.load false 1 (.t 11)),mV 2 12]
def c9:CC:=(.seq (.reg r9_0 none) (.seq (.reg r9_1 none) (.seq (.reg r9_2 none) .ret)))
theorem comp9:CmpC Tryz.prog G Tryz.f9=some c9:=by kernel_rfl
theorem res9:Tryz.f9.results.toList=[(.tmp 2)]:=by kernel_rfl
def r12_0:List COp:=[oP 6 (.mov (.k (.vec [] 0 (some 0)))),oP 7 (.mov (kI 0))]
def r12_1:List COp:=[mV 9 0,oP 10 (.call 29 [.t 9]),oP 11 (.un .not (.t 10)),mV 8 11]
def r12_2:List COp:=[oP 6 (.mov (.k (.vec [] 0 (some 0)))),oP 7 (.mov (kI 6))]
def r12_3:List COp:=[mV 13 1,oP 14 (.call 30 [.t 13]),oP 15 (.un .not (.t 14)),mV 12 15]
def r12_4:List COp:=[oP 6 (.mov (.k (.vec [] 0 (some 0)))),oP 7 (.mov (kI 20))]
def r12_5:List COp:=[mV 17 2,oP 18 (.bin .lss (.t 17) (kI 1)),mV 16 18]
def r12_6:List COp:=[oP 6 (.mov (.k (.vec [] 0 (some 0)))),oP 7 (.mov (kI 1))]
def r12_7:List COp:=[mV 20 2,oP 21 (.bin .gtr (.t 20) (kI 64)),mV 22 21,gU 23 22 false (.mov (.t 1)),gU 24 22 false (.mov (.t 2)),gU 25 22 false (.mov (.t 0)),gU 26 22 false (.len false (.t 25)),gU 27 22 false (.bin .mul (.t 24) (.t 26)),gU 28 22 false (.call 31 [.t 23,.t 27]),gU 29 22 false (.un .not (.t 28)),oP 30 (.pick (.t 22) (.k (.bool true)) (.t 29)),mV 19 30]
def r12_8:List COp:=[oP 6 (.mov (.k (.vec [] 0 (some 0)))),oP 7 (.mov (kI 7))]
def r12_9:List COp:=[mV 31 0,mV 32 1,mV 33 2,oP 34 (.call 33 [.t 32,.t 33]),oP 35 (.call 32 [.t 31,.t 34]),mV 6 35,oP 7 (.mov (kI 0))]
def c12:CC:=(.seq (.reg r12_0 none) (.seq (.block 0 (.seq (.reg r12_1 none) (.cond (.t 8) (.seq (.reg r12_2 none) .ret) (.seq (.reg r12_3 none) (.cond (.t 12) (.seq (.reg r12_4 none) .ret) (.seq (.reg r12_5 none) (.cond (.t 16) (.seq (.reg r12_6 none) .ret) (.seq (.reg r12_7 none) (.cond (.t 19) (.seq (.reg r12_8 none) .ret) .skip))))))))) (.seq (.reg r12_9 none) .ret)))
theorem comp12:CmpC Tryz.prog G Tryz.f12=some c12:=by kernel_rfl
theorem res12:Tryz.f12.results.toList=[(.tmp 6),(.tmp 7)]:=by kernel_rfl
def r13_0:List COp:=[oP 4 (.mov (.k (.bool false)))]
def r13_1:List COp:=[mV 6 0,oP 7 (.len false (.t 6)),mV 8 1,oP 9 (.len false (.t 8)),oP 10 (.bin .neq (.t 7) (.t 9))]
def r13_2:List COp:=[oP 4 (.mov (.k (.bool false)))]
def r13_3:List COp:=[mV 11 0,oP 12 (.len false (.t 11)),oP 13 (.mov (kI 0))]
def r13_4:List COp:=[oP 14 (.bin .lss (.t 13) (.t 12))]
def r13_5:List COp:=[mV 15 13,mV 5 15]
def r13_6:List COp:=[mV 16 0,mV 17 5,oP 18 (.idx 1 (.t 16) (.t 17)),oP 19 (.load false 1 (.t 18)),mV 20 1,mV 21 5,oP 22 (.idx 1 (.t 20) (.t 21)),oP 23 (.load false 1 (.t 22)),oP 24 (.bin .neq (.t 19) (.t 23))]
def r13_7:List COp:=[oP 4 (.mov (.k (.bool false)))]
def r13_8:List COp:=[oP 25 (.bin .add (.t 13) (kI 1)),mV 13 25]
def l13_0:CC:=(.seq (.reg r13_4 none) (.seq (.cond (.t 14) .skip (.exit 0)) (.seq (.block 1 (.seq (.reg r13_5 none) (.seq (.reg r13_6 (some [(3,7)])) (.cond (.t 24) (.seq (.reg r13_7 none) .ret) .skip)))) (.reg r13_8 none))))
def r13_9:List COp:=[oP 4 (.mov (.k (.bool true)))]
def c13:CC:=(.seq (.reg r13_0 none) (.seq (.seq (.reg r13_1 none) (.cond (.t 10) (.seq (.reg r13_2 none) .ret) .skip)) (.seq (.seq (.reg r13_3 none) (.block 0 (.loop l13_0))) (.seq (.reg r13_9 none) .ret))))
theorem comp13:CmpC Tryz.prog G Tryz.f13=some c13:=by kernel_rfl
theorem res13:Tryz.f13.results.toList=[(.tmp 4)]:=by kernel_rfl
def r30_0:List COp:=[oP 2 (.mov (.k (.bool false)))]
def r30_1:List COp:=[mV 3 0,oP 4 (.bin .leq (.t 3) (kI 9973)),mV 5 4,gU 6 5 true (.mov (.t 0)),gU 7 5 true (.call 74 [.t 6]),oP 8 (.pick (.t 5) (.t 7) (.k (.bool false))),mV 2 8]
def c30:CC:=(.seq (.reg r30_0 none) (.seq (.reg r30_1 none) .ret))
theorem comp30:CmpC Tryz.prog G Tryz.f30=some c30:=by kernel_rfl
theorem res30:Tryz.f30.results.toList=[(.tmp 2)]:=by kernel_rfl
def r31_0:List COp:=[oP 4 (.mov (.k (.bool false)))]
def r31_1:List COp:=[oP 5 (.mov (kI 1))]
def r31_2:List COp:=[oP 6 (.mov (kI 0))]
def r31_3:List COp:=[mV 7 6,mV 8 1,oP 9 (.bin .lss (.t 7) (.t 8))]
def r31_4:List COp:=[mV 12 5,mV 13 0,oP 14 (.bin .quo (kI 2097152) (.t 13)),oP 15 (.bin .gtr (.t 12) (.t 14))]
def r31_5:List COp:=[oP 4 (.mov (.k (.bool false)))]
def r31_6:List COp:=[mV 16 5,mV 17 0,oP 18 (.bin .mul (.t 16) (.t 17)),mV 5 18]
def r31_7:List COp:=[mV 10 6,oP 11 (.bin .add (.t 10) (kI 1)),mV 6 11]
def l31_0:CC:=(.seq (.seq (.reg r31_3 none) (.cond (.t 9) .skip (.exit 0))) (.seq (.block 1 (.seq (.seq (.reg r31_4 none) (.cond (.t 15) (.seq (.reg r31_5 none) .ret) .skip)) (.reg r31_6 none))) (.reg r31_7 none)))
def r31_8:List COp:=[oP 4 (.mov (.k (.bool true)))]
def c31:CC:=(.seq (.reg r31_0 none) (.seq (.reg r31_1 none) (.seq (.seq (.reg r31_2 none) (.block 0 (.loop l31_0))) (.seq (.reg r31_8 none) .ret))))
theorem comp31:CmpC Tryz.prog G Tryz.f31=some c31:=by kernel_rfl
theorem res31:Tryz.f31.results.toList=[(.tmp 4)]:=by kernel_rfl
def r32_0:List COp:=[oP 4 (.mov (.k (.vec [] 0 (some 0))))]
def r32_1:List COp:=[mV 12 1,oP 13 (.mksl 1 8 [(.int .i64 0)] (.t 12) (.t 12)),mV 5 13]
def r32_2:List COp:=[mV 14 0,oP 15 (.len false (.t 14)),mV 6 15]
def r32_3:List COp:=[mV 16 6,oP 17 (.mksl 1 8 [(.int .i64 0)] (.t 16) (.t 16)),mV 7 17]
def r32_4:List COp:=[oP 8 (.mov (kI 0))]
def r32_5:List COp:=[mV 18 0,oP 19 (.len false (.t 18)),oP 20 (.mov (kI 0))]
def r32_6:List COp:=[oP 21 (.bin .lss (.t 20) (.t 19))]
def r32_7:List COp:=[mV 22 20,mV 9 22]
def r32_8:List COp:=[mV 23 0,oP 24 (.len false (.t 23)),oP 25 (.mov (kI 0))]
def r32_9:List COp:=[oP 26 (.bin .lss (.t 25) (.t 24))]
def r32_10:List COp:=[mV 27 25,mV 10 27]
def r32_11:List COp:=[mV 28 8,mV 29 0,mV 30 9,oP 31 (.idx 1 (.t 29) (.t 30)),oP 32 (.load false 1 (.t 31)),mV 33 10,oP 34 (.idx 1 (.t 32) (.t 33)),oP 35 (.load false 1 (.t 34)),mV 36 1,oP 37 (.call 75 [.t 35,.t 36]),mV 38 7,mV 39 9,oP 40 (.idx 1 (.t 38) (.t 39)),oP 41 (.load false 1 (.t 40)),oP 42 (.bin .mul (.t 37) (.t 41)),mV 43 1,oP 44 (.bin .rem (.t 42) (.t 43)),mV 45 7,mV 46 10,oP 47 (.idx 1 (.t 45) (.t 46)),oP 48 (.load false 1 (.t 47)),oP 49 (.bin .mul (.t 44) (.t 48)),oP 50 (.bin .add (.t 28) (.t 49)),mV 51 1,oP 52 (.bin .rem (.t 50) (.t 51)),mV 8 52]
def r32_12:List COp:=[oP 53 (.bin .add (.t 25) (kI 1)),mV 25 53]
def l32_2:CC:=(.seq (.reg r32_9 none) (.seq (.cond (.t 26) .skip (.exit 4)) (.seq (.block 5 (.seq (.reg r32_10 none) (.reg r32_11 (some [(4,13),(7,13),(9,13),(4,20),(7,20),(9,20),(13,20)])))) (.reg r32_12 none))))
def r32_13:List COp:=[oP 54 (.bin .add (.t 20) (kI 1)),mV 20 54]
def l32_1:CC:=(.seq (.reg r32_6 none) (.seq (.cond (.t 21) .skip (.exit 2)) (.seq (.block 3 (.seq (.reg r32_7 none) (.seq (.reg r32_8 none) (.block 4 (.loop l32_2))))) (.reg r32_13 none))))
def r32_14:List COp:=[mV 55 5,mV 56 8,oP 57 (.idx 1 (.t 55) (.t 56)),oP 58 (.load false 1 (.t 57)),oP 59 (.bin .add (.t 58) (kI 1)),oP 60 (.idx 1 (.t 55) (.t 56)),sT (.store 1 (.t 60) (.t 59))]
def r32_15:List COp:=[mV 61 6,oP 62 (.bin .sub (.t 61) (kI 1)),mV 11 62]
def r32_16:List COp:=[mV 63 11,oP 64 (.bin .geq (.t 63) (kI 0)),mV 65 64,gU 66 65 true (.mov (.t 7)),gU 67 65 true (.mov (.t 11)),gU 68 65 true (.idx 1 (.t 66) (.t 67)),gU 69 65 true (.load false 1 (.t 68)),gU 70 65 true (.mov (.t 1)),gU 71 65 true (.bin .sub (.t 70) (kI 1)),gU 72 65 true (.bin .eql (.t 69) (.t 71)),oP 73 (.pick (.t 65) (.t 72) (.k (.bool false)))]
def r32_17:List COp:=[mV 74 7,mV 75 11,oP 76 (.idx 1 (.t 74) (.t 75)),sT (.store 1 (.t 76) (kI 0))]
def r32_18:List COp:=[mV 77 11,oP 78 (.bin .sub (.t 77) (kI 1)),mV 11 78]
def l32_3:CC:=(.seq (.seq (.reg r32_16 none) (.cond (.t 73) .skip (.exit 6))) (.block 7 (.seq (.reg r32_17 none) (.reg r32_18 none))))
def r32_19:List COp:=[mV 79 11,oP 80 (.bin .lss (.t 79) (kI 0))]
def r32_20:List COp:=[mV 81 5,mV 4 81]
def r32_21:List COp:=[mV 82 7,mV 83 11,oP 84 (.idx 1 (.t 82) (.t 83)),oP 85 (.load false 1 (.t 84)),oP 86 (.bin .add (.t 85) (kI 1)),oP 87 (.idx 1 (.t 82) (.t 83)),sT (.store 1 (.t 87) (.t 86))]
def l32_0:CC:=(.block 1 (.seq (.reg r32_4 none) (.seq (.seq (.reg r32_5 none) (.block 2 (.loop l32_1))) (.seq (.reg r32_14 none) (.seq (.reg r32_15 none) (.seq (.block 6 (.loop l32_3)) (.seq (.seq (.reg r32_19 none) (.cond (.t 80) (.seq (.reg r32_20 none) .ret) .skip)) (.reg r32_21 none))))))))
def c32:CC:=(.seq (.reg r32_0 none) (.seq (.reg r32_1 none) (.seq (.reg r32_2 none) (.seq (.reg r32_3 none) (.block 0 (.loop l32_0))))))
theorem comp32:CmpC Tryz.prog G Tryz.f32=some c32:=by kernel_rfl
theorem res32:Tryz.f32.results.toList=[(.tmp 4)]:=by kernel_rfl
def r33_0:List COp:=[oP 4 (.mov (kI 0))]
def r33_1:List COp:=[oP 5 (.mov (kI 1))]
def r33_2:List COp:=[oP 6 (.mov (kI 0))]
def r33_3:List COp:=[mV 7 6,mV 8 1,oP 9 (.bin .lss (.t 7) (.t 8))]
def r33_4:List COp:=[mV 12 5,mV 13 0,oP 14 (.bin .mul (.t 12) (.t 13)),mV 5 14]
def r33_5:List COp:=[mV 10 6,oP 11 (.bin .add (.t 10) (kI 1)),mV 6 11]
def l33_0:CC:=(.seq (.seq (.reg r33_3 none) (.cond (.t 9) .skip (.exit 0))) (.seq (.block 1 (.reg r33_4 none)) (.reg r33_5 none)))
def r33_6:List COp:=[mV 15 5,mV 4 15]
def c33:CC:=(.seq (.reg r33_0 none) (.seq (.reg r33_1 none) (.seq (.seq (.reg r33_2 none) (.block 0 (.loop l33_0))) (.seq (.reg r33_6 none) .ret))))
theorem comp33:CmpC Tryz.prog G Tryz.f33=some c33:=by kernel_rfl
theorem res33:Tryz.f33.results.toList=[(.tmp 4)]:=by kernel_rfl
def r74_0:List COp:=[oP 2 (.mov (.k (.bool false)))]
def r74_1:List COp:=[mV 4 0,oP 5 (.bin .lss (.t 4) (kI 2)),mV 6 5,gU 7 6 false (.mov (.t 0)),gU 8 6 false (.bin .gtr (.t 7) (kI 2147483647)),oP 9 (.pick (.t 6) (.k (.bool true)) (.t 8))]
def r74_2:List COp:=[oP 2 (.mov (.k (.bool false)))]
def r74_3:List COp:=[oP 3 (.mov (kI 2))]
def r74_4:List COp:=[mV 10 3,mV 11 3,oP 12 (.bin .mul (.t 10) (.t 11)),mV 13 0,oP 14 (.bin .leq (.t 12) (.t 13))]
def r74_5:List COp:=[mV 17 0,mV 18 3,oP 19 (.bin .rem (.t 17) (.t 18)),oP 20 (.bin .eql (.t 19) (kI 0))]
def r74_6:List COp:=[oP 2 (.mov (.k (.bool false)))]
def r74_7:List COp:=[mV 15 3,oP 16 (.bin .add (.t 15) (kI 1)),mV 3 16]
def l74_0:CC:=(.seq (.seq (.reg r74_4 none) (.cond (.t 14) .skip (.exit 0))) (.seq (.block 1 (.seq (.reg r74_5 none) (.cond (.t 20) (.seq (.reg r74_6 none) .ret) .skip))) (.reg r74_7 none)))
def r74_8:List COp:=[oP 2 (.mov (.k (.bool true)))]
def c74:CC:=(.seq (.reg r74_0 none) (.seq (.seq (.reg r74_1 none) (.cond (.t 9) (.seq (.reg r74_2 none) .ret) .skip)) (.seq (.seq (.reg r74_3 none) (.block 0 (.loop l74_0))) (.seq (.reg r74_8 none) .ret))))
theorem comp74:CmpC Tryz.prog G Tryz.f74=some c74:=by kernel_rfl
theorem res74:Tryz.f74.results.toList=[(.tmp 2)]:=by kernel_rfl
def r75_0:List COp:=[oP 4 (.mov (kI 0))]
def r75_1:List COp:=[mV 6 0,mV 7 1,oP 8 (.bin .rem (.t 6) (.t 7)),mV 5 8]
def r75_2:List COp:=[mV 9 5,oP 10 (.bin .lss (.t 9) (kI 0))]
def r75_3:List COp:=[mV 11 5,mV 12 1,oP 13 (.bin .add (.t 11) (.t 12)),mV 5 13]
def r75_4:List COp:=[mV 14 5,mV 4 14]
def c75:CC:=(.seq (.reg r75_0 none) (.seq (.reg r75_1 none) (.seq (.seq (.reg r75_2 none) (.cond (.t 10) (.reg r75_3 none) .skip)) (.seq (.reg r75_4 none) .ret))))
theorem comp75:CmpC Tryz.prog G Tryz.f75=some c75:=by kernel_rfl
theorem res75:Tryz.f75.results.toList=[(.tmp 4)]:=by kernel_rfl
def r138_0:List COp:=[oP 2 (.mov (kI 0))]
def r138_1:List COp:=[oP 10 (.build [(.int .i64 0),(.int .i64 0),(.int .i64 0)] [(0,(1,(kI 2))),(1,(1,(kI 3))),(2,(1,(kI 5)))]),oP 11 (.mov (kI 0))]
def r138_2:List COp:=[oP 12 (.bin .lss (.t 11) (kI 3))]
def r138_3:List COp:=[oP 13 (.idxv 3 false 1 (.t 10) (.t 11)),mV 4 13]
def r138_4:List COp:=[mV 14 0,mV 15 4,oP 16 (.bin .rem (.t 14) (.t 15)),oP 17 (.bin .eql (.t 16) (kI 0))]
def r138_5:List COp:=[mV 18 4,mV 2 18]
def r138_6:List COp:=[oP 19 (.bin .add (.t 11) (kI 1)),mV 11 19]
def l138_0:CC:=(.seq (.reg r138_2 none) (.seq (.cond (.t 12) .skip (.exit 0)) (.seq (.block 1 (.seq (.reg r138_3 none) (.seq (.reg r138_4 none) (.cond (.t 17) (.seq (.reg r138_5 none) .ret) .skip)))) (.reg r138_6 none))))
def r138_7:List COp:=[mV 20 0,mV 5 20]
def r138_8:List COp:=[oP 6 (.mov (kI 0))]
def r138_9:List COp:=[oP 23 (.load true 8 (.k (.iptr [(.int .i64 7),(.int .i64 11),(.int .i64 13),(.int .i64 17),(.int .i64 19),(.int .i64 23),(.int .i64 29),(.int .i64 31)] 0))),oP 24 (.mov (kI 0))]
def r138_10:List COp:=[oP 25 (.bin .lss (.t 24) (kI 8))]
def r138_11:List COp:=[oP 26 (.idxv 8 false 1 (.t 23) (.t 24)),mV 8 26]
def r138_12:List COp:=[mV 27 6,mV 28 8,oP 29 (.bin .add (.t 27) (.t 28)),mV 9 29]
def r138_13:List COp:=[mV 30 9,mV 31 9,oP 32 (.bin .mul (.t 30) (.t 31)),mV 33 0,oP 34 (.bin .gtr (.t 32) (.t 33))]
def r138_14:List COp:=[mV 35 0,mV 36 9,oP 37 (.bin .rem (.t 35) (.t 36)),oP 38 (.bin .eql (.t 37) (kI 0))]
def r138_15:List COp:=[mV 39 9,mV 5 39]
def r138_16:List COp:=[oP 40 (.bin .add (.t 24) (kI 1)),mV 24 40]
def l138_2:CC:=(.seq (.reg r138_10 none) (.seq (.cond (.t 25) .skip (.exit 4)) (.seq (.block 5 (.seq (.reg r138_11 none) (.seq (.reg r138_12 none) (.seq (.seq (.reg r138_13 none) (.cond (.t 34) (.exit 2) .skip)) (.seq (.reg r138_14 none) (.cond (.t 38) (.seq (.reg r138_15 none) (.exit 2)) .skip)))))) (.reg r138_16 none))))
def r138_17:List COp:=[mV 21 6,oP 22 (.bin .add (.t 21) (kI 30)),mV 6 22]
def l138_1:CC:=(.seq (.block 3 (.seq (.reg r138_9 none) (.block 4 (.loop l138_2)))) (.reg r138_17 none))
def r138_18:List COp:=[mV 41 5,mV 2 41]
def c138:CC:=(.seq (.reg r138_0 none) (.scope (.seq (.seq (.reg r138_1 none) (.block 0 (.loop l138_0))) (.seq (.reg r138_7 none) (.seq (.label 0) (.seq (.seq (.reg r138_8 none) (.block 2 (.loop l138_1))) (.seq (.reg r138_18 none) .ret)))))))
theorem comp138:CmpC Tryz.prog G Tryz.f138=some c138:=by kernel_rfl
theorem res138:Tryz.f138.results.toList=[(.tmp 2)]:=by kernel_rfl
theorem nt3:Tryz.f3.ntmps=94:=by kernel_rfl
theorem nt6:Tryz.f6.ntmps=18:=by kernel_rfl
theorem nt9:Tryz.f9.ntmps=13:=by kernel_rfl
theorem nt12:Tryz.f12.ntmps=36:=by kernel_rfl
theorem nt13:Tryz.f13.ntmps=26:=by kernel_rfl
theorem nt30:Tryz.f30.ntmps=9:=by kernel_rfl
theorem nt31:Tryz.f31.ntmps=19:=by kernel_rfl
theorem nt32:Tryz.f32.ntmps=88:=by kernel_rfl
theorem nt33:Tryz.f33.ntmps=16:=by kernel_rfl
theorem nt74:Tryz.f74.ntmps=21:=by kernel_rfl
theorem nt75:Tryz.f75.ntmps=15:=by kernel_rfl
theorem nt138:Tryz.f138.ntmps=42:=by kernel_rfl
def LF (n l:Nat):Prop:=(l=n∧∀d,2≤d→d*d≤n→n%d≠0)∨(2≤l∧l*l≤n∧n%l=0∧∀d,2≤d→d<l→n%d≠0)
def Prm (n:Nat):Prop:=2≤n∧∀d,2≤d→d*d≤n→n%d≠0
theorem LF.uniq {n l l':Nat} (h:LF n l) (h':LF n l'):l=l':=by
 rcases h with ⟨rfl,h⟩ | ⟨h1,h2,h3,h4⟩
 ·rcases h' with ⟨rfl,h'⟩ | ⟨g1,g2,g3,g4⟩
  ·rfl
  ·exact absurd g3 (h _ g1 g2)
 ·rcases h' with ⟨rfl,h'⟩ | ⟨g1,g2,g3,g4⟩
  ·exact absurd h3 (h' _ h1 h2)
  ·rcases Nat.lt_trichotomy l l' with e | e | e
   ·exact absurd h3 (g4 l h1 e)
   ·exact e
   ·exact absurd g3 (h4 l' g1 e)
theorem LF.ex (n:Nat):∃l,LF n l:=by
 by_cases h:∃d,2≤d∧d*d≤n∧n%d=0
 ·have key:∀k d,d≤k→(2≤d∧d*d≤n∧n%d=0)→∃l,LF n l:=by
   intro k
   induction k with
   | zero=>intro d hd h;omega
   | succ k ih=>
    intro d hd h
    by_cases h2:∃d',2≤d'∧d'<d∧n%d'=0
    ·obtain ⟨d',a,b,c⟩:=h2
     exact ih d' (by omega) ⟨a,Nat.le_trans (xX (by omega) (by omega)) h.2.1,c⟩
    ·exact ⟨d,.inr ⟨h.1,h.2.1,h.2.2,fun d' a b c=>h2 ⟨d',a,b,c⟩⟩⟩
  obtain ⟨d,hd⟩:=h
  exact key d d (qD _) hd
 ·exact ⟨n,.inl ⟨rfl,fun d a b c=>h ⟨d,a,b,c⟩⟩⟩
theorem LF.prm {n l:Nat} (hn:2≤n) (h:LF n l):l=n↔Prm n:=by
 constructor
 ·rintro rfl
  rcases h with ⟨_,h⟩ | ⟨h1,h2,_,_⟩
  ·exact ⟨hn,h⟩
  ·have:=Nat.mul_le_mul_right l h1
   omega
 ·intro hp
  rcases h with ⟨h,_⟩ | ⟨h1,h2,h3,_⟩
  ·exact h
  ·exact absurd h3 (hp.2 l h1 h2)
def off (j:Nat):Nat:=[7,11,13,17,19,23,29,31,37].getD j 0
theorem qvf:∀j,j<8→∀e,e<37→off j<e→e<off (j+1)→e%2=0∨e%3=0∨e%5=0:=by decide
theorem qey:∀j,j<9→7≤off j∧off j≤37:=by decide
theorem qxi {k j d:Nat} (hj:j<8) (h1:30*k+off j<d) (h2:d<30*k+off (j+1)):d%2=0∨d%3=0∨d%5=0:=by
 obtain ⟨e,rfl⟩:∃e,d=30*k+e:=⟨d-30*k,by omega⟩
 have:=qey (j+1) (by omega)
 have:=qvf j hj e (by omega) (by omega) (by omega)
 omega
theorem qvg {j:Nat} (hj:j<9):7≤off j∧off j≤37:=qey j hj
theorem qez {n d q:Nat} (h:n%d=0) (hq:d%q=0):n%q=0:=Nat.mod_eq_zero_of_dvd (Nat.dvd_trans (xY hq) (xY h))
theorem qli {n d:Nat} (h2:n%2≠0) (h3:n%3≠0) (h5:n%5≠0) (h:d%2=0∨d%3=0∨d%5=0):n%d≠0:=by
 intro e
 rcases h with h | h | h
 ·exact h2 (qez e h)
 ·exact h3 (qez e h)
 ·exact h5 (qez e h)
theorem qrk {d D n:Nat} (h:n<D*D) (hd:d*d≤n):d<D:=by
 rcases qN d D with e | e
 ·exact e
 ·have:=xX e e;omega
def offA:List AV:=[.int .i64 7,.int .i64 11,.int .i64 13,.int .i64 17,.int .i64 19,.int .i64 23,.int .i64 29,.int .i64 31]
theorem qlj {j:Nat} (hj:j<8):offA.getD j .junk= .int .i64 (off j:Int):=by
 rcases (by omega:j=0∨j=1∨j=2∨j=3∨j=4∨j=5∨j=6∨j=7) with rfl | rfl | rfl | rfl | rfl | rfl | rfl | rfl<;>rfl
theorem qrl {n l:Nat} (hn:2≤n) (hn2:n≤2147483647) (hl:LF n l):Ret Tryz.prog G 138 [.int .i64 (n:Int)] [] (.int .i64 (l:Int)) []:=by
 refine zai zah Tryz.func138 comp138 _ 42 res138 nt138 (by simp) (by simp) ?_
 simp only [c138,r138_0,SS]
 refine zxg (zaf zah ?_)
 simp only [r138_1,SS,reduceCtorEq,qZ,qX]
 refine zal (fun m E H=>∃i:Nat,i+m=3∧H=[]∧E 0= .int .i64 (n:Int)∧E 10= .agg [.int .i64 2,.int .i64 3,.int .i64 5]∧E 11= .int .i64 (i:Int)∧(0<i→n%2≠0)∧(1<i→n%3≠0)∧(2<i→n%5≠0)) (n:=3)
  ⟨0,rfl,rfl,by simp only [zaa,zac,qU,qQ,if_false],by simp only [zaa,zac,qJ,qQ,reduceIte,if_false],by simp only [zaa,zac,qJ,qQ,reduceIte,if_false];rfl,fun h=>absurd h (by omega),fun h=>absurd h (by omega),fun h=>absurd h (by omega)⟩ ?_
 rintro m E H ⟨i,him,rfl,e0,e10,e11,k2,k3,k5⟩
 refine zaf zah ?_
 have er:∀q:Nat,Int.tmod (n:Int) (q:Int)=((n%q:Nat):Int):=fun q=>rfl
 simp only [l138_0,r138_2,SS,reduceCtorEq,reduceIte,e11]
 refine ⟨fun hlt=>?_,fun hge=>?_⟩
 ·obtain ⟨q,hq,hi⟩:∃q:Nat,([AV.int .i64 2,.int .i64 3,.int .i64 5]:List AV).getD i .junk= .int .i64 (q:Int)∧(i=0∧q=2∨i=1∧q=3∨i=2∧q=5):=by
   rcases (by omega:i=0∨i=1∨i=2) with rfl | rfl | rfl
   ·exact ⟨2,rfl,by omega⟩
   ·exact ⟨3,rfl,by omega⟩
   ·exact ⟨5,rfl,by omega⟩
  have w5:IntKind.i64.wrap ((i:Int)+1)=((i+1:Nat):Int):=by rw [show (i:Int)+1=((i+1:Nat):Int) by omega];exact w64 (by omega) (by omega)
  simp only [r138_3,r138_4,SS,forall_const,reduceCtorEq,reduceIte,qZ,qQ,qX,e0,e10,e11,hq,qK,er]
  refine ⟨⟨by omega,by omega,by omega⟩,by omega,fun h0=>?_,fun h0=>?_⟩
  ·have hlq:l=q:=by
    refine LF.uniq hl ?_
    rcases (by omega:q*q≤n∨n<q*q) with h | h
    ·refine .inr ⟨by omega,h,by omega,fun d hd hdq=>?_⟩
     rcases hi with ⟨rfl,rfl⟩ | ⟨rfl,rfl⟩ | ⟨rfl,rfl⟩
     ·omega
     ·rcases (by omega:d=2) with rfl;exact k2 (by omega)
     ·rcases (by omega:d=2∨d=3∨d=4) with rfl | rfl | rfl
      ·exact k2 (by omega)
      ·exact k3 (by omega)
      ·have:=k2 (by omega);omega
    ·refine .inl ⟨?_,fun d hd hdn=>?_⟩
     ·rcases hi with ⟨rfl,rfl⟩ | ⟨rfl,rfl⟩ | ⟨rfl,rfl⟩
      ·omega
      ·have:=k2 (by omega);omega
      ·have:=k2 (by omega);have:=k3 (by omega);omega
     ·have hdq:=qrk h hdn
      rcases hi with ⟨rfl,rfl⟩ | ⟨rfl,rfl⟩ | ⟨rfl,rfl⟩
      ·omega
      ·rcases (by omega:d=2) with rfl;exact k2 (by omega)
      ·rcases (by omega:d=2∨d=3∨d=4) with rfl | rfl | rfl
       ·exact k2 (by omega)
       ·exact k3 (by omega)
       ·have:=k2 (by omega);omega
   subst hlq
   simp only [r138_5,SS,reduceIte,qQ]
   refine ⟨fun _=>by simp,?_⟩
   exact ⟨.inl trivial,_,rfl,.keep _ _⟩
  ·simp only [r138_6,SS,reduceIte,qQ,e11,w5]
   refine ⟨m-1,_,_,by omega,⟨i+1,by omega,rfl,?_,?_,?_,fun h=>?_,fun h=>?_,fun h=>?_⟩,.refl⟩
   ·simp only [zaa,qQ,if_false,e0]
   ·simp only [zaa,qQ,if_false,e10]
   ·simp only [zaa,qQ,reduceIte,if_false]
   ·rcases hi with ⟨rfl,rfl⟩ | ⟨rfl,rfl⟩ | ⟨rfl,rfl⟩
    ·omega
    ·exact k2 (by omega)
    ·exact k2 (by omega)
   ·rcases hi with ⟨rfl,rfl⟩ | ⟨rfl,rfl⟩ | ⟨rfl,rfl⟩
    ·omega
    ·omega
    ·exact k3 (by omega)
   ·rcases hi with ⟨rfl,rfl⟩ | ⟨rfl,rfl⟩ | ⟨rfl,rfl⟩<;>omega
 ·have hi3:i=3:=by omega
  subst hi3
  have k2:=k2 (by omega)
  have k3:=k3 (by omega)
  have k5:=k5 (by omega)
  simp only [r138_7,r138_8,SS,reduceCtorEq,reduceIte,qQ,e0]
  refine zal (fun m E H=>∃k:Nat,k+m=1600∧H=[]∧E 0= .int .i64 (n:Int)∧E 5= .int .i64 (n:Int)∧E 6= .int .i64 ((30*k:Nat):Int)∧(∀d,2≤d→d<30*k+7→n%d≠0)∧(k=0∨(30*k+1)*(30*k+1)≤n)) (n:=1600)
   ⟨0,rfl,rfl,by simp only [zaa,qQ,if_false,e0],by simp only [zaa,qQ,reduceIte,if_false],by simp only [zaa,qQ,reduceIte,if_false];rfl,fun d hd hd7=>?_,.inl rfl⟩ ?_
  ·rcases (by omega:d=2∨d=3∨d=4∨d=5∨d=6) with rfl | rfl | rfl | rfl | rfl<;>omega
  clear e0 e10 e11 E
  rintro m E H ⟨k,hkm,rfl,e0,e5,e6,hd,hsq⟩
  refine zaf zah ?_
  have hk:k≤1545:=by
   rcases hsq with h | h
   ·omega
   ·rcases qN 1545 k with h2 | h2
    ·have:=xX (show 46381≤30*k+1 by omega) (show 46381≤30*k+1 by omega)
     omega
    ·exact h2
  simp only [l138_1,r138_9,SS,qZ,qQ,qX]
  refine zal (fun q E H=>∃j:Nat,j+q=8∧H=[]∧E 0= .int .i64 (n:Int)∧E 5= .int .i64 (n:Int)∧E 6= .int .i64 ((30*k:Nat):Int)∧E 23= .agg offA∧E 24= .int .i64 (j:Int)∧(∀d,2≤d→d<30*k+off j→n%d≠0)∧(j=0∨(30*k+off (j-1))*(30*k+off (j-1))≤n)) (n:=8)
   ⟨0,rfl,rfl,by simp only [zaa,qQ,if_false,e0],by simp only [zaa,qQ,if_false,e5],by simp only [zaa,qQ,if_false,e6],by simp only [zaa,qQ,reduceIte,if_false];rfl,by simp only [zaa,qQ,reduceIte,if_false];rfl,hd,.inl rfl⟩ ?_
  rintro q E H ⟨j,hjq,rfl,e0,e5,e6,e23,e24,hd,hsqj⟩
  refine zaf zah ?_
  simp only [l138_2,r138_10,SS,reduceCtorEq,reduceIte,qQ,e24]
  refine ⟨fun hlt=>?_,fun hge=>?_⟩
  ·have hj:j<8:=by omega
   obtain ⟨q,rfl⟩:∃q',q=q'+1:=⟨q-1,by omega⟩
   have ho:=qvg (j:=j) (by omega)
   have hg:=qlj hj
   have hol:offA.length=8:=rfl
   generalize hD:30*k+off j=D at*
   have wd:IntKind.i64.wrap (((30*k:Nat):Int)+(off j:Int))=(D:Int):=by rw [show ((30*k:Nat):Int)+(off j:Int)=(D:Int) by omega];exact w64 (by omega) (by omega)
   have hDD:D*D≤46390*46390:=xX (by omega) (by omega)
   have wq:IntKind.i64.wrap ((D:Int)*(D:Int))=((D*D:Nat):Int):=by rw [←yZ];exact w64 (by omega) (by omega)
   have w5:IntKind.i64.wrap ((j:Int)+1)=((j+1:Nat):Int):=by rw [show (j:Int)+1=((j+1:Nat):Int) by omega];exact w64 (by omega) (by omega)
   have erD:=er D
   simp only [r138_11,r138_12,r138_13,SS,forall_const,reduceCtorEq,reduceIte,qQ,qX,e0,e6,e23,e24,hg,hol,qK,wd,wq]
   refine ⟨⟨by omega,by omega,by omega⟩,fun hgt=>?_,fun hng=>?_⟩
   ·have hln:l=n:=LF.uniq hl (.inl ⟨rfl,fun d h2 hdn=>hd d h2 (qrk (by omega) hdn)⟩)
    subst hln
    simp only [r138_18,SS,reduceIte,qQ,e5]
    refine ⟨fun _=>by simp,?_⟩
    exact ⟨.inl trivial,_,rfl,.keep _ _⟩
   ·have hD0:(D:Int)≠0:=by omega
    simp only [r138_14,SS,reduceCtorEq,reduceIte,qQ,e0,erD]
    refine ⟨hD0,fun h0=>?_,fun h0=>?_⟩
    ·have hlD:l=D:=LF.uniq hl (.inr ⟨by omega,by omega,by omega,hd⟩)
     subst hlD
     simp only [r138_15,r138_18,SS,reduceIte,qQ]
     refine ⟨fun _=>by simp,?_⟩
     exact ⟨.inl trivial,_,rfl,.keep _ _⟩
    ·simp only [r138_16,SS,reduceIte,qQ,e24,w5]
     refine ⟨q,_,_,by omega,⟨j+1,by omega,rfl,?_,?_,?_,?_,?_,fun d h2 hlt=>?_,.inr ?_⟩,.refl⟩
     ·simp only [zaa,qQ,if_false,e0]
     ·simp only [zaa,qQ,if_false,e5]
     ·simp only [zaa,qQ,if_false,e6]
     ·simp only [zaa,qQ,if_false,e23]
     ·simp only [zaa,qQ,reduceIte,if_false]
     ·rcases (by omega:d<D∨d=D∨D<d) with h | h | h
      ·exact hd d h2 h
      ·subst h;omega
      ·exact qli k2 k3 k5 (qxi hj (by omega) hlt)
     ·rw [Nat.add_sub_cancel,hD];omega
  ·have hj8:j=8:=by omega
   subst hj8
   obtain ⟨m,rfl⟩:∃m',m=m'+1:=⟨m-1,by omega⟩
   have e31:off (8-1)=31:=rfl
   have e37:off 8=37:=rfl
   rw [e31] at hsqj
   rw [e37] at hd
   have w30:IntKind.i64.wrap (((30*k:Nat):Int)+30)=((30*(k+1):Nat):Int):=by rw [show ((30*k:Nat):Int)+30=((30*(k+1):Nat):Int) by omega];exact w64 (by omega) (by omega)
   simp only [r138_17,SS,reduceIte,qQ,e6,w30]
   refine ⟨m,_,_,by omega,⟨k+1,by omega,rfl,?_,?_,?_,fun d h2 hlt=>hd d h2 (by omega),.inr ?_⟩,.refl⟩
   ·simp only [zaa,qQ,if_false,e0]
   ·simp only [zaa,qQ,if_false,e5]
   ·simp only [zaa,qQ,reduceIte,if_false]
   ·rw [show 30*(k+1)+1=30*k+31 by omega];omega
def PrmZ (z:Int):Prop:=2≤z∧z≤2147483647∧Prm z.toNat
theorem prIs {z:Int} {b:Bool} (hb:b=true↔PrmZ z):Ret Tryz.prog G 71 [.int .i64 z] [] (.bool b) []:=by
 refine zai zah Tryz.func71 comp71 _ 15 res71 nt71 (by simp) (by simp) ?_
 by_cases h2:2≤z
 rotate_left
 ·have d1:decide (2≤z)=false:=decide_eq_false h2
  obtain rfl:b=false:=by
   cases b with
   | false=>rfl
   | true=>exact absurd (hb.1 rfl).1 h2
  simp only [c71,r71_0,r71_1,SS,forall_const,reduceCtorEq,reduceIte,qQ,d1]
  exact ⟨.inl trivial,_,rfl,.keep _ _⟩
 have d1:decide (2≤z)=true:=decide_eq_true h2
 by_cases hM:z≤2147483647
 rotate_left
 ·have d2:decide (z≤2147483647)=false:=decide_eq_false hM
  obtain rfl:b=false:=by
   cases b with
   | false=>rfl
   | true=>exact absurd (hb.1 rfl).2.1 hM
  simp only [c71,r71_0,r71_1,SS,forall_const,reduceCtorEq,reduceIte,qQ,d1,d2]
  exact ⟨.inl trivial,_,rfl,.keep _ _⟩
 have d2:decide (z≤2147483647)=true:=decide_eq_true hM
 obtain ⟨n,rfl⟩:∃n:Nat,z=(n:Int):=⟨z.toNat,by omega⟩
 obtain ⟨l,hl⟩:=LF.ex n
 have t:=qrl (n:=n) (by omega) (by omega) hl
 have hbl:decide ((l:Int)=(n:Int))=b:=by
  have hp:=LF.prm (by omega) hl
  have:(l:Int)=(n:Int)↔b=true:=by
   rw [hb]
   constructor
   ·intro e;exact ⟨h2,hM,by rw [qK];exact hp.1 (by omega)⟩
   ·intro e;have:=hp.2 (by have:=e.2.2;rwa [qK] at this);omega
  cases b with
  | true=>exact decide_eq_true (this.2 rfl)
  | false=>exact decide_eq_false (fun e=>by simpa using this.1 e)
 simp only [c71,r71_0,r71_1,SS,forall_const,reduceCtorEq,reduceIte,qQ,d1,d2]
 refine zab t ?_
 simp only [SS,forall_const,reduceCtorEq,reduceIte,qQ,hbl]
 exact ⟨.inl trivial,_,rfl,.keep _ _⟩
open Go.Limb
def zvo (B:Heap) (sz n:Nat) (cs:List AV) (a:AV) (H:Heap):Prop:=
 (n=0∧cs=[]∧a= .vec [] 0 (some 0)∧∃j,H=B++List.replicate j none)∨
 (0<n∧cs.length=n*sz∧∃j,a= .sl (B.length+j) 0 n sz none∧H=B++(List.replicate j none++[some cs]))
theorem zqo (j:Nat) (x:Option (List AV)) (r:Heap) (hx:x=none):List.replicate j (none:Option (List AV))++x::r=List.replicate (j+1) none++r:=by
 subst hx
 rw [List.replicate_succ',xN];rfl
theorem zmz {B:Heap} {sz n bytes:Nat} {cs xs:List AV} {a:AV} {H:Heap} (h:zvo B sz n cs a H) (hx:xs.length=sz) (hs:AV.scalL xs=true) (hb:4*(n+1)*bytes≤281474976710656) (hn:n+1<4611686018427387904):
  ∃e rd H4 H5,(∀n0,zbu n0 (H.length+1) (H++[some xs]) sz bytes a (.sl H.length 0 1 sz (some 1))=some (.sl (H.length+1) 0 (n+1) sz none,e,rd))∧zag e (H++[some xs]++[none])=H4∧getB H4 (H.length+1)=some (cs++xs)∧
   (∀(Γ:Glob) (n0:Nat) (E:Env),n0≤B.length→Weak Γ n0 E H4 E H5)∧zvo B sz (n+1) (cs++xs) (.sl (H.length+1) 0 (n+1) sz none) H5:=by
 have hg:getB (H++[some xs]) H.length=some xs:=by
  simp [getB]
 have b1:4*(n+1)*bytes≤2^48:=hb
 have b2:n+1<2^62:=hn
 have hxs:(xs.drop 0).take (1*sz)=xs:=by rw [xQ,xG,qV (by omega)]
 have hel:zds (H++[some xs]) sz 1 (.sl H.length 0 1 sz (some 1))=some (xs,[H.length]):=by
  simp only [zds,hg,need,qD,qP,xG,hx,and_self,if_true]
  rw [xQ,qV (by omega)]
 rcases h with ⟨rfl,rfl,rfl,j,rfl⟩ | ⟨h0,hl,j,rfl,rfl⟩
 ·refine ⟨[((B++List.replicate j none).length+1,some xs)],[(B++List.replicate j none).length],_,B++(List.replicate (j+1) none++[some xs]),fun n0=>?_,rfl,?_,fun Γ n0 E hn0=>?_,?_⟩
  ·simp only [zbu,lenA,qR,hel]
   have b1':4*(0+1)*bytes≤2^48:=hb
   simp only [need,xC,if_false,Nat.zero_mul,xE,b1',b2,and_self,if_true,List.take_zero,yQ]
  ·simp only [zag]
   have:B++List.replicate j none++[some xs]++[none]=(B++List.replicate j none)++[some xs,none]:=by simp
   rw [this,qA _ _ (by omega),qT]
   unfold getB
   rw [qY (by omega),qT]
   rfl
  ·have e1:zag [((B++List.replicate j none).length+1,some xs)] (B++List.replicate j none++[some xs]++[none])=(B++List.replicate j none)++[some xs,some xs]:=by
    simp only [zag]
    have:B++List.replicate j none++[some xs]++[none]=(B++List.replicate j none)++[some xs,none]:=by simp
    rw [this,qA _ _ (by omega),qT]
    rfl
   rw [e1]
   have e2:B++(List.replicate (j+1) none++[some xs])=(B++List.replicate j none)++[none,some xs]:=by
    rw [←zqo j none _ rfl];simp
   rw [e2]
   refine zsq (by simp) (fun i=>?_)
   rcases qN i (B++List.replicate j (none:Option (List AV))).length with hi | hi
   ·left
    rw [qC hi,qC hi]
   ·rw [qY hi,qY hi]
    have:n0≤i:=by simp at hi;omega
    generalize i-(B++List.replicate j (none:Option (List AV))).length=k
    match k with
    | 0=>exact .inr ⟨this,rfl⟩
    | k+1=>exact .inl rfl
  ·refine .inr ⟨by omega,by simp;omega,j+1,?_,rfl⟩
   simp [Nat.add_assoc]
 ·have hj:getB (B++(List.replicate j none++[some cs])++[some xs]) (B.length+j)=some cs:=by
   have:B++(List.replicate j none++[some cs])++[some xs]=(B++List.replicate j none)++(some cs::[some xs]):=by simp
   rw [this]
   simp [getB]
  have hlen:(B++(List.replicate j none++[some cs])).length=B.length+j+1:=by simp;omega
  refine ⟨[(B.length+j,none),(B.length+j+1+1,some (cs++xs))],[B.length+j,B.length+j+1],_,B++(List.replicate (j+2) none++[some (cs++xs)]),fun n0=>?_,rfl,?_,fun Γ n0 E hn0=>?_,?_⟩
  ·simp only [zbu,lenA,qR,hel,hj]
   have e1:¬((none:Option Nat)=some n):=by simp
   have e2:B.length+j≠B.length+j+1+1:=by omega
   rw [hlen]
   simp only [need,xC,if_false,hl,qD,b1,b2,and_self,if_true,e1,xE,hs,e2,ne_eq,not_false_eq_true]
   rw [qV (by omega)]
  ·simp only [zag]
   have:B++(List.replicate j none++[some cs])++[some xs]++[none]=(B++List.replicate j none)++[some cs,some xs,none]:=by simp
   rw [this,hlen,qA _ _ (by simp),qA _ _ (by simp;omega)]
   have k1:B.length+j-(B++List.replicate j (none:Option (List AV))).length=0:=by simp
   have k2:B.length+j+1+1-(B++List.replicate j (none:Option (List AV))).length=2:=by simp;omega
   rw [k1,k2]
   unfold getB
   rw [qY (by simp;omega),k2]
   rfl
  ·have e1:zag [(B.length+j,none),(B.length+j+1+1,some (cs++xs))] (B++(List.replicate j none++[some cs])++[some xs]++[none])=(B++List.replicate j none)++[none,some xs,some (cs++xs)]:=by
    simp only [zag]
    have:B++(List.replicate j none++[some cs])++[some xs]++[none]=(B++List.replicate j none)++[some cs,some xs,none]:=by simp
    rw [this,qA _ _ (by simp),qA _ _ (by simp;omega)]
    have k1:B.length+j-(B++List.replicate j (none:Option (List AV))).length=0:=by simp
    have k2:B.length+j+1+1-(B++List.replicate j (none:Option (List AV))).length=2:=by simp;omega
    rw [k1,k2]
    rfl
   rw [e1]
   have e2:B++(List.replicate (j+2) none++[some (cs++xs)])=(B++List.replicate j none)++[none,none,some (cs++xs)]:=by
    rw [←zqo (j+1) none _ rfl,←zqo j none _ rfl];simp
   rw [e2]
   refine zsq (by simp) (fun i=>?_)
   rcases qN i (B++List.replicate j (none:Option (List AV))).length with hi | hi
   ·left
    rw [qC hi,qC hi]
   ·rw [qY hi,qY hi]
    have:n0≤i:=by simp at hi;omega
    generalize i-(B++List.replicate j (none:Option (List AV))).length=k
    match k with
    | 0=>exact .inl rfl
    | 1=>exact .inr ⟨this,rfl⟩
    | k+2=>exact .inl rfl
  ·refine .inr ⟨by omega,by rw [List.length_append,hl,hx,Nat.add_mul,xG],j+2,?_,rfl⟩
   rw [hlen]
   rfl
theorem zvp {l:List Nat} {i:Nat} (h:l.length≤i):l.getD i 0=0:=by
 rw [qW,List.getElem?_eq_none h];rfl
theorem zdc {α:Type} (H:List α) (x:α):(H++[x]).length=H.length+1:=by simp
theorem qlk {x y:Nat} (hx:x<4294967296) (hy:y≤4294967296):IntKind.u32.wrap (IntKind.u64.wrap ((x:Int)-(y:Int)))=(((x+8589934592-y)%4294967296:Nat):Int):=by
 simp [IntKind.wrap,IntKind.bits,IntKind.signed];omega
theorem zsum (m n:List Nat) (c d:Option Nat) (hm:m.length<1048576) (hn:n.length<1048576) (dm:Dig m) (dn:Dig n):
  ∃c',Ret Tryz.prog G 208 [.vec (u32s m) m.length c,.vec (u32s n) n.length d] [] (.vec (u32s (sumL m n (max m.length n.length) 0 0 [])) (sumL m n (max m.length n.length) 0 0 []).length c') []:=by
 refine ⟨none,?_⟩
 refine zai zah Tryz.func208 comp208 _ 54 res208 nt208 (by simp) (by simp) ?_
 generalize hfin:sumL m n (max m.length n.length) 0 0 []=fin
 simp only [c208,r208_0,r208_1,r208_2,r208_3,SS,reduceCtorEq]
 refine zal (fun k E H=>∃i cy out a,k+i=max m.length n.length∧out.length=i∧cy≤1∧sumL m n k i cy out=fin∧E 0= .vec (u32s m) m.length c∧E 1= .vec (u32s n) n.length d∧
  E 5=a∧E 6= .int .u64 (cy:Nat)∧E 7= .int .i64 (i:Nat)∧zvo [] 1 i (u32s out) a H) (n:=max m.length n.length) ⟨0,0,[],_,by omega,rfl,by omega,hfin,?_,?_,rfl,?_,?_,.inl ⟨rfl,rfl,?_,0,rfl⟩⟩ ?_
 ·simp only [zaa,zac,qU,qQ,if_false]
 ·simp only [zaa,zac,qU,qJ,qQ,if_false]
 ·simp only [zaa,zac,qJ,qQ,reduceIte,if_false];rfl
 ·simp only [zaa,zac,qJ,qQ,reduceIte,if_false];rfl
 ·simp only [zaa,zac,qJ,qQ,reduceIte,if_false]
 rintro k E H ⟨i,cy,out,a,hki,hol,hcy,hf,h0,h1,h5,h6,h7,hO⟩
 have hx:∃t,decide ((i:Int)<(m.length:Nat))=t:=⟨_,rfl⟩
 have bm:=dm.getD i
 have bn:=dn.getD i
 cases k with
 | zero=>
  refine zaf zah ?_
  have d1:decide ((i:Int)<(m.length:Nat))=false:=decide_eq_false (by omega)
  have d2:decide ((i:Int)<(n.length:Nat))=false:=decide_eq_false (by omega)
  simp only [l208_0,r208_4,SS,forall_const,reduceCtorEq,reduceIte,qQ,h0,h1,h7,d1,d2]
  simp only [sumL] at hf
  obtain ⟨e,rd,H4,H5,hap,hH4,hg,hw,hO'⟩:=zmz (bytes:=4) (xs:=[.int .u32 ((cy%4294967296:Nat):Int)]) hO rfl rfl (by omega) (by omega)
  simp only [r208_12,SS,reduceIte,qQ,qX,h5,h6,wu32,zdc,hap]
  refine ⟨.inl trivial,_,rfl,?_⟩
  have e1:u32s out++[.int .u32 ((cy%4294967296:Nat):Int)]=u32s fin:=by rw [←hf];simp [u32s]
  rw [e1] at hg
  have hfl:fin.length=i+1:=by rw [←hf];simp [hol]
  rw [hfl]
  refine zqm ?_ hfl.symm
  rw [hH4]
  exact hg
 | succ k=>
  have step9:∀E':Env,E' 0= .vec (u32s m) m.length c→E' 1= .vec (u32s n) n.length d→E' 5=a→E' 6= .int .u64 ((cy+m.getD i 0+n.getD i 0:Nat):Int)→E' 7= .int .i64 (i:Nat)→
    W Tryz.prog G 0 54 (.seq (.reg r208_9 none) (.reg r208_10 none)) E' H (fun x E'' H''=>x= .normal∧E'' 0= .vec (u32s m) m.length c∧E'' 1= .vec (u32s n) n.length d∧E'' 7= .int .i64 (i:Nat)∧E'' 6= .int .u64 (((cy+m.getD i 0+n.getD i 0)/4294967296:Nat):Int)∧
     ∃H5,(∀E3,Weak G 0 E3 H'' E3 H5)∧zvo [] 1 (i+1) (u32s (out++[(cy+m.getD i 0+n.getD i 0)%4294967296])) (E'' 5) H5):=by
   intro E' g0 g1 g5 g6 g7
   obtain ⟨e,rd,H4,H5,hap,hH4,hg,hw,hO'⟩:=zmz (bytes:=4) (xs:=[.int .u32 (((cy+m.getD i 0+n.getD i 0)%4294967296:Nat):Int)]) hO rfl rfl (by omega) (by omega)
   refine zaf zah ?_
   simp only [r208_9,SS,reduceIte,qQ,qX,g5,g6,wu32,zdc,hap]
   simp only [r208_10,SS,reduceCtorEq,reduceIte,qQ,qrj,g0,g1,g7,g6]
   refine ⟨by omega,?_⟩
   rw [hH4]
   refine ⟨H5,fun E3=>hw _ _ _ (by simp),?_⟩
   have e1:u32s out++[.int .u32 (((cy+m.getD i 0+n.getD i 0)%4294967296:Nat):Int)]=u32s (out++[(cy+m.getD i 0+n.getD i 0)%4294967296]):=by simp [u32s]
   rw [e1] at hO'
   exact hO'
  have st1:∀E':Env,E' 0= .vec (u32s m) m.length c→E' 1= .vec (u32s n) n.length d→E' 5=a→E' 6= .int .u64 (cy:Nat)→E' 7= .int .i64 (i:Nat)→
    W Tryz.prog G 0 54 (.seq (.reg r208_5 none) (.cond (.t 23) (.reg r208_6 none) .skip)) E' H (fun x E'' H''=>x= .normal∧H''=H∧E'' 0= .vec (u32s m) m.length c∧E'' 1= .vec (u32s n) n.length d∧E'' 5=a∧E'' 6= .int .u64 ((cy+m.getD i 0:Nat):Int)∧E'' 7= .int .i64 (i:Nat)):=by
   intro E' g0 g1 g5 g6 g7
   refine zaf zah ?_
   simp only [r208_5,SS,reduceCtorEq,reduceIte,qQ,g0,g7]
   refine ⟨fun hl=>?_,fun hl=>?_⟩
   ·have g:=zcl m i (by omega) AV.junk
    have w1:IntKind.u64.wrap ((cy:Int)+((m.getD i 0:Nat):Int))=((cy+m.getD i 0:Nat):Int):=by rw [←qE];exact zgh (by omega)
    simp only [r208_6,SS,forall_const,reduceCtorEq,reduceIte,qQ,g0,g1,g5,g6,g7,qK,g,zbl,zgh (show m.getD i 0<18446744073709551616 by omega),w1]
    exact ⟨⟨by omega,hl⟩,by omega⟩
   ·simp only [g1,g5,g6,zvp (show m.length≤i by omega),xO,and_self]
  have st2:∀E':Env,E' 0= .vec (u32s m) m.length c→E' 1= .vec (u32s n) n.length d→E' 5=a→E' 6= .int .u64 ((cy+m.getD i 0:Nat):Int)→E' 7= .int .i64 (i:Nat)→
    W Tryz.prog G 0 54 (.seq (.reg r208_7 none) (.cond (.t 34) (.reg r208_8 none) .skip)) E' H (fun x E'' H''=>x= .normal∧H''=H∧E'' 0= .vec (u32s m) m.length c∧E'' 1= .vec (u32s n) n.length d∧E'' 5=a∧E'' 6= .int .u64 ((cy+m.getD i 0+n.getD i 0:Nat):Int)∧E'' 7= .int .i64 (i:Nat)):=by
   intro E' g0 g1 g5 g6 g7
   refine zaf zah ?_
   simp only [r208_7,SS,reduceCtorEq,reduceIte,qQ,g1,g7]
   refine ⟨fun hl=>?_,fun hl=>?_⟩
   ·have g:=zcl n i (by omega) AV.junk
    have w1:IntKind.u64.wrap (((cy+m.getD i 0:Nat):Int)+((n.getD i 0:Nat):Int))=((cy+m.getD i 0+n.getD i 0:Nat):Int):=by rw [←qE];exact zgh (by omega)
    simp only [r208_8,SS,forall_const,reduceCtorEq,reduceIte,qQ,g0,g1,g5,g6,g7,qK,g,zbl,zgh (show n.getD i 0<18446744073709551616 by omega),w1]
    exact ⟨⟨by omega,hl⟩,by omega⟩
   ·simp only [g0,g5,g6,zvp (show n.length≤i by omega),xO,and_self]
  have hor:(if decide ((i:Int)<(m.length:Nat))=true then AV.bool true else AV.bool (decide ((i:Int)<(n.length:Nat))))= .bool true:=by
   by_cases h:(i:Int)<(m.length:Nat)
   ·rw [if_pos (decide_eq_true h)]
   ·rw [if_neg (by simp at h ⊢;exact h),decide_eq_true (by omega)]
  have tail:∀E':Env,E' 0= .vec (u32s m) m.length c→E' 1= .vec (u32s n) n.length d→E' 5=a→E' 6= .int .u64 (cy:Nat)→E' 7= .int .i64 (i:Nat)→
    W Tryz.prog G 0 54 (.seq (.block 1 (.seq (.seq (.reg r208_5 none) (.cond (.t 23) (.reg r208_6 none) .skip)) (.seq (.seq (.reg r208_7 none) (.cond (.t 34) (.reg r208_8 none) .skip)) (.seq (.reg r208_9 none) (.reg r208_10 none))))) (.reg r208_11 none)) E' H
     (fun x E'' H''=>x= .normal∧E'' 0= .vec (u32s m) m.length c∧E'' 1= .vec (u32s n) n.length d∧E'' 7= .int .i64 ((i+1:Nat):Int)∧E'' 6= .int .u64 (((cy+m.getD i 0+n.getD i 0)/4294967296:Nat):Int)∧
     ∃H5,(∀E3,Weak G 0 E3 H'' E3 H5)∧zvo [] 1 (i+1) (u32s (out++[(cy+m.getD i 0+n.getD i 0)%4294967296])) (E'' 5) H5):=by
   intro E' g0 g1 g5 g6 g7
   refine zeq (zmo (zeq ((st1 E' g0 g1 g5 g6 g7).mono ?_)))
   rintro x E1 H1 ⟨rfl,rfl,a0,a1,a5,a6,a7⟩
   refine zeq ((st2 E1 a0 a1 a5 a6 a7).mono ?_)
   rintro x E2 H2 ⟨rfl,rfl,b0,b1,b5,b6,b7⟩
   refine (step9 E2 b0 b1 b5 b6 b7).mono ?_
   rintro x E3 H3 ⟨rfl,c0,c1,c7,c6,H5,hw,hO'⟩
   refine zaf zah ?_
   have w1:IntKind.i64.wrap ((i:Int)+1)=((i+1:Nat):Int):=by rw [show (i:Int)+1=((i+1:Nat):Int) by omega];exact w64 (by omega) (by omega)
   simp only [r208_11,SS,reduceCtorEq,reduceIte,qQ,c0,c1,c7,c6,w1]
   exact ⟨H5,hw,hO'⟩
  simp only [l208_0]
  refine zeq (zaf zah ?_)
  simp only [r208_4,SS,forall_const,reduceCtorEq,reduceIte,qQ,h0,h1,h7]
  refine ⟨fun hnm=>⟨fun hn=>?_,fun hnn=>absurd hnn (by omega)⟩,fun hm=>?_⟩
  all_goals
   refine (tail _ (by simp only [zaa,qQ,if_false,h0]) (by simp only [zaa,qQ,if_false,h1]) (by simp only [zaa,qQ,if_false,h5]) (by simp only [zaa,qQ,if_false,h6]) (by simp only [zaa,qQ,if_false,h7])).mono ?_
   rintro x E3 H3 ⟨rfl,c0,c1,c7,c6,H5,hw,hO'⟩
   refine ⟨k,E3,H5,by omega,⟨i+1,_,_,_,by omega,by simp [hol],?_,hf,c0,c1,rfl,c6,c7,hO'⟩,hw E3⟩
   omega
theorem ziu (m n:List Nat) (c d:Option Nat) (hm:m.length<1048576) (hn:n.length≤m.length) (dm:Dig m) (dn:Dig n):
  ∃c',Ret Tryz.prog G 209 [.vec (u32s m) m.length c,.vec (u32s n) n.length d] [] (.vec (u32s (difL m n m.length 0 0 [])) (difL m n m.length 0 0 []).length c') []:=by
 have hlen:∀k i b out,(difL m n k i b out).length=k+out.length:=by
  intro k
  induction k with
  | zero=>intro i b out;simp [difL]
  | succ k ih=>intro i b out;simp only [difL];rw [ih];simp;omega
 refine ⟨if m.length=0 then some 0 else none,?_⟩
 refine zai zah Tryz.func209 comp209 _ 46 res209 nt209 (by simp) (by simp) ?_
 generalize hfin:difL m n m.length 0 0 []=fin
 have hfl:fin.length=m.length:=by rw [←hfin,hlen];simp
 simp only [c209,r209_0,r209_1,r209_2,r209_3,SS,reduceCtorEq]
 refine zal (fun k E H=>∃i b out a,k+i=m.length∧out.length=i∧b≤1∧difL m n k i b out=fin∧E 0= .vec (u32s m) m.length c∧E 1= .vec (u32s n) n.length d∧
  E 5=a∧E 6= .int .u64 (b:Nat)∧E 7= .int .i64 (i:Nat)∧zvo [] 1 i (u32s out) a H) (n:=m.length) ⟨0,0,[],_,by omega,rfl,by omega,hfin,?_,?_,rfl,?_,?_,.inl ⟨rfl,rfl,?_,0,rfl⟩⟩ ?_
 ·simp only [zaa,zac,qU,qQ,if_false]
 ·simp only [zaa,zac,qU,qJ,qQ,if_false]
 ·simp only [zaa,zac,qJ,qQ,reduceIte,if_false];rfl
 ·simp only [zaa,zac,qJ,qQ,reduceIte,if_false];rfl
 ·simp only [zaa,zac,qJ,qQ,reduceIte,if_false]
 rintro k E H ⟨i,b,out,a,hki,hol,hb,hf,h0,h1,h5,h6,h7,hO⟩
 have bm:=dm.getD i
 have bn:=dn.getD i
 cases k with
 | zero=>
  refine zaf zah ?_
  have d1:decide ((i:Int)<(m.length:Nat))=false:=decide_eq_false (by omega)
  have hf:out=fin:=hf
  subst hf
  simp only [l209_0,r209_4,SS,forall_const,reduceCtorEq,reduceIte,qQ,h0,h7,d1]
  simp only [r209_13,SS,reduceIte,qQ,h5]
  refine ⟨.inl trivial,_,rfl,?_⟩
  rcases hO with ⟨rfl,h9,rfl,j,rfl⟩ | ⟨hi,hl,j,rfl,rfl⟩
  ·have:m.length=0:=by omega
   have:out=[]:=List.length_eq_zero_iff.1 hol
   subst this
   rw [if_pos (by omega)]
   exact .drop _ _ rfl (by intro i cs h;omega)
  ·rw [if_neg (by omega),hol]
   refine zqm ?_ hol.symm
   simp [getB]
 | succ k=>
  simp only [difL] at hf
  have hnt:Tryz.f209.ntmps=46:=nt209
  have st6:∀E':Env,E' 0= .vec (u32s m) m.length c→E' 1= .vec (u32s n) n.length d→E' 5=a→E' 8= .int .u64 (b:Nat)→E' 7= .int .i64 (i:Nat)→
    W Tryz.prog G 0 46 (.seq (.reg r209_6 none) (.cond (.t 19) (.reg r209_7 none) .skip)) E' H (fun x E'' H''=>x= .normal∧H''=H∧E'' 0= .vec (u32s m) m.length c∧E'' 1= .vec (u32s n) n.length d∧E'' 5=a∧E'' 8= .int .u64 ((b+n.getD i 0:Nat):Int)∧E'' 7= .int .i64 (i:Nat)):=by
   intro E' g0 g1 g5 g8 g7
   refine zaf zah ?_
   simp only [r209_6,SS,reduceCtorEq,reduceIte,qQ,g1,g7]
   refine ⟨fun hl=>?_,fun hl=>?_⟩
   ·have g:=zcl n i (by omega) AV.junk
    have w1:IntKind.u64.wrap ((b:Int)+((n.getD i 0:Nat):Int))=((b+n.getD i 0:Nat):Int):=by rw [←qE];exact zgh (by omega)
    simp only [r209_7,SS,forall_const,reduceCtorEq,reduceIte,qQ,g0,g1,g5,g8,g7,qK,g,zbl,zgh (show n.getD i 0<18446744073709551616 by omega),w1]
    exact ⟨⟨by omega,hl⟩,by omega⟩
   ·simp only [g0,g5,g8,zvp (show n.length≤i by omega),xO,and_self]
  have hi:i<m.length:=by omega
  have gm:=zcl m i hi AV.junk
  have wm:IntKind.u64.wrap ((m.getD i 0:Nat):Int)=((m.getD i 0:Nat):Int):=zgh (by omega)
  have wd:IntKind.u32.wrap (IntKind.u64.wrap (((m.getD i 0:Nat):Int)-((b+n.getD i 0:Nat):Int)))=(((m.getD i 0+8589934592-(b+n.getD i 0))%4294967296:Nat):Int):=by
   exact qlk (by omega) (by omega)
  obtain ⟨e,rd,H4,H5,hap,hH4,hg,hw,hO'⟩:=zmz (bytes:=4) (xs:=[.int .u32 (((m.getD i 0+8589934592-(b+n.getD i 0))%4294967296:Nat):Int)]) hO rfl rfl (by omega) (by omega)
  have e1:u32s out++[.int .u32 (((m.getD i 0+8589934592-(b+n.getD i 0))%4294967296:Nat):Int)]=u32s (out++[(m.getD i 0+8589934592-(b+n.getD i 0))%4294967296]):=by simp [u32s]
  rw [e1] at hO'
  have w1:IntKind.i64.wrap ((i:Int)+1)=((i+1:Nat):Int):=by rw [show (i:Int)+1=((i+1:Nat):Int) by omega];exact w64 (by omega) (by omega)
  simp only [l209_0]
  refine zeq (zaf zah ?_)
  simp only [r209_4,SS,reduceCtorEq,reduceIte,qQ,h0,h7]
  refine ⟨fun _=>?_,fun h=>absurd h (by omega)⟩
  refine zeq (zmo (zeq (zaf zah ?_)))
  simp only [r209_5,SS,reduceIte,qQ,h6]
  refine zeq ((st6 _ (by simp only [zaa,qQ,if_false,h0]) (by simp only [zaa,qQ,if_false,h1]) (by simp only [zaa,qQ,if_false,h5]) (by simp only [zaa,qQ,reduceIte,if_false]) (by simp only [zaa,qQ,if_false,h7])).mono ?_)
  rintro x E2 H2 ⟨rfl,rfl,b0,b1,b5,b8,b7⟩
  refine zaf zah ?_
  simp only [r209_8,SS,forall_const,reduceCtorEq,reduceIte,qQ,qX,b0,b5,b7,b8,qK,gm,zbl,wm,wd,zdc,hap]
  refine ⟨⟨by omega,by omega⟩,by omega,?_⟩
  simp only [r209_9,SS]
  simp only [r209_10,SS,forall_const,reduceCtorEq,reduceIte,qQ,b0,b7,b8,qK,gm,zbl,wm]
  refine ⟨⟨by omega,by omega⟩,by omega,fun hlt=>?_,fun hlt=>?_⟩
  ·have eb:brw (m.getD i 0) (b+n.getD i 0)=1:=by unfold brw;rw [if_pos (by omega)]
   rw [eb] at hf
   simp only [r209_11,SS]
   refine zaf zah ?_
   simp only [r209_12,SS,reduceIte,qQ,b7,w1]
   rw [hH4]
   refine ⟨k,_,H5,by omega,⟨i+1,1,_,_,by omega,by simp [hol],by omega,hf,?_,?_,rfl,?_,?_,?_⟩,hw _ _ _ (by simp)⟩<;>simp only [zaa,qQ,reduceIte,if_false,b0,b1]
   ·rfl
   ·exact hO'
  ·have eb:brw (m.getD i 0) (b+n.getD i 0)=0:=by unfold brw;rw [if_neg (by omega)]
   rw [eb] at hf
   refine zaf zah ?_
   simp only [r209_12,SS,reduceIte,qQ,b7,w1]
   rw [hH4]
   refine ⟨k,_,H5,by omega,⟨i+1,0,_,_,by omega,by simp [hol],by omega,hf,?_,?_,rfl,?_,?_,?_⟩,hw _ _ _ (by simp)⟩<;>simp only [zaa,qQ,reduceIte,if_false,b0,b1]
   ·rfl
   ·exact hO'
theorem zjj (l:List Nat):(zbg l).length≤l.length:=by rw [zhb];exact zhy _ _
theorem zaw.closed {z:Int} {a:AV} (h:zaw z a):a.closed=true:=by
 obtain ⟨l,c,_,_,_,rfl⟩:=h;rfl
theorem zaw.fits {z:Int} {a:AV} (h:zaw z a):z.natAbs<BIG:=by
 obtain ⟨l,c,hc,hl,hv,rfl⟩:=h
 rw [←hv];exact zeu hc.1 hl
theorem zAdd {x y:Int} {a b:AV} (ha:zaw x a) (hb:zaw y b) (hf:(x+y).natAbs<BIG):∃v,zaw (x+y) v∧Ret Tryz.prog G 190 [a,b] [] v []:=by
 obtain ⟨l,c,hc,hl,hv,rfl⟩:=ha
 obtain ⟨r,d,hd,hlr,hw,rfl⟩:=hb
 obtain ⟨c1,t1⟩:=zlj l c (by omega)
 obtain ⟨c2,t2⟩:=zlj r d (by omega)
 have l1:=zjj l
 have l2:=zjj r
 have k1:=zbk hc.1
 have k2:=zbk hd.1
 have v1:=(zck l).trans hv
 have v2:=(zck r).trans hw
 have t3:=zcmp (zbg l) (zbg r) c1 c2 (by omega) (by omega)
 rw [zhc k1 k2,v1,v2] at t3
 by_cases hs:decide (x<0)=decide (y<0)
 ·obtain ⟨c3,t4⟩:=zsum (zbg l) (zbg r) c1 c2 (by omega) (by omega) k1.1 k2.1
  obtain ⟨s1,s2,s3⟩:=qep (zbg l) (zbg r) k1.1 k2.1 (max (zbg l).length (zbg r).length) 0 0 [] (by omega) rfl Dig.nil (by omega) (by omega) rfl
  rw [v1,v2] at s1
  have hx:x.natAbs+y.natAbs=(x+y).natAbs:=by
   rcases qB x 0 with h | h | h<;>rcases qB y 0 with h' | h' | h'<;>simp at hs<;>omega
  obtain ⟨v,hv1,t5⟩:=zmy (decide (x<0)) _ c3 s2 (by rw [s3];omega) (by rw [s1,hx];exact hf)
  have e:sgnZ (decide (x<0)) (Limb.val (sumL (zbg l) (zbg r) (max (zbg l).length (zbg r).length) 0 0 []))=x+y:=by
   rw [s1];unfold sgnZ;simp only [decide_eq_true_eq]
   simp at hs
   split<;>omega
  rw [e] at hv1
  obtain ⟨l',c',_,_,_,rfl⟩:=hv1
  refine ⟨_,⟨l',c',by assumption,by assumption,by assumption,rfl⟩,?_⟩
  refine zai zah Tryz.func190 comp190 _ 40 res190 nt190 (by simp) (by simp) ?_
  simp only [c190,r190_0,r190_1,SS,forall_const,reduceCtorEq,reduceIte,qZ,qQ,qX]
  refine zab t1 ?_
  simp only [SS,forall_const,reduceIte,qZ,qQ,qX]
  refine zab t2 ?_
  simp only [SS,reduceIte,qQ]
  refine ⟨rfl,?_⟩
  simp only [r190_2,SS,forall_const,reduceIte,qZ,qQ,qX,hs,beq_self_eq_true]
  simp only [r190_3,SS,forall_const,reduceIte,qZ,qQ,qX]
  refine zab t4 ?_
  rw [hs] at t5
  simp only [SS,reduceIte,qQ]
  refine zab t5 ?_
  simp only [SS,reduceIte,qZ,qQ,qX]
  refine ⟨rfl,?_⟩
  exact ⟨.inl trivial,_,rfl,.drop _ _ rfl (by intro i cs h;omega)⟩
 ·have hs':(decide (x<0) == decide (y<0))=false:=by simpa using hs
  by_cases hcmp:y.natAbs≤x.natAbs
  ·have hsg:decide ((0:Int)≤sgn x.natAbs y.natAbs)=true:=by
    unfold sgn
    rw [if_neg (by omega)]
    split<;>rfl
   have hlen:(zbg r).length≤(zbg l).length:=by
    rcases qN (zbg l).length (zbg r).length with h | h
    ·exfalso
     have:=zhc k1 k2
     unfold cmpL at this
     rw [if_neg (by omega),if_pos h,v1,v2] at this
     rw [←this] at hsg
     simp at hsg
    ·exact h
   obtain ⟨c3,t4⟩:=ziu (zbg l) (zbg r) c1 c2 (by omega) hlen k1.1 k2.1
   obtain ⟨s1,s2,s3⟩:=zmv (zbg l) (zbg r) k1.1 k2.1 hlen (by omega) (zbg l).length 0 0 [] (by omega) rfl Dig.nil (by omega) rfl
   rw [v1,v2] at s1
   obtain ⟨v,hv1,t5⟩:=zmy (decide (x<0)) _ c3 s2 (by rw [s3];omega) (zeu s2 (by rw [s3];omega))
   have e:sgnZ (decide (x<0)) (Limb.val (difL (zbg l) (zbg r) (zbg l).length 0 0 []))=x+y:=by
    unfold sgnZ;simp only [decide_eq_true_eq]
    simp at hs
    split<;>omega
   rw [e] at hv1
   obtain ⟨l',c',_,_,_,rfl⟩:=hv1
   refine ⟨_,⟨l',c',by assumption,by assumption,by assumption,rfl⟩,?_⟩
   refine zai zah Tryz.func190 comp190 _ 40 res190 nt190 (by simp) (by simp) ?_
   simp only [c190,r190_0,r190_1,SS,forall_const,reduceCtorEq,reduceIte,qZ,qQ,qX]
   refine zab t1 ?_
   simp only [SS,forall_const,reduceIte,qZ,qQ,qX]
   refine zab t2 ?_
   simp only [SS,reduceIte,qQ]
   refine ⟨rfl,?_⟩
   simp only [r190_2,SS,forall_const,reduceIte,qZ,qQ,qX,hs']
   simp only [r190_4,SS,reduceIte,qQ]
   refine zab t3 ?_
   simp only [SS,forall_const,reduceIte,qQ,hsg]
   simp only [r190_5,SS,forall_const,reduceIte,qZ,qQ,qX]
   refine zab t4 ?_
   simp only [SS,reduceIte,qQ]
   refine zab t5 ?_
   simp only [SS,reduceIte,qZ,qQ,qX]
   refine ⟨rfl,?_⟩
   exact ⟨.inl trivial,_,rfl,.drop _ _ rfl (by intro i cs h;omega)⟩
  ·have hsg:decide ((0:Int)≤sgn x.natAbs y.natAbs)=false:=by
    unfold sgn
    rw [if_pos (by omega)]
    rfl
   have hlen:(zbg l).length≤(zbg r).length:=by
    rcases qN (zbg r).length (zbg l).length with h | h
    ·exfalso
     have:=zhc k1 k2
     unfold cmpL at this
     rw [if_neg (by omega),if_neg (by omega),v1,v2] at this
     rw [←this] at hsg
     simp at hsg
    ·exact h
   obtain ⟨c3,t4⟩:=ziu (zbg r) (zbg l) c2 c1 (by omega) hlen k2.1 k1.1
   obtain ⟨s1,s2,s3⟩:=zmv (zbg r) (zbg l) k2.1 k1.1 hlen (by omega) (zbg r).length 0 0 [] (by omega) rfl Dig.nil (by omega) rfl
   rw [v1,v2] at s1
   obtain ⟨v,hv1,t5⟩:=zmy (decide (y<0)) _ c3 s2 (by rw [s3];omega) (zeu s2 (by rw [s3];omega))
   have e:sgnZ (decide (y<0)) (Limb.val (difL (zbg r) (zbg l) (zbg r).length 0 0 []))=x+y:=by
    unfold sgnZ;simp only [decide_eq_true_eq]
    simp at hs
    split<;>omega
   rw [e] at hv1
   obtain ⟨l',c',_,_,_,rfl⟩:=hv1
   refine ⟨_,⟨l',c',by assumption,by assumption,by assumption,rfl⟩,?_⟩
   refine zai zah Tryz.func190 comp190 _ 40 res190 nt190 (by simp) (by simp) ?_
   simp only [c190,r190_0,r190_1,SS,forall_const,reduceCtorEq,reduceIte,qZ,qQ,qX]
   refine zab t1 ?_
   simp only [SS,forall_const,reduceIte,qZ,qQ,qX]
   refine zab t2 ?_
   simp only [SS,reduceIte,qQ]
   refine ⟨rfl,?_⟩
   simp only [r190_2,SS,forall_const,reduceIte,qZ,qQ,qX,hs']
   simp only [r190_4,SS,reduceIte,qQ]
   refine zab t3 ?_
   simp only [SS,forall_const,reduceIte,qQ,hsg]
   simp only [r190_6,SS,forall_const,reduceIte,qZ,qQ,qX]
   refine zab t4 ?_
   simp only [SS,reduceIte,qQ]
   refine zab t5 ?_
   simp only [SS,reduceIte,qZ,qQ,qX]
   refine ⟨rfl,?_⟩
   exact ⟨.inl trivial,_,rfl,.drop _ _ rfl (by intro i cs h;omega)⟩
theorem zSub {x y:Int} {a b:AV} (ha:zaw x a) (hb:zaw y b) (hf:(x-y).natAbs<BIG):∃v,zaw (x-y) v∧Ret Tryz.prog G 163 [a,b] [] v []:=by
 obtain ⟨n,hn,t1⟩:=zNeg hb
 obtain ⟨v,hv,t2⟩:=zAdd ha hn (by rwa [←xL])
 rw [←xL] at hv
 obtain ⟨l,c,_,_,_,rfl⟩:=ha
 obtain ⟨r,d,_,_,_,rfl⟩:=hb
 obtain ⟨l1,c1,_,_,_,rfl⟩:=hn
 obtain ⟨l',c',_,_,_,rfl⟩:=hv
 refine ⟨_,⟨l',c',by assumption,by assumption,by assumption,rfl⟩,?_⟩
 refine zai zah Tryz.func163 comp163 _ 9 res163 nt163 (by simp) (by simp) ?_
 simp only [c163,r163_0,r163_1,SS,reduceCtorEq,reduceIte,qZ,qQ,qX]
 refine zab t1 ?_
 simp only [SS,reduceIte,qQ]
 refine zab t2 ?_
 simp only [SS,reduceIte,qZ,qQ,qX]
 refine ⟨rfl,?_⟩
 exact ⟨.inl trivial,_,rfl,.drop _ _ rfl (by intro i cs h;omega)⟩
structure MulE (m n:List Nat) (sa sb:Bool) (ca cb:Option Nat) (E:Env):Prop where
 e2:E 2= .ptr 0 0
 e3:E 3= .ptr 1 0
 e4:E 4= .ptr 2 0
 e5:E 5= .sl 3 0 (m.length+n.length) 1 (some (m.length+n.length))
 e20:E 20= .vec (u32s m) m.length ca
 e21:E 21= .int .i64 (m.length:Nat)
def mulH (m n out:List Nat) (sa sb:Bool) (ca cb:Option Nat):Heap:=
 [some [.bool sa,.vec (u32s m) m.length ca],some [.bool sb,.vec (u32s n) n.length cb],some [.bool false,.vec [] 0 (some 0)],some (u32s out)]
theorem qrm (m n:List Nat) (sa sb:Bool) (ca cb:Option Nat) (i:Nat) (hi:i<m.length) (dm:Dig m) (dn:Dig n) (hm:m.length≤1100) (hn:n.length≤1100) (out0:List Nat) (ho0:out0.length=m.length+n.length) (do0:Dig out0) {E:Env} {Q:Post}
  (hE:MulE m n sa sb ca cb E) (h6:E 6= .int .i64 (i:Nat)) (h7:E 7= .int .u32 (m.getD i 0:Nat)) (h8:E 8= .int .u64 0) (h22:E 22= .int .i64 (i:Nat)) (h28:E 28= .vec (u32s n) n.length cb) (h29:E 29= .int .i64 (n.length:Nat)) (h30:E 30= .int .i64 0)
  (hQ:∀E',MulE m n sa sb ca cb E'→E' 6= .int .i64 (i:Nat)→E' 22= .int .i64 (i:Nat)→E' 8= .int .u64 ((mulR n (m.getD i 0) i n.length 0 0 out0).1:Nat)→Q (.exit 2) E' (mulH m n (mulR n (m.getD i 0) i n.length 0 0 out0).2 sa sb ca cb)):
  W Tryz.prog G 0 77 (.loop l164_1) E (mulH m n out0 sa sb ca cb) Q:=by
 have bx:=dm.getD i
 refine zal (fun k E H=>∃j c out,j+k=n.length∧c<4294967296∧out.length=m.length+n.length∧Dig out∧mulR n (m.getD i 0) i k j c out=mulR n (m.getD i 0) i n.length 0 0 out0∧MulE m n sa sb ca cb E∧E 6= .int .i64 (i:Nat)∧E 7= .int .u32 (m.getD i 0:Nat)∧
  E 8= .int .u64 (c:Nat)∧E 22= .int .i64 (i:Nat)∧E 28= .vec (u32s n) n.length cb∧E 29= .int .i64 (n.length:Nat)∧E 30= .int .i64 (j:Nat)∧H=mulH m n out sa sb ca cb) (n:=n.length) ⟨0,0,out0,by omega,by omega,ho0,do0,rfl,hE,h6,h7,h8,h22,h28,h29,h30,rfl⟩ ?_
 rintro k E H ⟨j,c,out,hjk,hc,ho,hd,hr,hE,h6,h7,h8,h22,h28,h29,h30,rfl⟩
 obtain ⟨e2,e3,e4,e5,e20,e21⟩:=hE
 refine zaf zah ?_
 simp only [l164_1,r164_7,SS,reduceIte,h29,h30]
 refine ⟨fun hlt=>?_,fun hge=>?_⟩
 ·obtain ⟨k,rfl⟩:∃k',k=k'+1:=⟨k-1,by omega⟩
  have hj:j<n.length:=by omega
  have gn:=zcl n j hj AV.junk
  have go:=zcl out (i+j) (by omega) AV.junk
  have by1:=dn.getD j
  have bo:=hd.getD (i+j)
  have hxy:m.getD i 0*n.getD j 0≤4294967295*4294967295:=xX (by omega) (by omega)
  simp only [mulR] at hr
  have w1:IntKind.u64.wrap (((m.getD i 0:Nat):Int)*((n.getD j 0:Nat):Int))=((m.getD i 0*n.getD j 0:Nat):Int):=by rw [←yZ];exact zgh (by omega)
  have w2:IntKind.i64.wrap ((i:Int)+(j:Int))=((i+j:Nat):Int):=by rw [←qE];exact w64 (by omega) (by omega)
  have w3:IntKind.u64.wrap (((m.getD i 0*n.getD j 0:Nat):Int)+((out.getD (i+j) 0:Nat):Int))=((m.getD i 0*n.getD j 0+out.getD (i+j) 0:Nat):Int):=by rw [←qE];exact zgh (by omega)
  have w4:IntKind.u64.wrap ((c:Int)+((m.getD i 0*n.getD j 0+out.getD (i+j) 0:Nat):Int))=((c+(m.getD i 0*n.getD j 0+out.getD (i+j) 0):Nat):Int):=by rw [←qE];exact zgh (by omega)
  have w5:IntKind.i64.wrap ((j:Int)+1)=((j+1:Nat):Int):=by rw [show (j:Int)+1=((j+1:Nat):Int) by omega];exact w64 (by omega) (by omega)
  simp only [r164_8,r164_9,r164_10,r164_11,r164_12,SS,forall_const,reduceIte,qQ,mulH,h6,h7,h8,h28,h30,e5,qK,gn,go,zbl,ho,zgh (show m.getD i 0<18446744073709551616 by omega),zgh (show n.getD j 0<18446744073709551616 by omega),
   zgh (show out.getD (i+j) 0<18446744073709551616 by omega),w1,w2,w3,w4,w5,wu32,qrj,zql]
  refine ⟨⟨by omega,by omega⟩,by omega,⟨by omega,by omega⟩,by omega,⟨by omega,by omega⟩,by omega,by omega,?_⟩
  refine ⟨k,_,_,by omega,⟨j+1,_,_,by omega,?_,?_,?_,hr,⟨?_,?_,?_,?_,?_,?_⟩,?_,?_,?_,?_,?_,?_,?_,rfl⟩,.refl⟩
  ·omega
  ·simpa using ho
  ·exact hd.set (yK _ (by decide))
  all_goals simp only [zaa,qQ,reduceIte,if_false, *]
 ·have hk:k=0:=by omega
  subst hk
  simp only [mulR] at hr
  rw [←hr] at hQ
  exact hQ _ ⟨by simp only [zaa,qQ,if_false, *],by simp only [zaa,qQ,if_false, *],by simp only [zaa,qQ,if_false, *],by simp only [zaa,qQ,if_false, *],by simp only [zaa,qQ,if_false, *],by simp only [zaa,qQ,if_false, *]⟩ (by simp only [zaa,qQ,if_false, *]) (by simp only [zaa,qQ,if_false, *]) (by simp only [zaa,qQ,if_false, *])
theorem qfa {l:List Nat} {n:Nat} {c:Option Nat} (hn:n=l.length):frzI 0 [some (u32s l)] 2 (.sl 0 0 n 1 c)=some (.vec (u32s l) n c):=by
 have e:=zxk l 0 0 [some (u32s l)]
 rw [frzI]
 simp only [yX,if_false,zmt,need,qP,xK,hn,zbl,qD,if_true,xQ]
 rw [qV (by rw [zbl];omega),e]
 rfl
theorem qll {l:List Nat} {n:Nat} {c:Option Nat} {s:Bool} (hn:n=l.length):([.bool s,.sl 0 0 n 1 c]:List AV).mapM (frzI 0 [some (u32s l)] 2)=some [.bool s,.vec (u32s l) n c]:=by
 rw [xH,xH,qfa hn]
 rfl
theorem zev {E:Env} {H:Heap} {t id:Nat} {u v:AV} (hE:E t= .ptr id 0) (hb:getB H id=some [u,v]):resA Tryz.prog [.cell t 40] E H=some (.agg [u,v]):=by
 have hs:ldSz Tryz.prog 40=some (true,2):=by kernel_rfl
 simp only [resA,zgr,xH,List.mapM_nil,hE,hb,hs]
 rfl
theorem zMul {x y:Int} {a b:AV} (ha:zaw x a) (hb:zaw y b) (hf:(x*y).natAbs<BIG):∃v,zaw (x*y) v∧Ret Tryz.prog G 164 [a,b] [] v []:=by
 obtain ⟨m,ca,hc,hl,hv,rfl⟩:=ha
 obtain ⟨n,cb,hd,hlr,hw,rfl⟩:=hb
 have hz:val (List.replicate (m.length+n.length) 0)=0∧Dig (List.replicate (m.length+n.length) 0):=by
  constructor
  ·generalize m.length+n.length=k
   induction k with
   | zero=>rfl
   | succ k ih=>rw [xI,Limb.val,ih]
  ·intro z hz;simp at hz;omega
 obtain ⟨s1,s2,s3⟩:=qeq n hd.1 m 0 (List.replicate (m.length+n.length) 0) hc.1 hz.2 (by simp) (by intro t _;simp [qW,xW];split<;>rfl)
 rw [hz.1,hv,hw,Nat.pow_zero,xG,qP,←Int.natAbs_mul] at s3
 rw [List.length_replicate] at s1
 obtain ⟨v,hv1,t5⟩:=zmy (decide (x<0) != decide (y<0)) (mulL n m 0 (List.replicate (m.length+n.length) 0)) (some (m.length+n.length)) s2 (by rw [s1];omega) (by rw [s3];exact hf)
 have e:sgnZ (decide (x<0) != decide (y<0)) (Limb.val (mulL n m 0 (List.replicate (m.length+n.length) 0)))=x*y:=by
  rw [s3]
  unfold sgnZ
  rcases qB x 0 with h | h | h
  ·rcases qB y 0 with h' | h' | h'
   ·have:=Int.mul_pos_of_neg_of_neg h h'
    rw [decide_eq_true h,decide_eq_true h']
    simp only [bne_self_eq_false,qO,if_false]
    omega
   ·subst h';simp
   ·have:=Int.mul_neg_of_neg_of_pos h h'
    rw [decide_eq_true h,decide_eq_false (by omega)]
    simp only [Bool.bne_false,if_true]
    omega
  ·subst h;simp
  ·rcases qB y 0 with h' | h' | h'
   ·have:=Int.mul_neg_of_pos_of_neg h h'
    rw [decide_eq_false (by omega),decide_eq_true h']
    simp only [Bool.bne_true,Bool.not_false,if_true]
    omega
   ·subst h';simp
   ·have:=Int.mul_pos h h'
    rw [decide_eq_false (by omega),decide_eq_false (by omega)]
    simp only [bne_self_eq_false,qO,if_false]
    omega
 rw [e] at hv1
 obtain ⟨l',c',_,_,_,rfl⟩:=hv1
 refine ⟨_,⟨l',c',by assumption,by assumption,by assumption,rfl⟩,?_⟩
 have w1:IntKind.i64.wrap ((m.length:Int)+(n.length:Int))=((m.length+n.length:Nat):Int):=by rw [←qE];exact w64 (by omega) (by omega)
 refine zai zah Tryz.func164 comp164 _ 77 res164 nt164 (by simp) (by simp) ?_
 simp only [c164,r164_0,r164_1,SS,forall_const,reduceCtorEq,reduceIte,qZ,qQ,qX,w1,qK]
 refine ⟨by omega,⟨by omega,by omega,by omega,by omega⟩,?_⟩
 simp only [r164_2,SS,forall_const,reduceIte,qZ,qQ,qX]
 have hrep:List.replicate (m.length+n.length) (AV.int IntKind.u32 0)=u32s (List.replicate (m.length+n.length) 0):=by simp [u32s]
 rw [hrep]
 refine zal (fun k E H=>∃i out,i+k=m.length∧out.length=m.length+n.length∧Dig out∧mulL n (m.drop i) i out=mulL n m 0 (List.replicate (m.length+n.length) 0)∧MulE m n (decide (x<0)) (decide (y<0)) ca cb E∧E 22= .int .i64 (i:Nat)∧
  H=mulH m n out (decide (x<0)) (decide (y<0)) ca cb) (n:=m.length) ⟨0,List.replicate (m.length+n.length) 0,by omega,by simp,hz.2,rfl,⟨by simp only [zaa,zac,qJ,qQ,reduceIte,if_false],by simp only [zaa,zac,qJ,qQ,reduceIte,if_false],by simp only [zaa,zac,qJ,qQ,reduceIte,if_false],by simp only [zaa,zac,qJ,qQ,reduceIte,if_false],by simp only [zaa,zac,qJ,qQ,reduceIte,if_false],by simp only [zaa,zac,qJ,qQ,reduceIte,if_false]⟩,by simp only [zaa,zac,qJ,qQ,reduceIte,if_false];rfl,rfl⟩ ?_
 rintro k E H ⟨i,out,hik,ho,hdo,hr,hE,h22,rfl⟩
 have hE':=hE
 obtain ⟨e2,e3,e4,e5,e20,e21⟩:=hE
 refine zaf zah ?_
 simp only [l164_0,r164_3,SS,reduceCtorEq,reduceIte,e21,h22]
 refine ⟨fun hlt=>?_,fun hge=>?_⟩
 ·obtain ⟨k,rfl⟩:∃k',k=k'+1:=⟨k-1,by omega⟩
  have hi:i<m.length:=by omega
  have gm:=zcl m i hi AV.junk
  have hdrop:m.drop i=m.getD i 0::m.drop (i+1):=by
   rw [List.drop_eq_getElem_cons hi,qW,qH hi];rfl
  rw [hdrop,mulL] at hr
  have w5:IntKind.i64.wrap ((i:Int)+1)=((i+1:Nat):Int):=by rw [show (i:Int)+1=((i+1:Nat):Int) by omega];exact w64 (by omega) (by omega)
  have w6:IntKind.i64.wrap ((i:Int)+(n.length:Int))=((i+n.length:Nat):Int):=by rw [←qE];exact w64 (by omega) (by omega)
  obtain ⟨q1,q2,q3,q4,q5⟩:=zsr n hd.1 (m.getD i 0) i (hc.1.getD i) n.length 0 0 out (by decide) (by omega) (by omega) hdo
  simp only [r164_4,r164_5,r164_6,SS,forall_const,reduceIte,qZ,qQ,qX,e20,h22,qK,gm,zbl,mulH,e3]
  refine ⟨⟨by omega,hlt⟩,by omega,?_⟩
  refine qrm m n (decide (x<0)) (decide (y<0)) ca cb i hi hc.1 hd.1 hl hlr out ho hdo ⟨?_,?_,?_,?_,?_,?_⟩ ?_ ?_ ?_ ?_ ?_ ?_ ?_ (fun E1 hE1 f6 f22 f8=>?rest)
  case rest=>
   have hE1':=hE1
   obtain ⟨f2,f3,f4,f5,f20,f21⟩:=hE1
   simp only [r164_13,r164_14,SS,forall_const,reduceCtorEq,reduceIte,qZ,qQ,qX,f3,f5,f6,f8,f22,mulH,qK,zbl,w5,w6,wu32,qS q1,zql,q2,ho]
   refine ⟨⟨by omega,by omega⟩,by omega,?_⟩
   refine ⟨k,_,_,by omega,⟨i+1,_,by omega,?_,?_,hr,⟨?_,?_,?_,?_,?_,?_⟩,?_,rfl⟩,.refl⟩
   ·simpa using q2.trans ho
   ·exact q3.set q1
   all_goals simp only [zaa,qQ,reduceIte,if_false, *]
  all_goals simp only [zaa,qQ,reduceIte,if_false, *]
 ·have hk:i=m.length:=by omega
  subst hk
  rw [List.drop_length] at hr
  simp only [mulL] at hr
  simp only [r164_15,SS,forall_const,reduceIte,qZ,qQ,qX,e2,e3,e5,mulH]
  have hb:(!(decide (x<0) == decide (y<0)))=(decide (x<0) != decide (y<0)):=rfl
  rw [←hr,ho] at t5
  rw [hb]
  refine zmu (id:=3) (cs:=u32s out) (d:=2) (args0:=[.bool (decide (x<0) != decide (y<0)),.sl 0 0 (m.length+n.length) 1 (some (m.length+n.length))]) t5 ?_ ?_ ?_ ?_ rfl (zmx _)
  ·rfl
  ·exact qll ho.symm
  ·rfl
  simp only [zba,zag,xZ,xB,SS,reduceIte,qZ,qQ,qX,e4]
  refine ⟨.inl trivial,_,?_,.drop _ _ rfl (by intro i cs h;omega)⟩
  exact zev (id:=2) (by simp only [zaa,qQ,if_false,e4]) rfl
theorem or64 {a b:Nat} (ha:a<4294967296) (hb:b<4294967296):IntKind.u64.wrap ((BitVec.ofInt IntKind.u64.bits (a:Int) ||| BitVec.ofInt IntKind.u64.bits ((b*4294967296:Nat):Int)).toNat:Int)=((a+4294967296*b:Nat):Int):=by
 have e1:(BitVec.ofInt IntKind.u64.bits (a:Int) ||| BitVec.ofInt IntKind.u64.bits ((b*4294967296:Nat):Int)).toNat=a+4294967296*b:=by
  rw [BitVec.toNat_or,BitVec.ofInt_natCast,BitVec.ofInt_natCast,BitVec.toNat_ofNat,BitVec.toNat_ofNat]
  show a%18446744073709551616 ||| b*4294967296%18446744073709551616=_
  rw [qS (by omega),qS (by omega),Nat.or_comm,Nat.mul_comm b]
  have:=Nat.two_pow_add_eq_or_of_lt (i:=32) (b:=a) ha b
  rw [show (2:Nat)^32=4294967296 from rfl] at this
  rw [←this];omega
 rw [e1]
 exact zgh (by omega)
theorem zlow (m:List Nat) (c:Option Nat) (dm:Dig m) (hm:m.length<1048576):Ret Tryz.prog G 162 [.vec (u32s m) m.length c] [] (.int .u64 (val (m.take 2):Nat)) []:=by
 refine zai zah Tryz.func162 comp162 _ 26 res162 nt162 (by simp) (by simp) ?_
 simp only [c162,r162_0,r162_1,r162_2,SS,reduceCtorEq]
 refine zal (fun k E H=>∃i,i+k=min 2 m.length∧E 0= .vec (u32s m) m.length c∧E 3= .int .u64 (val (m.take i):Nat)∧E 4= .int .i64 (i:Nat)∧H=[]) (n:=min 2 m.length) ⟨0,by omega,by simp only [zaa,zac,qU,qQ,if_false],by simp only [zaa,zac,qJ,qQ,reduceIte,if_false];rfl,by simp only [zaa,zac,qJ,qQ,reduceIte,if_false];rfl,rfl⟩ ?_
 rintro k E H ⟨i,hik,h0,h3,h4,rfl⟩
 refine zaf zah ?_
 have bi:=dm.getD i
 have hv:val (m.take 2)=val (m.take (min 2 m.length)):=by
  rcases Nat.le_total 2 m.length with h | h
  ·rw [Nat.min_eq_left h]
  ·rw [Nat.min_eq_right h,qV h,xR]
 cases k with
 | zero=>
  have hi:i=min 2 m.length:=by omega
  rw [←hi] at hv
  rw [hv]
  by_cases hl:i<m.length
  ·have d1:decide ((i:Int)<(m.length:Nat))=true:=decide_eq_true (by omega)
   have d2:decide ((i:Int)<2)=false:=decide_eq_false (by omega)
   simp only [l162_0,r162_3,SS,forall_const,reduceCtorEq,reduceIte,qQ,h0,h4,d1,d2]
   simp only [r162_6,SS,reduceIte,qQ,h3]
   exact ⟨.inl trivial,_,rfl,.drop _ _ rfl (by intro i cs h;omega)⟩
  ·have d1:decide ((i:Int)<(m.length:Nat))=false:=decide_eq_false (by omega)
   simp only [l162_0,r162_3,SS,forall_const,reduceCtorEq,reduceIte,qQ,h0,h4,d1]
   simp only [r162_6,SS,reduceIte,qQ,h3]
   exact ⟨.inl trivial,_,rfl,.drop _ _ rfl (by intro i cs h;omega)⟩
 | succ k=>
  have hi:i<m.length:=by omega
  have hi2:i<2:=by omega
  have d1:decide ((i:Int)<(m.length:Nat))=true:=decide_eq_true (by omega)
  have d2:decide ((i:Int)<2)=true:=decide_eq_true (by omega)
  have g:=zcl m i hi AV.junk
  have w5:IntKind.i64.wrap ((i:Int)+1)=((i+1:Nat):Int):=by rw [show (i:Int)+1=((i+1:Nat):Int) by omega];exact w64 (by omega) (by omega)
  have w6:IntKind.i64.wrap (32*(i:Int))=((32*i:Nat):Int):=by rw [show 32*(i:Int)=((32*i:Nat):Int) by omega];exact w64 (by omega) (by omega)
  have w7:IntKind.u64.wrap ((BitVec.ofInt IntKind.u64.bits ((val (m.take i):Nat):Int) ||| BitVec.ofInt IntKind.u64.bits (IntKind.u64.wrap (((m.getD i 0:Nat):Int)*2^min (32*i) IntKind.u64.bits))).toNat:Int)=(val (m.take (i+1)):Nat):=by
   rw [zdj]
   rcases (by omega:i=0∨i=1) with rfl | rfl
   ·have e1:IntKind.u64.wrap (((m.getD 0 0:Nat):Int)*2^min (32*0) IntKind.u64.bits)=((m.getD 0 0:Nat):Int):=by
     show IntKind.u64.wrap (((m.getD 0 0:Nat):Int)*1)=_
     rw [xS];exact zgh (by omega)
    rw [e1]
    have e2:val (m.take 0)=0:=rfl
    rw [e2]
    have:=or64 (a:=m.getD 0 0) (b:=0) bi (by omega)
    rw [BitVec.or_comm]
    simpa using this
   ·have e1:IntKind.u64.wrap (((m.getD 1 0:Nat):Int)*2^min (32*1) IntKind.u64.bits)=((m.getD 1 0*4294967296:Nat):Int):=by
     show IntKind.u64.wrap (((m.getD 1 0:Nat):Int)*4294967296)=_
     rw [show ((m.getD 1 0:Nat):Int)*4294967296=((m.getD 1 0*4294967296:Nat):Int) by omega];exact zgh (by omega)
    rw [e1]
    have hlt:=zjh (dm.take 1)
    have hlen:(m.take 1).length=1:=by rw [xV];omega
    rw [hlen] at hlt
    have:=or64 (a:=val (m.take 1)) (b:=m.getD 1 0) (by omega) bi
    rw [this]
  simp only [l162_0,r162_3,SS,forall_const,reduceCtorEq,reduceIte,qQ,h0,h4,d1,d2]
  simp only [r162_4,r162_5,SS,forall_const,reduceCtorEq,reduceIte,qQ,h0,h3,h4,qK,g,zbl,w5,w6,zgh (show m.getD i 0<18446744073709551616 by omega),w7]
  refine ⟨⟨by omega,by omega⟩,by omega,by omega,?_⟩
  refine ⟨k,_,_,by omega,⟨i+1,by omega,?_,?_,?_,rfl⟩,.refl⟩<;>simp only [zaa,qQ,reduceIte,if_false, *]
theorem ziv {l:List Nat} (h:zcg l) (hv:val l<18446744073709551616):l.length≤2:=by
 rcases qN 2 l.length with h1 | h1
 ·exfalso
  have h2:=zkp h.2 (by intro e;rw [e] at h1;simp at h1)
  have h3:4294967296^2≤4294967296^(l.length-1):=Nat.pow_le_pow_right (by decide) (by omega)
  omega
 ·exact h1
theorem zqp (m n:List Nat) (c d:Option Nat) (cm:zcg m) (cn:zcg n) (hm:val m<18446744073709551616) (hn:val n<18446744073709551616) (hn0:val n≠0):
  ∃q r c1 c2,zcg q∧zcg r∧q.length≤1100∧r.length≤1100∧val q=val m/val n∧val r=val m%val n∧
   Ret Tryz.prog G 211 [.vec (u32s m) m.length c,.vec (u32s n) n.length d] [] (.tup [.vec (u32s q) q.length c1,.vec (u32s r) r.length c2]) []:=by
 have lm:=ziv cm hm
 have ln:=ziv cn hn
 have t1:=zlow m c cm.1 (by omega)
 have t2:=zlow n d cn.1 (by omega)
 rw [qV lm] at t1
 rw [qV ln] at t2
 have hq:val m/val n<18446744073709551616:=xM (Nat.div_le_self _ _) hm
 have hr:val m%val n<18446744073709551616:=xM (Nat.mod_le _ _) hm
 obtain ⟨vq,hq1,t3⟩:=qlh false (val m/val n) hq
 obtain ⟨vr,hr1,t4⟩:=qlh false (val m%val n) hr
 obtain ⟨q,c1,q1,q2,q3,rfl⟩:=hq1
 obtain ⟨r,c2,r1,r2,r3,rfl⟩:=hr1
 refine ⟨q,r,c1,c2,q1,r1,q2,r2,q3.trans (zqn _ _),r3.trans (zqn _ _),?_⟩
 have d1:decide ((m.length:Int)≤2)=true:=decide_eq_true (by omega)
 have d2:decide ((n.length:Int)≤2)=true:=decide_eq_true (by omega)
 have w1:IntKind.u64.wrap (Int.tdiv (val m:Nat) (val n:Nat))=((val m/val n:Nat):Int):=by
  show IntKind.u64.wrap ((val m/val n:Nat):Int)=_
  exact zgh hq
 have w2:Int.tmod (val m:Nat) (val n:Nat)=((val m%val n:Nat):Int):=rfl
 refine zai zah Tryz.func211 comp211 _ 75 res211 nt211 (by simp) (by simp) ?_
 simp only [c211,r211_0,r211_1,SS,forall_const,reduceCtorEq,reduceIte,qQ,d1,d2]
 simp only [r211_2,SS,reduceCtorEq,reduceIte,qQ]
 refine zab t1 ?_
 simp only [SS,reduceIte,qQ]
 refine zab t2 ?_
 simp only [SS,reduceIte,qQ]
 simp only [r211_3,SS,reduceIte,qQ,w1]
 refine ⟨by omega,?_⟩
 refine zab t3 ?_
 simp only [SS,forall_const,reduceIte,qZ,qQ,qX]
 refine ⟨by omega,?_⟩
 refine zab t4 ?_
 simp only [SS,forall_const,reduceIte,qZ,qQ,qX]
 refine ⟨rfl,?_⟩
 exact ⟨.inl trivial,_,rfl,.drop _ _ rfl (by intro i cs h;omega)⟩
theorem qap {x y:Int} (hy:y≠0):x/y=(if x.natAbs%y.natAbs≠0∧x<0 then (if y<0 then sgnZ (decide (x<0) != decide (y<0)) (x.natAbs/y.natAbs)+1 else sgnZ (decide (x<0) != decide (y<0)) (x.natAbs/y.natAbs)-1) else sgnZ (decide (x<0) != decide (y<0)) (x.natAbs/y.natAbs))∧
  x%y=(if x.natAbs%y.natAbs≠0∧x<0 then sgnZ (decide (x<0)) (x.natAbs%y.natAbs)+(y.natAbs:Int) else sgnZ (decide (x<0)) (x.natAbs%y.natAbs)):=by
 have h:=Nat.div_add_mod x.natAbs y.natAbs
 have hR:=yK x.natAbs (show 0<y.natAbs by omega)
 generalize x.natAbs/y.natAbs=Q at*
 generalize x.natAbs%y.natAbs=R at*
 have h':(y.natAbs:Int)*Q+R=x.natAbs:=by exact_mod_cast h
 rcases Int.lt_or_lt_of_ne hy with hy1 | hy1
 ·rw [Int.ediv_emod_unique' hy1]
  have ey:(y.natAbs:Int)= -y:=by omega
  rw [ey] at h' ⊢
  unfold sgnZ
  rw [decide_eq_true hy1]
  by_cases hx:x<0
  ·have ex:(x.natAbs:Int)= -x:=by omega
   rw [ex] at h'
   rw [decide_eq_true hx]
   simp only [bne_self_eq_false,qO,if_false,if_true,hy1,hx,and_true]
   rw [Int.neg_mul] at h'
   by_cases h0:R=0
   ·subst h0
    simp only [ne_eq,not_true_eq_false,if_false]
    refine ⟨by omega,by omega,by omega⟩
   ·simp only [ne_eq,h0,not_false_eq_true,if_true]
    rw [Int.mul_add,xS]
    refine ⟨by omega,by omega,by omega⟩
  ·have ex:(x.natAbs:Int)=x:=by omega
   rw [ex] at h'
   rw [decide_eq_false hx]
   simp only [Bool.bne_true,Bool.not_false,if_true,hx,and_false,if_false,qO]
   rw [Int.neg_mul] at h'
   rw [xT]
   refine ⟨by omega,by omega,by omega⟩
 ·rw [Int.ediv_emod_unique hy1]
  have ey:(y.natAbs:Int)=y:=by omega
  rw [ey] at h' ⊢
  unfold sgnZ
  rw [decide_eq_false (show ¬y<0 by omega)]
  by_cases hx:x<0
  ·have ex:(x.natAbs:Int)= -x:=by omega
   rw [ex] at h'
   rw [decide_eq_true hx]
   simp only [Bool.bne_false,if_true,hx,and_true,show ¬y<0 by omega,if_false]
   by_cases h0:R=0
   ·subst h0
    simp only [ne_eq,not_true_eq_false,if_false]
    rw [xT]
    refine ⟨by omega,by omega,by omega⟩
   ·simp only [ne_eq,h0,not_false_eq_true,if_true]
    rw [Int.mul_sub,xT,xS]
    refine ⟨by omega,by omega,by omega⟩
  ·have ex:(x.natAbs:Int)=x:=by omega
   rw [ex] at h'
   rw [decide_eq_false hx]
   simp only [bne_self_eq_false,qO,if_false,hx,and_false]
   refine ⟨by omega,by omega,by omega⟩
def DivC (m n:List Nat) (c d:Option Nat):Prop:= ∃q r c1 c2,zcg q∧zcg r∧q.length≤1100∧r.length≤1100∧val q=val m/val n∧val r=val m%val n∧
   Ret Tryz.prog G 211 [.vec (u32s m) m.length c,.vec (u32s n) n.length d] [] (.tup [.vec (u32s q) q.length c1,.vec (u32s r) r.length c2]) []
theorem qfb {x y:Int} {a b:AV} (ha:zaw x a) (hb:zaw y b) (hy:y≠0) (hdiv:∀m n c d,zcg m→zcg n→m.length≤1100→n.length≤1100→val m=x.natAbs→val n=y.natAbs→DivC m n c d) (hf:(x/y).natAbs<BIG):
  ∃v w,zaw (x/y) v∧zaw (x%y) w∧Ret Tryz.prog G 198 [a,b] [] (.tup [v,w,.bool true]) []:=by
 have hb0:=hb
 obtain ⟨hq0,hr0⟩:=qap (x:=x) hy
 obtain ⟨l,ca,hc,hl,hv,rfl⟩:=ha
 obtain ⟨n,cb,hd,hlr,hw,rfl⟩:=hb
 obtain ⟨c1,t1⟩:=zlj l ca (by omega)
 obtain ⟨c2,t2⟩:=zlj n cb (by omega)
 have l1:=zjj l
 have l2:=zjj n
 have k1:=zbk hc.1
 have k2:=zbk hd.1
 have v1:=(zck l).trans hv
 have v2:=(zck n).trans hw
 have hn0:(zbg n).length≠0:=by
  intro e
  have:=List.length_eq_zero_iff.1 e
  rw [this] at v2
  have:Limb.val []=0:=rfl
  omega
 obtain ⟨q,r,cq,cr,q1,r1,q2,r2,q3,r3,t3⟩:=hdiv (zbg l) (zbg n) c1 c2 k1 k2 (by omega) (by omega) v1 v2
 rw [v1,v2] at q3 r3
 obtain ⟨vq,hvq,t4⟩:=zmy (decide (x<0) != decide (y<0)) q cq q1.1 (by omega) (zeu q1.1 q2)
 obtain ⟨vr,hvr,t5⟩:=zmy (decide (x<0)) r cr r1.1 (by omega) (zeu r1.1 r2)
 rw [q3] at hvq
 rw [r3] at hvr
 have s1:=zsw hvr
 have hneg:decide ((sgnZ (decide (x<0)) (x.natAbs%y.natAbs)).sign<0)=decide (x.natAbs%y.natAbs≠0∧x<0):=by
  have:(sgnZ (decide (x<0)) (x.natAbs%y.natAbs)).sign<0↔sgnZ (decide (x<0)) (x.natAbs%y.natAbs)<0:=Int.sign_neg_iff
  rw [decide_eq_decide,this]
  unfold sgnZ
  simp only [decide_eq_true_eq]
  split<;>omega
 have hclo:vq.closed=true∧vr.closed=true:=⟨hvq.closed,hvr.closed⟩
 have hvq0:=hvq
 have hvr0:=hvr
 obtain ⟨lq,dq,iq1,iq2,iq3,rfl⟩:=hvq
 obtain ⟨lr,dr,ir1,ir2,ir3,rfl⟩:=hvr
 have hb3:(!(decide (x<0) == decide (y<0)))=(decide (x<0) != decide (y<0)):=rfl
 by_cases hcase:x.natAbs%y.natAbs≠0∧x<0
 ·rw [if_pos hcase] at hq0 hr0
  rw [decide_eq_true hcase] at hneg
  obtain ⟨vn,hvn,t6⟩:=zmy false (zbg n) c2 k2.1 (by omega) (zeu k2.1 (by omega))
  have en:sgnZ false (Limb.val (zbg n))=(y.natAbs:Int):=by rw [v2];rfl
  rw [en] at hvn
  have hrf:(x%y).natAbs<BIG:=by
   have h1:=Int.emod_nonneg x hy
   have h2:=Int.emod_lt x hy
   have h3:=hb0.fits
   omega
  obtain ⟨vs,hvs,t7⟩:=zAdd hvr0 hvn (by rw [←hr0];exact hrf)
  rw [←hr0] at hvs
  obtain ⟨v1',hv1',t8⟩:=zfu 1 (by omega) (by omega)
  have s2:=zsw hb0
  obtain ⟨ln,dn,_,_,_,rfl⟩:=hvn
  have hvs0:=hvs
  obtain ⟨ls,ds,_,_,_,rfl⟩:=hvs
  by_cases hyn:y<0
  ·rw [if_pos hyn] at hq0
   obtain ⟨vt,hvt,t9⟩:=zAdd hvq0 hv1' (by rw [←hq0];exact hf)
   rw [←hq0] at hvt
   have hvt0:=hvt
   obtain ⟨lt,dt,_,_,_,rfl⟩:=hvt
   obtain ⟨lo,dO,_,_,_,rfl⟩:=hv1'
   refine ⟨_,_,hvt0,hvs0,?_⟩
   have hsy:decide (y.sign<0)=true:=decide_eq_true (Int.sign_neg_iff.2 hyn)
   refine zai zah Tryz.func198 comp198 _ 61 res198 nt198 (by simp) (by simp) ?_
   simp only [c198,r198_0,r198_1,SS,forall_const,reduceCtorEq,reduceIte,qZ,qQ,qX]
   refine zab t1 ?_
   simp only [SS,forall_const,reduceIte,qZ,qQ,qX]
   refine zab t2 ?_
   simp only [SS,reduceIte,qQ]
   refine ⟨rfl,?_⟩
   simp only [r198_2,SS,reduceIte,qQ]
   refine ⟨fun h=>absurd h (by omega),fun _=>?_⟩
   simp only [r198_4,SS,reduceIte,qQ]
   refine zab t3 ?_
   simp only [SS,reduceIte,qQ,qI,qL]
   simp only [r198_5,SS,forall_const,reduceIte,qZ,qQ,qX,hb3]
   refine zab t4 ?_
   simp only [SS,forall_const,reduceIte,qZ,qQ,qX]
   refine zab t5 ?_
   simp only [SS,reduceIte,qZ,qQ,qX]
   refine ⟨rfl,?_⟩
   simp only [r198_6,SS,reduceIte,qZ,qQ,qX]
   refine zab s1 ?_
   simp only [SS,forall_const,reduceIte,qQ,hneg]
   simp only [r198_7,SS,reduceIte,qZ,qQ,qX]
   refine zab t6 ?_
   simp only [SS,reduceIte,qQ]
   refine zab t7 ?_
   simp only [SS,reduceIte,qZ,qQ,qX]
   refine ⟨rfl,?_⟩
   simp only [r198_8,SS,reduceIte,qZ,qQ,qX]
   refine zab s2 ?_
   simp only [SS,forall_const,reduceIte,qQ,hsy]
   simp only [r198_9,SS,reduceIte,qZ,qQ,qX]
   refine zab t8 ?_
   simp only [SS,reduceIte,qQ]
   refine zab t9 ?_
   simp only [SS,reduceIte,qZ,qQ,qX]
   refine ⟨rfl,?_⟩
   exact ⟨.inl trivial,_,rfl,.drop _ _ rfl (by intro i cs h;omega)⟩
  ·rw [if_neg hyn] at hq0
   obtain ⟨vt,hvt,t9⟩:=zSub hvq0 hv1' (by rw [←hq0];exact hf)
   rw [←hq0] at hvt
   have hvt0:=hvt
   obtain ⟨lt,dt,_,_,_,rfl⟩:=hvt
   obtain ⟨lo,dO,_,_,_,rfl⟩:=hv1'
   refine ⟨_,_,hvt0,hvs0,?_⟩
   have hsy:decide (y.sign<0)=false:=decide_eq_false (fun h=>hyn (Int.sign_neg_iff.1 h))
   refine zai zah Tryz.func198 comp198 _ 61 res198 nt198 (by simp) (by simp) ?_
   simp only [c198,r198_0,r198_1,SS,forall_const,reduceCtorEq,reduceIte,qZ,qQ,qX]
   refine zab t1 ?_
   simp only [SS,forall_const,reduceIte,qZ,qQ,qX]
   refine zab t2 ?_
   simp only [SS,reduceIte,qQ]
   refine ⟨rfl,?_⟩
   simp only [r198_2,SS,reduceIte,qQ]
   refine ⟨fun h=>absurd h (by omega),fun _=>?_⟩
   simp only [r198_4,SS,reduceIte,qQ]
   refine zab t3 ?_
   simp only [SS,reduceIte,qQ,qI,qL]
   simp only [r198_5,SS,forall_const,reduceIte,qZ,qQ,qX,hb3]
   refine zab t4 ?_
   simp only [SS,forall_const,reduceIte,qZ,qQ,qX]
   refine zab t5 ?_
   simp only [SS,reduceIte,qZ,qQ,qX]
   refine ⟨rfl,?_⟩
   simp only [r198_6,SS,reduceIte,qZ,qQ,qX]
   refine zab s1 ?_
   simp only [SS,forall_const,reduceIte,qQ,hneg]
   simp only [r198_7,SS,reduceIte,qZ,qQ,qX]
   refine zab t6 ?_
   simp only [SS,reduceIte,qQ]
   refine zab t7 ?_
   simp only [SS,reduceIte,qZ,qQ,qX]
   refine ⟨rfl,?_⟩
   simp only [r198_8,SS,reduceIte,qZ,qQ,qX]
   refine zab s2 ?_
   simp only [SS,forall_const,reduceIte,qQ,hsy]
   simp only [r198_10,SS,reduceIte,qZ,qQ,qX]
   refine zab t8 ?_
   simp only [SS,reduceIte,qQ]
   refine zab t9 ?_
   simp only [SS,reduceIte,qZ,qQ,qX]
   refine ⟨rfl,?_⟩
   exact ⟨.inl trivial,_,rfl,.drop _ _ rfl (by intro i cs h;omega)⟩
 ·rw [if_neg hcase] at hq0 hr0
  rw [decide_eq_false hcase] at hneg
  rw [←hq0] at hvq0
  rw [←hr0] at hvr0
  refine ⟨_,_,hvq0,hvr0,?_⟩
  rw [hq0,hr0]
  refine zai zah Tryz.func198 comp198 _ 61 res198 nt198 (by simp) (by simp) ?_
  simp only [c198,r198_0,r198_1,SS,forall_const,reduceCtorEq,reduceIte,qZ,qQ,qX]
  refine zab t1 ?_
  simp only [SS,forall_const,reduceIte,qZ,qQ,qX]
  refine zab t2 ?_
  simp only [SS,reduceIte,qQ]
  refine ⟨rfl,?_⟩
  simp only [r198_2,SS,reduceIte,qQ]
  refine ⟨fun h=>absurd h (by omega),fun _=>?_⟩
  simp only [r198_4,SS,reduceIte,qQ]
  refine zab t3 ?_
  simp only [SS,reduceIte,qQ,qI,qL]
  simp only [r198_5,SS,forall_const,reduceIte,qZ,qQ,qX,hb3]
  refine zab t4 ?_
  simp only [SS,forall_const,reduceIte,qZ,qQ,qX]
  refine zab t5 ?_
  simp only [SS,reduceIte,qZ,qQ,qX]
  refine ⟨rfl,?_⟩
  simp only [r198_6,SS,reduceIte,qZ,qQ,qX]
  refine zab s1 ?_
  simp only [SS,forall_const,reduceIte,qQ,hneg]
  simp only [r198_11,SS,reduceIte,qZ,qQ,qX]
  refine ⟨rfl,?_⟩
  exact ⟨.inl trivial,_,rfl,.drop _ _ rfl (by intro i cs h;omega)⟩
theorem zQuo {x y:Int} {a b:AV} (ha:zaw x a) (hb:zaw y b) (hy:y≠0) (hdiv:∀m n c d,zcg m→zcg n→m.length≤1100→n.length≤1100→val m=x.natAbs→val n=y.natAbs→DivC m n c d) (hf:(x/y).natAbs<BIG):
  ∃v,zaw (x/y) v∧Ret Tryz.prog G 151 [a,b] [] v []:=by
 obtain ⟨v,w,hv,hw,t⟩:=qfb ha hb hy hdiv hf
 obtain ⟨l,ca,_,_,_,rfl⟩:=ha
 obtain ⟨n,cb,_,_,_,rfl⟩:=hb
 have hv0:=hv
 obtain ⟨lv,cv,_,_,_,rfl⟩:=hv
 obtain ⟨lw,cw,_,_,_,rfl⟩:=hw
 refine ⟨_,hv0,?_⟩
 refine zai zah Tryz.func151 comp151 _ 16 res151 nt151 (by simp) (by simp) ?_
 simp only [c151,r151_0,r151_1,SS,reduceCtorEq,reduceIte,qZ,qQ,qX]
 refine zab t ?_
 simp only [SS,reduceIte,qZ,qQ,qX,qI,qL]
 simp only [r151_2,SS,reduceIte,qZ,qQ,qX]
 exact ⟨.inl trivial,_,rfl,.drop _ _ rfl (by intro i cs h;omega)⟩
def RowC:List Int→List AV→Prop
 | [],[]=>True
 | z::r,u::v::cs=>zaw z (.agg [u,v])∧RowC r cs
 | _,_=>False
theorem zcw:∀{r:List Int} {cs:List AV},RowC r cs→cs.length=r.length*2
 | [],[],_=>rfl
 | _::_,_::_::_,h=>by have:=zcw h.2;simp [this];omega
 | [],_::_,h=>h.elim
 | _::_,[],h=>h.elim
 | _::_,[_],h=>h.elim
theorem zei:∀{r:List Int} {cs:List AV},RowC r cs→∀j,j<r.length→∃u v,(cs.drop (j*2)).take 2=[u,v]∧zaw (r.getD j 0) (.agg [u,v])
 | [],[],_,j,hj=>absurd hj (by simp)
 | z::r,u::v::cs,h,0,_=>⟨u,v,rfl,h.1⟩
 | z::r,u::v::cs,h,j+1,hj=>by
  obtain ⟨a,b,h1,h2⟩:=zei h.2 j (by simpa using hj)
  refine ⟨a,b,?_,by simpa using h2⟩
  rw [show (j+1)*2=j*2+2 by omega]
  exact h1
 | [],_::_,h,_,_=>h.elim
 | _::_,[],h,_,_=>h.elim
 | _::_,[_],h,_,_=>h.elim
theorem zxl:∀{r:List Int} {cs:List AV},RowC r cs→∀j z u v,j<r.length→zaw z (.agg [u,v])→RowC (r.set j z) (setL cs (j*2) [u,v])
 | [],[],_,j,_,_,_,hj,_=>absurd hj (by simp)
 | z::r,u::v::cs,h,0,y,a,b,_,hy=>⟨hy,h.2⟩
 | z::r,u::v::cs,h,j+1,y,a,b,hj,hy=>by
  have:=zxl h.2 j y a b (by simpa using hj) hy
  rw [show (j+1)*2=j*2+2 by omega]
  exact ⟨h.1,this⟩
 | [],_::_,h,_,_,_,_,_,_=>h.elim
 | _::_,[],h,_,_,_,_,_,_=>h.elim
 | _::_,[_],h,_,_,_,_,_,_=>h.elim
theorem zjk:∀{r:List Int} {cs:List AV},RowC r cs→∀z u v,zaw z (.agg [u,v])→RowC (r++[z]) (cs++[u,v])
 | [],[],_,z,u,v,h=>⟨h,trivial⟩
 | _::_,_::_::_,h,z,u,v,hz=>⟨h.1,zjk h.2 z u v hz⟩
 | [],_::_,h,_,_,_,_=>h.elim
 | _::_,[],h,_,_,_,_=>h.elim
 | _::_,[_],h,_,_,_,_=>h.elim
theorem zxm:∀{r:List Int} {cs:List AV},RowC r cs→∀m d H,cs.mapM (frzI m H (d+1))=some cs:=by
 intro r cs h m d H
 refine zlr (fun a ha=>?_)
 induction r generalizing cs with
 | nil=>
  cases cs with
  | nil=>simp at ha
  | cons _ _=>exact h.elim
 | cons z r ih=>
  match cs,h with
  | u::v::cs,h=>
   obtain ⟨⟨l,c,_,_,_,e⟩,h2⟩:=h
   injection e with e
   injection e with e1 e2
   injection e2 with e2 _
   rcases List.mem_cons.1 ha with h | h
   ·rw [h,e1];rfl
   ·rcases List.mem_cons.1 h with h | h
    ·rw [h,e2];rfl
    ·exact ih h2 h
theorem zvq:∀{r:List Int} {cs:List AV},RowC r cs→xJ cs=true:=by
 intro r
 induction r with
 | nil=>
  intro cs h
  cases cs with
  | nil=>rfl
  | cons _ _=>exact h.elim
 | cons z r ih=>
  intro cs h
  match cs,h with
  | u::v::cs,h=>
   obtain ⟨⟨l,c,_,_,_,e⟩,h2⟩:=h
   injection e with e
   injection e with e1 e2
   injection e2 with e2 _
   rw [e1,e2]
   show xJ cs=true
   exact ih h2
theorem zjl:∀{r:List Int} {cs:List AV},RowC r cs→AV.scalL cs=true:=by
 intro r
 induction r with
 | nil=>
  intro cs h
  cases cs with
  | nil=>rfl
  | cons _ _=>exact h.elim
 | cons z r ih=>
  intro cs h
  match cs,h with
  | u::v::cs,h=>
   obtain ⟨⟨l,c,_,_,_,e⟩,h2⟩:=h
   injection e with e
   injection e with e1 e2
   injection e2 with e2 _
   rw [e1,e2]
   show AV.scalL cs=true
   exact ih h2
def zfv (r:List Int) (a:AV):Prop:= ∃cs c,a= .vec cs r.length c∧RowC r cs
def MatV (M:List (List Int)) (a:AV):Prop:= ∃rows c,a= .vec rows M.length c∧rows.length=M.length∧∀i,i<M.length→zfv (M.getD i []) (rows.getD i .junk)
def zqq (M:List (List Int)):Prop:=1≤M.length∧M.length≤16∧∀i,i<M.length→1≤(M.getD i []).length∧(M.getD i []).length≤16∧(M.getD i []).length=(M.getD 0 []).length
theorem zsx {M:List (List Int)} {a:AV} (h:MatV M a) (hs:zqq M):Ret Tryz.prog G 132 [a] [] (.tup [.int .i64 (M.length:Nat),.int .i64 ((M.getD 0 []).length:Nat),.bool true]) []:=by
 obtain ⟨rows,c,rfl,hl,hr⟩:=h
 obtain ⟨h1,h2,h3⟩:=hs
 have d1:decide ((M.length:Int)<1)=false:=decide_eq_false (by omega)
 have d2:decide ((16:Int)<(M.length:Nat))=false:=decide_eq_false (by omega)
 obtain ⟨cs0,c0,e0,r0⟩:=hr 0 (by omega)
 refine zai zah Tryz.func132 comp132 _ 45 res132 nt132 (by simp) (by simp) ?_
 simp only [c132,r132_0,r132_1,SS,forall_const,reduceCtorEq,reduceIte,qQ,d1,d2]
 simp only [r132_3,SS,reduceCtorEq,reduceIte,qQ]
 refine zal (fun k E H=>∃i,i+k=M.length∧E 0= .vec rows M.length c∧E 15= .vec rows M.length c∧E 16= .int .i64 (M.length:Nat)∧E 17= .int .i64 (i:Nat)∧H=[]) (n:=M.length) ⟨0,by omega,by simp only [zaa,zac,qU,qQ,if_false],by simp only [zaa,zac,qJ,qQ,reduceIte,if_false],by simp only [zaa,zac,qJ,qQ,reduceIte,if_false],by simp only [zaa,zac,qJ,qQ,reduceIte,if_false];rfl,rfl⟩ ?_
 rintro k E H ⟨i,hik,h0,h15,h16,h17,rfl⟩
 refine zaf zah ?_
 simp only [l132_0,r132_4,SS,reduceCtorEq,reduceIte,h16,h17]
 refine ⟨fun hlt=>?_,fun hge=>?_⟩
 ·obtain ⟨k,rfl⟩:∃k',k=k'+1:=⟨k-1,by omega⟩
  obtain ⟨csi,ci,ei,ri⟩:=hr i (by omega)
  obtain ⟨g1,g2,g3⟩:=h3 i (by omega)
  have d3:decide (((M.getD i []).length:Int)<1)=false:=decide_eq_false (by omega)
  have d4:decide ((16:Int)<((M.getD i []).length:Nat))=false:=decide_eq_false (by omega)
  have d5:decide (((M.getD i []).length:Int)≠((M.getD 0 []).length:Nat))=false:=decide_eq_false (by omega)
  have w5:IntKind.i64.wrap ((i:Int)+1)=((i+1:Nat):Int):=by rw [show (i:Int)+1=((i+1:Nat):Int) by omega];exact w64 (by omega) (by omega)
  simp only [r132_5,r132_6,r132_8,SS,forall_const,reduceCtorEq,reduceIte,qQ,h0,h15,h17,qK,Int.toNat_zero,ei,e0,hl,d3,d4,d5,w5]
  refine ⟨⟨by omega,by omega⟩,by omega,⟨by omega,by omega⟩,by omega,?_⟩
  refine ⟨k,_,_,by omega,⟨i+1,by omega,?_,?_,?_,?_,rfl⟩,.refl⟩<;>simp only [zaa,qQ,reduceIte,if_false, *]
 ·simp only [r132_9,SS,forall_const,reduceCtorEq,reduceIte,qQ,h0,Int.toNat_zero,e0,hl]
  refine ⟨⟨by omega,by omega⟩,by omega,rfl,?_⟩
  exact ⟨.inl trivial,_,rfl,.drop _ _ rfl (by intro i cs h;omega)⟩
theorem zej {H X:Heap} {i:Nat} (h:i<H.length):getB (H++X) i=getB H i:=by
 unfold getB;rw [qC h]
theorem zsy {H:Heap} {cs:List AV} {X:Heap}:getB (H++some cs::X) H.length=some cs:=by
 unfold getB;rw [qY (qD _)];simp
theorem zat {H:Heap} {i j:Nat} {x:Option (List AV)} (h:i≠j):getB (H.set i x) j=getB H j:=by
 unfold getB;rw [List.getElem?_set_ne h]
theorem zbm {H:Heap} {i:Nat} {cs:List AV} (h:i<H.length):getB (H.set i (some cs)) i=some cs:=by
 unfold getB;rw [xU h]
theorem zav {H:Heap} {i:Nat} {cs:List AV} (h:getB H i=some cs):i<H.length:=zha h
def zcm (n:Nat) (p:Nat×Option Nat):AV:= .sl p.1 0 n 2 p.2
structure MatH (H:Heap) (o:Nat) (ps:List (Nat×Option Nat)) (n:Nat) (M:List (List Int)):Prop where
 outer:getB H o=some (ps.map (zcm n))
 len:ps.length=M.length
 cols:∀i,i<M.length→(M.getD i []).length=n
 rows:∀i,i<M.length→∃cs,getB H (ps.getD i (0,none)).1=some cs∧RowC (M.getD i []) cs
 nodup:(o::ps.map (·.1)).Nodup
def zvr (H:Heap) (r:List Int) (a:AV) (bad:List Nat):Prop:=
 (r=[]∧a= .vec [] 0 (some 0))∨(r≠[]∧∃id cs,a= .sl id 0 r.length 2 none∧getB H id=some cs∧RowC r cs∧id∉bad)
theorem qrn {H:Heap} {r:List Int} {a:AV} {bad:List Nat} {z:Int} {u v:AV} {t fr n0:Nat} (h:zvr H r a bad) (hz:zaw z (.agg [u,v])) (ht:getB H t=some [u,v]) (hr:r.length<1100) (hfr:fr∉bad) (hfr2:H.length=fr):
  ∃e rd cs,zbu n0 fr H 2 32 a (.sl t 0 1 2 (some 1))=some (.sl fr 0 (r.length+1) 2 none,e,rd)∧RowC (r++[z]) cs∧getB (zag e (H++[none])) fr=some cs∧(zag e (H++[none])).length=H.length+1∧
   (∀i∈bad,i<H.length→getB (zag e (H++[none])) i=getB H i)∧(∀i∈keys e,i=fr∨∃n c,a= .sl i 0 n 2 c)∧(∀i∈rd,i=t∨∃n c,a= .sl i 0 n 2 c):=by
 have hs:AV.scalL [u,v]=true:=zjl (r:=[z]) (cs:=[u,v]) ⟨hz,trivial⟩
 have hel:zds H 2 1 (.sl t 0 1 2 (some 1))=some ([u,v],[t]):=by
  simp [zds,ht,need]
 rcases h with ⟨rfl,rfl⟩ | ⟨hne,id,cs,rfl,hg,hc,hb⟩
 ·refine ⟨[(fr,some [u,v])],[t],[u,v],?_,⟨hz,trivial⟩,?_,?_,?_,?_,?_⟩
  ·simp only [zbu,lenA,qR,hel]
   simp [need]
  ·simp only [zag]
   rw [qA _ _ (by omega),←hfr2,xA]
   exact zsy
  ·simp [zag]
  ·intro i hi hlt
   simp only [zag]
   rw [zat (by intro e;exact hfr (e ▸ hi)),zej hlt]
  ·intro i hi
   simp [keys] at hi
   exact .inl hi
  ·intro i hi
   simp at hi
   exact .inl hi
 ·have hlt:=zav hg
  have hl:=zcw hc
  refine ⟨[(id,none),(fr,some (cs++[u,v]))],[id,t],cs++[u,v],?_,zjk hc z u v hz,?_,?_,?_,?_,?_⟩
  ·have e1:¬((none:Option Nat)=some r.length):=by simp
   have e2:id≠fr:=by omega
   have b1:4*(r.length+1)*32≤2^48:=by
    have:(2:Nat)^48=281474976710656:=rfl
    omega
   have b2:r.length+1<2^62:=by
    have:(2:Nat)^62=4611686018427387904:=rfl
    omega
   simp only [zbu,lenA,qR,hel,hg,need,xC,if_false,true_and,hl,qD,b1,b2,and_self,if_true,e1,xE,hs,e2,ne_eq,not_false_eq_true]
   rw [qV (by omega)]
  ·simp only [zag]
   rw [zbm (by simp;omega)]
  ·simp [zag]
  ·intro i hi hlt2
   simp only [zag]
   rw [zat (by intro e;exact hfr (e ▸ hi)),zat (by intro e;exact hb (e ▸ hi)),zej hlt2]
  ·intro i hi
   simp [keys] at hi
   rcases hi with h | h
   ·exact .inr ⟨_,_,by rw [h]⟩
   ·exact .inl h
  ·intro i hi
   simp at hi
   rcases hi with h | h
   ·exact .inr ⟨_,_,by rw [h]⟩
   ·exact .inl h
theorem zqr {α:Type} {H:List α} {x y:α}:(H++[x]).set H.length y=H++[y]:=by
 rw [qA _ _ (qD _),xA];rfl
theorem zdy {H:Heap} {cs:List AV}:getB (H++[some cs]) H.length=some cs:=zsy
def zqs (i:Nat) (st:Heap×AV) (p:List AV×List AV):Heap×AV:=
 match zbu 0 (st.1.length+1+1) (st.1++[some p.1]++[some p.2]) 2 32 st.2 (.sl (st.1.length+1) 0 1 2 (some 1)) with
 | some (v,e,_)=>((zag e (st.1++[some p.1]++[some p.2]++[none])).set 0 (some (((getB (zag e (st.1++[some p.1]++[some p.2]++[none])) 0).getD []).set i v)),v)
 | none=>st
structure CpOK (i:Nat) (oc:List AV) (ids:List Nat) (H0:Heap) (r:List Int) (st:Heap×AV):Prop where
 part:zvr st.1 r st.2 (0::ids)
 outer:getB st.1 0=some (oc.set i st.2)
 keep:∀id∈ids,getB st.1 id=getB H0 id
 len:H0.length≤st.1.length
theorem zxn {i:Nat} {oc:List AV} {ids:List Nat} {H0:Heap} {r:List Int} {st:Heap×AV} {x:List AV} {u v:AV} {z:Int} (hids:∀id∈ids,id<H0.length∧id≠0) (h:CpOK i oc ids H0 r st) (hi:i<oc.length) (hz:zaw z (.agg [u,v])) (hr:r.length<1100):
  CpOK i oc ids H0 (r++[z]) (zqs i st (x,[u,v]))∧∃e rd,zbu 0 (st.1.length+1+1) (st.1++[some x]++[some [u,v]]) 2 32 st.2 (.sl (st.1.length+1) 0 1 2 (some 1))=some ((zqs i st (x,[u,v])).2,e,rd)∧
   getB (zag e (st.1++[some x]++[some [u,v]]++[none])) 0=some (oc.set i st.2)∧(zqs i st (x,[u,v])).1=(zag e (st.1++[some x]++[some [u,v]]++[none])).set 0 (some (oc.set i (zqs i st (x,[u,v])).2))∧∃id n,(zqs i st (x,[u,v])).2= .sl id 0 n 2 none:=by
 obtain ⟨hp,hg,hkeep,hlen⟩:=h
 have h0lt:0<st.1.length:=zav hg
 have hl2:(st.1++[some x]++[some [u,v]]).length=st.1.length+1+1:=by simp
 have hk2:∀y,y<st.1.length→getB (st.1++[some x]++[some [u,v]]) y=getB st.1 y:=by
  intro y hy;rw [xN,zej hy]
 have hp2:zvr (st.1++[some x]++[some [u,v]]) r st.2 (0::ids):=by
  rcases hp with ⟨h1,h2⟩ | ⟨h1,id,cs',h2,h3,h4,h5⟩
  ·exact .inl ⟨h1,h2⟩
  ·exact .inr ⟨h1,id,cs',h2,by rw [hk2 _ (zav h3)];exact h3,h4,h5⟩
 have ht2:getB (st.1++[some x]++[some [u,v]]) (st.1.length+1)=some [u,v]:=by
  have:st.1.length+1=(st.1++[some x]).length:=by simp
  rw [this];exact zdy
 have hfb:st.1.length+1+1∉0::ids:=by
  intro hm
  rcases List.mem_cons.1 hm with h | h
  ·omega
  ·have:=(hids _ h).1;omega
 obtain ⟨e,rd,cs',hap,hrow,hfr,hl3,hsame,hke,hrd⟩:=qrn (n0:=0) (fr:=st.1.length+1+1) hp2 hz ht2 hr hfb hl2
 have g3:getB (zag e (st.1++[some x]++[some [u,v]]++[none])) 0=some (oc.set i st.2):=by
  rw [hsame 0 (by simp) (by omega),hk2 0 h0lt];exact hg
 have hc:zqs i st (x,[u,v])=((zag e (st.1++[some x]++[some [u,v]]++[none])).set 0 (some (oc.set i (.sl (st.1.length+1+1) 0 (r.length+1) 2 none))),.sl (st.1.length+1+1) 0 (r.length+1) 2 none):=by
  unfold zqs
  rw [hap]
  simp only [g3,Option.getD_some,List.set_set]
 rw [hc]
 refine ⟨⟨.inr ⟨by simp,_,cs',by simp,?_,hrow,hfb⟩,?_,?_,?_⟩,e,rd,hap,g3,rfl,_,_,rfl⟩
 ·show getB (List.set _ 0 _) _=_
  rw [zat (by omega)];exact hfr
 ·show getB (List.set _ 0 _) _=_
  rw [zbm (by omega)]
 ·intro id hid
  show getB (List.set _ 0 _) _=_
  have:=hids id hid
  rw [zat (by omega),hsame id (by simp [hid]) (by omega),hk2 id (by omega)]
  exact hkeep id hid
 ·show _≤(List.set _ 0 _).length
  rw [xD];omega
def zqt:List Int→List AV→List (List AV×List AV)→Prop
 | [],[],[]=>True
 | z::r,a::b::cs,(x,y)::l=>x=[a,b]∧(∃u v,y=[u,v]∧zaw z (.agg [u,v]))∧zaw z (.agg [a,b])∧Ret Tryz.prog G 122 [.agg x] [] (.agg y) []∧zqt r cs l
 | _,_,_=>False
theorem qlm:∀{r:List Int} {cs:List AV},RowC r cs→∃l,zqt r cs l:=by
 intro r
 induction r with
 | nil=>
  intro cs h
  cases cs with
  | nil=>exact ⟨[],trivial⟩
  | cons _ _=>exact h.elim
 | cons z r ih=>
  intro cs h
  match cs,h with
  | a::b::cs,h=>
   obtain ⟨l,hl⟩:=ih h.2
   obtain ⟨w,hw,t⟩:=zos h.1
   have hw0:=hw
   obtain ⟨lw,cw,_,_,_,rfl⟩:=hw0
   exact ⟨([a,b],_)::l,rfl,⟨_,_,rfl,hw⟩,h.1,t,hl⟩
theorem zna:∀{r:List Int} {cs:List AV} {l:List (List AV×List AV)},zqt r cs l→l.length=r.length
 | [],[],[],_=>rfl
 | _::_,_::_::_,(_,_)::_,h=>by have:=zna h.2.2.2.2;simp [this]
 | [],[],_::_,h=>h.elim
 | [],_::_,_,h=>by cases ‹List (List AV×List AV)› <;> exact h.elim
 | _::_,[],_,h=>by cases ‹List (List AV×List AV)› <;> exact h.elim
 | _::_,[_],_,h=>by cases ‹List (List AV×List AV)› <;> exact h.elim
 | _::_,_::_::_,[],h=>h.elim
theorem zsz:∀{r:List Int} {cs:List AV} {l:List (List AV×List AV)},zqt r cs l→∀j,j<r.length→∃a b u v,(cs.drop (j*2)).take 2=[a,b]∧l[j]?=some ([a,b],[u,v])∧zaw (r.getD j 0) (.agg [a,b])∧zaw (r.getD j 0) (.agg [u,v])∧
  Ret Tryz.prog G 122 [.agg [a,b]] [] (.agg [u,v]) []:=by
 intro r
 induction r with
 | nil=>intro cs l _ j hj;exact absurd hj (by simp)
 | cons z r ih=>
  intro cs l h j hj
  match cs,l,h with
  | a::b::cs,(x,y)::l,h=>
   obtain ⟨rfl,⟨u,v,rfl,hu⟩,ha,t,hl⟩:=h
   cases j with
   | zero=>exact ⟨a,b,u,v,rfl,rfl,ha,hu,t⟩
   | succ j=>
    obtain ⟨a',b',u',v',h1,h2,h3,h4,h5⟩:=ih hl j (by simpa using hj)
    refine ⟨a',b',u',v',?_,by simpa using h2,by simpa using h3,by simpa using h4,h5⟩
    rw [show (j+1)*2=j*2+2 by omega]
    exact h1
def zoc (i:Nat) (st:Heap×AV) (l:List (List AV×List AV)):Heap×AV:=l.foldl (zqs i) st
theorem zot {α β:Type} (f:β→α→β) (b:β) (l:List α) (j:Nat) (x:α) (h:l[j]?=some x):(l.take (j+1)).foldl f b=f ((l.take j).foldl f b) x:=by
 rw [xP,h]
 simp
theorem zxo {i:Nat} {oc:List AV} {ids:List Nat} {H0:Heap} {r:List Int} {cs:List AV} {l:List (List AV×List AV)} (hids:∀id∈ids,id<H0.length∧id≠0) (h00:getB H0 0=some oc) (hi:i<oc.length) (hoci:oc.getD i .junk= .vec [] 0 (some 0))
  (hp:zqt r cs l) (hr:r.length<1100):∀j,j≤r.length→CpOK i oc ids H0 (r.take j) (zoc i (H0,.vec [] 0 (some 0)) (l.take j)):=by
 intro j
 induction j with
 | zero=>
  intro _
  refine ⟨.inl ⟨rfl,rfl⟩,?_,fun _ _=>rfl,qD _⟩
  show getB H0 0=some (oc.set i (.vec [] 0 (some 0)))
  rw [h00]
  have:oc.set i (.vec [] 0 (some 0))=oc:=by
   rw [←hoci,qW,qH hi]
   simp
  rw [this]
 | succ j ih=>
  intro hj
  obtain ⟨a,b,u,v,_,h2,_,h4,_⟩:=zsz hp j (by omega)
  have:=(zxn (x:=[a,b]) hids (ih (by omega)) hi h4 (by rw [xV];omega)).1
  unfold zoc at this ⊢
  rw [zot _ _ _ _ _ h2]
  have htk:r.take j++[r.getD j 0]=r.take (j+1):=by
   rw [xP,qW,qH (by omega)];rfl
  rw [htk] at this
  exact this
theorem qln {r:List Int} {cs:List AV} {c:Option Nat} {l:List (List AV×List AV)} (hpr:zqt r cs l) (hr:RowC r cs) (hn:r.length≤16) {arg:AV} {i N:Nat} {oc:List AV} (hoc:oc.length=N) (hi:i<N) (hN:N≤16) {ids:List Nat} {H0:Heap} (h00:getB H0 0=some oc)
  (hoci:oc.getD i .junk= .vec [] 0 (some 0)) (hids:∀id∈ids,id<H0.length∧id≠0) {v10:AV} {E:Env} {Q:Post} (e0:E 0=arg) (e3:E 3= .sl 0 0 N 1 (some N)) (e4:E 4= .int .i64 (i:Nat)) (e10:E 10=v10) (e11:E 11= .int .i64 (N:Nat))
  (e12:E 12= .int .i64 (i:Nat)) (e18:E 18= .vec cs r.length c) (e19:E 19= .int .i64 (r.length:Nat)) (e20:E 20= .int .i64 0)
  (hQ:∀E',E' 0=arg→E' 3= .sl 0 0 N 1 (some N)→E' 10=v10→E' 11= .int .i64 (N:Nat)→E' 12= .int .i64 (i:Nat)→Q (.exit 2) E' (zoc i (H0,.vec [] 0 (some 0)) l).1):
  W Tryz.prog G 0 38 (.loop l58_1) E H0 Q:=by
 have hall:=zxo hids h00 (by omega) hoci hpr (by omega)
 refine zal (fun k E H=>∃j,j+k=r.length∧H=(zoc i (H0,.vec [] 0 (some 0)) (l.take j)).1∧E 0=arg∧E 3= .sl 0 0 N 1 (some N)∧E 4= .int .i64 (i:Nat)∧E 10=v10∧
  E 11= .int .i64 (N:Nat)∧E 12= .int .i64 (i:Nat)∧E 18= .vec cs r.length c∧E 19= .int .i64 (r.length:Nat)∧E 20= .int .i64 (j:Nat)) (n:=r.length) ⟨0,by omega,rfl,e0,e3,e4,e10,e11,e12,e18,e19,e20⟩ ?_
 rintro k E H ⟨j,hjk,hH,e0,e3,e4,e10,e11,e12,e18,e19,e20⟩
 refine zaf zah ?_
 simp only [l58_1,r58_6,SS,reduceIte,e19,e20]
 refine ⟨fun hlt=>?_,fun hge=>?_⟩
 ·obtain ⟨k,rfl⟩:∃k',k=k'+1:=⟨k-1,by omega⟩
  obtain ⟨u,v,x,y,hu,hl,hz,hw,tn⟩:=zsz hpr j (by omega)
  have hok:=hall j (by omega)
  obtain ⟨hok2,e,rd,hap,g3,hH4,idn,nn,hv2⟩:=zxn (x:=[u,v]) hids hok (by omega) hw (by rw [xV];omega)
  have hnext:zoc i (H0,.vec [] 0 (some 0)) (l.take (j+1))=zqs i (zoc i (H0,.vec [] 0 (some 0)) (l.take j)) ([u,v],[x,y]):=zot _ _ _ _ _ hl
  generalize zoc i (H0,.vec [] 0 (some 0)) (l.take j)=st at*
  subst hH
  obtain ⟨hp,hg,hkeep,hlen⟩:=hok
  have hscz:AV.scalL [u,v]=true:=zjl (r:=[r.getD j 0]) (cs:=[u,v]) ⟨hz,trivial⟩
  obtain ⟨lz,cz,_,_,_,ez⟩:=hz
  injection ez with ez
  injection ez with ez1 ez2
  injection ez2 with ez2 _
  obtain ⟨lw,cw,_,_,_,ew⟩:=hw
  injection ew with ew
  injection ew with ew1 ew2
  injection ew2 with ew2 _
  subst ez1 ez2 ew1 ew2
  have hcl:=zcw hr
  have h0lt:0<st.1.length:=zav hg
  have w5:IntKind.i64.wrap ((j:Int)+1)=((j+1:Nat):Int):=by rw [show (j:Int)+1=((j+1:Nat):Int) by omega];exact w64 (by omega) (by omega)
  simp only [r58_7,SS,reduceIte,qZ,qQ,qX,e18,e20,qK,hcl,hu,zdy,zqr]
  refine ⟨⟨by omega,by omega⟩,by omega,?_⟩
  have g0:getB (st.1++[some [AV.bool (decide (r.getD j 0<0)),AV.vec (u32s lz) lz.length cz]]) 0=some (oc.set i st.2):=by rw [zej h0lt];exact hg
  have ga:(oc.set i st.2).getD i AV.junk=st.2:=by
   rw [qW,xU (by omega)];rfl
  simp only [r58_8,SS,forall_const,reduceIte,qZ,qQ,qX,e3,e4,qK,g0,ga,xD,hoc,zdy]
  refine ⟨⟨by omega,by omega⟩,by omega,?_⟩
  refine zab tn ?_
  simp only [SS,reduceIte,qZ,qQ,qX,zdc]
  rw [hap]
  simp only [SS,g3,qK,xD,hoc,hv2]
  refine ⟨⟨by omega,by omega⟩,by omega,by simp [dynB,zuv],?_⟩
  simp only [r58_9,SS,reduceIte,qQ,e20,w5]
  refine ⟨k,_,_,by omega,⟨j+1,by omega,?_,?_,?_,?_,?_,?_,?_,?_,?_,?_⟩,.refl⟩
  ·rw [hnext,hH4,hv2,List.set_set]
  all_goals simp only [zaa,qQ,reduceIte,if_false, *]
 ·have hk:j=r.length:=by omega
  subst hk
  have hl:=zna hpr
  rw [qV (by omega)] at hH
  rw [hH]
  exact hQ _ (by simp only [zaa,qQ,if_false, *]) (by simp only [zaa,qQ,if_false, *]) (by simp only [zaa,qQ,if_false, *]) (by simp only [zaa,qQ,if_false, *]) (by simp only [zaa,qQ,if_false, *])
abbrev nilV:AV:= .vec [] 0 (some 0)
def cpM (N:Nat) (ls:List (List (List AV×List AV))):Nat→Heap
 | 0=>[some (List.replicate N nilV)]
 | i+1=>(zoc i (cpM N ls i,nilV) (ls.getD i [])).1
structure CpM (N n:Nat) (M:List (List Int)) (H:Heap) (i:Nat) (ps:List (Nat×Option Nat)):Prop where
 len:ps.length=i
 outer:getB H 0=some (ps.map (zcm n)++List.replicate (N-i) nilV)
 rows:∀i',i'<i→∃cs,getB H (ps.getD i' (0,none)).1=some cs∧RowC (M.getD i' []) cs
 nodup:(0::ps.map (·.1)).Nodup
 lt:∀p∈ps,p.1<H.length
theorem qoo {N n i:Nat} {ps:List (Nat×Option Nat)} (hl:ps.length=i) (hi:i<N):(ps.map (zcm n)++List.replicate (N-i) nilV).getD i .junk=nilV:=by
 rw [qW,qY (by simp;omega),xW,if_pos (by simp;omega)];rfl
theorem qfc {N n i:Nat} {M:List (List Int)} {H:Heap} {ps:List (Nat×Option Nat)} (h:CpM N n M H i ps):∀id∈ps.map (·.1),id<H.length∧id≠0:=by
 intro id hid
 have hn:=h.nodup
 rw [yJ] at hn
 refine ⟨?_,fun e=>hn.1 (e ▸ hid)⟩
 obtain ⟨p,hp,rfl⟩:=List.mem_map.1 hid
 exact h.lt p hp
theorem qvh {N n:Nat} {M:List (List Int)} {cf:Nat→List AV} {ls:List (List (List AV×List AV))} (hn:1≤n∧n≤16) (hc:∀i,i<N→(M.getD i []).length=n) (hls:∀i,i<N→zqt (M.getD i []) (cf i) (ls.getD i [])):
  ∀i,i≤N→∃ps,CpM N n M (cpM N ls i) i ps:=by
 intro i
 induction i with
 | zero=>
  intro _
  refine ⟨[],rfl,?_,fun _ h=>absurd h (by omega),by simp,by simp⟩
  simp [cpM,getB]
 | succ i ih=>
  intro hi
  obtain ⟨ps,h⟩:=ih (by omega)
  have hri:=hc i (by omega)
  have hok:=zxo (qfc h) h.outer (by simp [h.len];omega) (qoo h.len (by omega)) (hls i (by omega)) (by omega) (M.getD i []).length (qD _)
  rw [xR,qV (by rw [zna (hls i (by omega))];omega)] at hok
  obtain ⟨hp,hg,hkeep,hlen⟩:=hok
  rcases hp with ⟨h1,_⟩ | ⟨_,id,cs,hid,hb,hrow,hnm⟩
  ·rw [h1] at hri;simp at hri;omega
  ·rw [hri] at hid
   have hnm2:id≠0∧id∉ps.map (·.1):=⟨fun e=>hnm (by simp [e]),fun hm=>hnm (by simp only [List.mem_cons];exact .inr hm)⟩
   refine ⟨ps++[(id,none)],by simp [h.len],?_,?_,?_,?_⟩
   ·show getB (zoc i (cpM N ls i,nilV) (ls.getD i [])).1 0=_
    rw [hg,hid]
    have e:List.replicate (N-i) nilV=nilV::List.replicate (N-(i+1)) nilV:=by
     rw [←xI];congr 1;omega
    rw [e,qA _ _ (by simp [h.len])]
    simp [h.len,zcm]
   ·intro i' hi'
    show ∃cs,getB (zoc i (cpM N ls i,nilV) (ls.getD i [])).1 _=some cs∧_
    rcases qN i' i with hlt | hge
    ·obtain ⟨cs',h1,h2⟩:=h.rows i' hlt
     refine ⟨cs',?_,h2⟩
     have e:(ps++[(id,none)]).getD i' (0,none)=ps.getD i' (0,none):=by
      rw [qW,qC (by rw [h.len];exact hlt),qW]
     rw [e,hkeep _ (by
      rw [qW,qH (by rw [h.len];exact hlt)]
      exact List.mem_map.2 ⟨_,List.getElem_mem _,rfl⟩)]
     exact h1
    ·have e:i'=i:=by omega
     subst e
     refine ⟨cs,?_,hrow⟩
     have e:(ps++[(id,(none:Option Nat))]).getD i' (0,none)=(id,none):=by
      rw [qW,qY (by rw [h.len];exact qD _),h.len,xA];rfl
     rw [e]
     exact hb
   ·rw [List.map_append]
    have hn0:=h.nodup
    rw [yJ] at hn0 ⊢
    refine ⟨?_,?_⟩
    ·intro hm
     rcases List.mem_append.1 hm with hm | hm
     ·exact hn0.1 hm
     ·simp at hm;exact hnm2.1 hm.symm
    ·rw [List.nodup_append]
     refine ⟨hn0.2,by simp,?_⟩
     intro x hx y hy
     simp at hy
     subst hy
     intro e
     exact hnm2.2 (e ▸ hx)
   ·intro p hp
    rcases List.mem_append.1 hp with hp | hp
    ·have:=h.lt p hp
     exact Nat.lt_of_lt_of_le this hlen
    ·simp at hp
     subst hp
     exact zav hb
theorem qvi {M:List (List Int)} {a:AV} {n:Nat} (h:MatV M a) (hn:1≤n∧n≤16) (hN:M.length≤16) (hc:∀i,i<M.length→(M.getD i []).length=n):
  ∃ps H',MatH H' 0 ps n M∧Ret Tryz.prog G 58 [a] [] (.sl 0 0 M.length 1 (some M.length)) H':=by
 obtain ⟨rows,c,rfl,hl,hr⟩:=h
 have hex:∀i,i<M.length→∃l cs c,rows.getD i .junk= .vec cs (M.getD i []).length c∧RowC (M.getD i []) cs∧zqt (M.getD i []) cs l:=by
  intro i hi
  obtain ⟨cs,c,h1,h2⟩:=hr i hi
  obtain ⟨l,hl⟩:=qlm h2
  exact ⟨l,cs,c,h1,h2,hl⟩
 have hch:∃(ls:List (List (List AV×List AV))) (cf:Nat→List AV),∀i,i<M.length→(∃c,rows.getD i .junk= .vec (cf i) (M.getD i []).length c)∧RowC (M.getD i []) (cf i)∧zqt (M.getD i []) (cf i) (ls.getD i []):=by
  refine ⟨(List.range M.length).map fun i=>if h:i<M.length then Classical.choose (hex i h) else [],fun i=>if h:i<M.length then Classical.choose (Classical.choose_spec (hex i h)) else [],fun i hi=>?_⟩
  obtain ⟨c,h1,h2,h3⟩:=Classical.choose_spec (Classical.choose_spec (hex i hi))
  have e:((List.range M.length).map fun i=>if h:i<M.length then Classical.choose (hex i h) else []).getD i []=Classical.choose (hex i hi):=by
   rw [qW,List.getElem?_map,List.getElem?_range hi]
   simp [hi]
  rw [e]
  simp only [hi,dif_pos]
  exact ⟨⟨c,h1⟩,h2,h3⟩
 obtain ⟨ls,cf,hls⟩:=hch
 have hall:=qvh (N:=M.length) (cf:=cf) hn hc (fun i hi=>(hls i hi).2.2)
 obtain ⟨ps,hps⟩:=hall M.length (qD _)
 refine ⟨ps,cpM M.length ls M.length,⟨?_,hps.len,hc,hps.rows,hps.nodup⟩,?_⟩
 ·have:=hps.outer
  rw [xA,xZ,xB] at this
  exact this
 refine zai zah Tryz.func58 comp58 _ 38 res58 nt58 (by simp) (by simp) ?_
 simp only [c58,r58_0,r58_1,SS,reduceCtorEq,reduceIte,qQ,qK]
 refine ⟨by omega,⟨by omega,by omega,by omega,by omega⟩,?_⟩
 simp only [r58_2,SS,reduceCtorEq,reduceIte,qQ]
 refine zal (fun k E H=>∃i,i+k=M.length∧H=cpM M.length ls i∧E 0= .vec rows M.length c∧E 3= .sl 0 0 M.length 1 (some M.length)∧E 10= .vec rows M.length c∧E 11= .int .i64 (M.length:Nat)∧E 12= .int .i64 (i:Nat)) (n:=M.length) ⟨0,by omega,rfl,?_,?_,?_,?_,?_⟩ ?_
 ·simp only [zaa,zac,qU,qQ,if_false]
 ·simp only [zaa,zac,qJ,qQ,reduceIte,if_false]
 ·simp only [zaa,zac,qJ,qQ,reduceIte,if_false]
 ·simp only [zaa,zac,qJ,qQ,reduceIte,if_false]
 ·simp only [zaa,zac,qJ,qQ,reduceIte,if_false];rfl
 rintro k E H ⟨i,hik,rfl,e0,e3,e10,e11,e12⟩
 refine zaf zah ?_
 simp only [l58_0,r58_3,SS,reduceCtorEq,reduceIte,e11,e12]
 refine ⟨fun hlt=>?_,fun hge=>?_⟩
 ·obtain ⟨k,rfl⟩:∃k',k=k'+1:=⟨k-1,by omega⟩
  obtain ⟨⟨ci,hci⟩,hrow,hpi⟩:=hls i (by omega)
  obtain ⟨qs,hqs⟩:=hall i (by omega)
  have w5:IntKind.i64.wrap ((i:Int)+1)=((i+1:Nat):Int):=by rw [show (i:Int)+1=((i+1:Nat):Int) by omega];exact w64 (by omega) (by omega)
  simp only [r58_4,r58_5,SS,forall_const,reduceCtorEq,reduceIte,qQ,e0,e12,qK,hci,hl]
  refine ⟨⟨by omega,by omega⟩,by omega,?_⟩
  refine qln (c:=ci) hpi hrow (by rw [hc i (by omega)];omega) (N:=M.length) (i:=i) (by simp [hqs.len];omega) (by omega) hN hqs.outer (qoo hqs.len (by omega)) (qfc hqs) (v10:= .vec rows M.length c) (arg:= .vec rows M.length c) ?_ ?_ ?_ ?_ ?_ ?_ ?_ ?_ ?_ (fun E1 f0 f3 f10 f11 f12=>?rest)
  case rest=>
   simp only [r58_10,SS,reduceCtorEq,reduceIte,qQ,f12,w5]
   refine ⟨k,_,_,by omega,⟨i+1,by omega,rfl,?_,?_,?_,?_,?_⟩,.refl⟩<;>simp only [zaa,qQ,reduceIte,if_false, *]
  all_goals simp only [zaa,qQ,reduceIte,if_false, *]
 ·have hk:i=M.length:=by omega
  subst hk
  simp only [r58_11,SS,reduceIte,qQ,e3]
  exact ⟨.inl trivial,_,rfl,.keep _ _⟩
end Go.Proofs.YtpflahgcdgdkjaaGreatDoor
