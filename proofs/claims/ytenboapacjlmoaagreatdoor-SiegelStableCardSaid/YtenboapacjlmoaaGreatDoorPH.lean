/- A part of the proof. -/
import Derived.Test.YtenboapacjlmoaaGreatDoorPG
import Derived.Test.YtenboapacjlmoaaGreatDoorKG
import Derived.Lib.SmallJoins
import Derived.ChangeSlices
import Derived.WideKeyArgs
namespace Go.Proofs.YtenboapacjlmoaaGreatDoor
set_option linter.unusedSimpArgs false
set_option linter.unusedVariables false
open Go Go.AL Go.Proofs
set_option maxRecDepth 100000
theorem law_retS {a b d kd:Int} {l q:List Int} {c c2:Option Nat} (hT:Tape8 l) (hd:0≤d∧d<256) (hk:0≤kd∧kd<256) (ha:0≤a∧a<256) (hb:0≤b∧b<256):
  Ret Tryz.prog G 4 [.agg (latC d kd l q c c2),.int .u8 a,.int .u8 b] [] (.bool true) []:=
 stableRet hT hd hk ha hb (run_ret mem0 (by kernel_rfl)) (run_ret mem0 (by kernel_rfl)) (run_ret mem0 (by kernel_rfl)) Q.q66
open Go.ChangeShapes Go.WideShapes Go.Joins
theorem add_eq {a:Addr} (h:a.spot=none) (i:Nat):a.add i=⟨a.block,a.off+i,none⟩:=by
 unfold Addr.add
 cases a with
 | mk b o s=>
  subst h
  split
  ·rename_i e;subst e;rfl
  ·rfl
theorem cells24:Tryz.prog.cellTypes Tryz.prog.depth 24=some [5,5,22,22]:=by kernel_rfl
theorem slot_ok {W:World} {b0:Nat} {v0 v1 v2 v3:Value} (h:Value.okWide Tryz.prog W .any b0 24 (.agg #[v0,v1,v2,v3])):Cell.okWide Tryz.prog W .any b0 22 v2∧Cell.okWide Tryz.prog W .any b0 22 v3:=by
 simp only [Value.okWide,Tryz.underlying24] at h
 obtain ⟨cs,e,_,ts,hts,_,hi⟩:=h
 injection e with e
 subst e
 rw [cells24] at hts
 obtain rfl:=Option.some.inj hts
 obtain ⟨u,hu,h2⟩:=hi 2 v2 rfl
 obtain ⟨w,hw,h3⟩:=hi 3 v3 rfl
 obtain rfl:22=u:=Option.some.inj hu
 obtain rfl:22=w:=Option.some.inj hw
 exact ⟨h2,h3⟩
theorem spot_ok {W:World} {b0:Nat} {a:Addr} {n c:Nat} (h:Cell.okWide Tryz.prog W .any b0 22 (.slice (some a) n c)):a.spot=none:=by
 simp only [Cell.okWide,Cell.ok,Tryz.underlying22] at h
 exact h.2.2.2.1
theorem open_i8 {H:Type} {enc:TypeId×Value→H} {W:World} {b0 n:Nat} {v:Value} {y:DataW H×List MemPlace} (hv:Cell.okWide Tryz.prog W .any b0 22 v) (h:DataW.trod enc Tryz.prog W 0 (fun _=>true) true n 22 [v]=some y):
  ∃(l:List Int) (c:Option Nat),Tape8 l∧IRep W (fun _=>False) (.vec (i8z l) l.length c) v:=by
 rcases open_ints Tryz.underlying22 Tryz.underlying153 (by kernel_rfl) h with ⟨e,_⟩ | ⟨a,len,cap,zs,e,_,hl,hm,hz,_,hc,hw⟩
 ·obtain rfl:v=_:=by simpa using e
  exact ⟨[],some 0,⟨by decide,fun z hz=>by cases hz⟩,.nil _ (fun k hk=>by cases hk;rfl)⟩
 ·obtain rfl:v=_:=by simpa using e
  have hs:=spot_ok hv
  have hz:zs.length=cap:=by simpa using hz
  have hlen:(zs.take len).length=len:=by rw [List.length_take];omega
  refine ⟨zs.take len,some cap,⟨?_,fun z hz'=>?_⟩,?_⟩
  ·rw [hlen];unfold maxLen at hm;omega
  ·have:=hw z (List.mem_of_mem_take hz')
   simp only [Lit.wf,IntKind.min,IntKind.max,IntKind.bits,IntKind.signed,Bool.and_eq_true,decide_eq_true_eq] at this
   constructor<;>simp at this<;>omega
  ·rw [hlen]
   have ea:a=⟨a.block,a.off,none⟩:=by cases a;simp at hs;subst hs;rfl
   rw [ea]
   refine .vec _ len (some cap) a.block a.off cap (fun j=> .int .i8 (zs.getD j 0)) (fun _ h=>h) (fun j hj=>?_) (fun j x hj=>?_) hl (fun k hk=>by cases hk;rfl)
   ·rw [i8z_len,hlen] at hj
    have:=hc j (by omega)
    rw [add_eq hs] at this
    exact this
   ·have hj':j<(zs.take len).length:=by
     rcases Nat.lt_or_ge j (zs.take len).length with h' | h'
     ·exact h'
     ·rw [List.getElem?_eq_none (by rw [i8z_len];exact h')] at hj;cases hj
    rw [hlen] at hj'
    have:x= .int .i8 (zs.getD j 0):=by
     simp only [i8z,List.getElem?_map,List.getElem?_take,if_pos hj',Option.map_eq_some_iff] at hj
     obtain ⟨z,hz1,rfl⟩:=hj
     rw [List.getD_eq_getElem?_getD,hz1];rfl
    rw [this]
    exact .int _ _
theorem open_lat {H:Type} {enc:TypeId×Value→H} {W:World} {b0:Nat} {v:Value} {d:DataW H} {p:List MemPlace} (hv:Value.okWide Tryz.prog W .any b0 24 v) (h:DataW.Trod enc Tryz.prog W 0 (fun _=>true) true 24 v d p):
  ∃(z k:Int) (l q:List Int) (c c2:Option Nat),Tape8 l∧(0≤z∧z<256)∧(0≤k∧k<256)∧IRep W (fun _=>False) (.agg (latC z k l q c c2)) v:=by
 obtain ⟨v0,v1,v2,v3,y0,y1,y2,y3,n,rfl,_,_,t0,t1,t2,t3⟩:=open_agg4 Tryz.underlying24 (by kernel_rfl) (by kernel_rfl) hv h
 obtain ⟨o2,o3⟩:=slot_ok hv
 obtain ⟨z,e0,_,w0⟩:=DataW.trod_int Tryz.underlying5 t0
 obtain ⟨k,e1,_,w1⟩:=DataW.trod_int Tryz.underlying5 t1
 obtain rfl:v0=_:=by simpa using e0
 obtain rfl:v1=_:=by simpa using e1
 obtain ⟨l,c,hl,r2⟩:=open_i8 o2 t2
 obtain ⟨q,c2,_,r3⟩:=open_i8 o3 t3
 simp [Lit.wf,IntKind.min,IntKind.max,IntKind.bits,IntKind.signed] at w0 w1
 refine ⟨z,k,l,q,c,c2,hl,by omega,by omega,.agg _ _ rfl (fun j a u ha hu=>?_)⟩
 match j,ha,hu with
 | 0,ha,hu=>cases ha;cases hu;exact .int _ _
 | 1,ha,hu=>cases ha;cases hu;exact .int _ _
 | 2,ha,hu=>cases ha;cases hu;exact r2
 | 3,ha,hu=>cases ha;cases hu;exact r3
 | n+4,ha,hu=>cases ha
end Go.Proofs.YtenboapacjlmoaaGreatDoor
