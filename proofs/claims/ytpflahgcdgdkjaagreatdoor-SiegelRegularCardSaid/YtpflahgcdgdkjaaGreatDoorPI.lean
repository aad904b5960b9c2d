/- A part of the proof. -/
import Derived.Test.YtpflahgcdgdkjaaGreatDoorPH
import Derived.Test.YtpflahgcdgdkjaaGreatDoorKG
import Derived.Lib.SmallJoins
import Derived.ChangeSlices
import Derived.WideKeyArgs
import Derived.Test.YtpflahgcdgdkjaaGreatDoorPC
import Derived.Deep.Matrix
set_option linter.all false
set_option maxRecDepth 100000
namespace Go.Proofs.YtpflahgcdgdkjaaGreatDoor
open Go Go.AL Go.Proofs Go.Det
theorem quc{M:List (List Int)}{h:AV}{d kd p raw k:Int}{l q:List Int}{c1 c2:Option Nat}{wild made small:Bool}(hV:ImV M h)
  (hT:zle l) (hd:0<=d/\d<256) (hkd:0<=kd/\kd<256) (hp:0<=p/\p<256) (hraw:In64 raw):
  Rt 5 [h,.agg (latC d kd l q c1 c2),.int .u8 p,.int .i64 raw,.int .i64 k,.bool wild,.bool made,.bool small] [] (.bool true) []:=
 jes hV hT hd hkd hp hraw Q.q66
end Go.Proofs.YtpflahgcdgdkjaaGreatDoor
namespace Go.Proofs.YtpflahgcdgdkjaaGreatDoor
open List renaming getD_eq_getElem?_getD -> qQ, getElem?_eq_none -> qX, getElem?_map -> qZ, getElem?_range -> qJ, mem_of_mem_take -> qV, getElem?_take -> qY, length_take -> qU
open Nat renaming lt_or_ge -> qK
open Option renaming map_eq_some_iff -> qW
open Go Go.AL Go.Proofs Go.ChangeShapes Go.WideShapes Go.Joins
theorem qoe{a:Addr}(h:a.spot=none)(i:Nat):a.add i=⟨a.block,a.off+i,none⟩:=by
 unfold Addr.add;cases a with
 |mk b o s=>
  subst h;split
  ·rename_i e;subst e;rfl
  ·rfl
theorem jbo:Tryz.prog.cellTypes Tryz.prog.depth 25=some [5,5,23,23]:=by kernel_rfl
theorem jbp{W:World}{b0:Nat}{v0 v1 v2 v3:Value}(h:Value.okWide Tryz.prog W .any b0 25 (.agg #[v0,v1,v2,v3])):Cell.okWide Tryz.prog W .any b0 23 v2/\Cell.okWide Tryz.prog W .any b0 23 v3:=by
 simp only[Value.okWide,Tryz.underlying25]at h;obtain⟨cs,e,_,ts,hts,_,hi⟩:=h;injection e with e
 subst e;rw[jbo]at hts;obtain rfl:=Option.some.inj hts;obtain⟨u,hu,h2⟩:=hi 2 v2 rfl;obtain⟨w,hw,h3⟩:=hi 3 v3 rfl;obtain rfl:23=u:=Option.some.inj hu;obtain rfl:23=w:=Option.some.inj hw;exact⟨h2,h3⟩
theorem jbq{W:World}{b0:Nat}{a:Addr}{n c:Nat}(h:Cell.okWide Tryz.prog W .any b0 23 (.slice (some a) n c)):a.spot=none:=by
 simp only[Cell.okWide,Cell.ok,Tryz.underlying23]at h;exact h.2.2.2.1
theorem qof{H:Type}{enc:TypeId×Value->H}{W:World}{b0 n:Nat}{v:Value}{y:DataW H×List MemPlace}(hv:Cell.okWide Tryz.prog W .any b0 23 v)(h:DataW.trod enc Tryz.prog W 0 (λ_=>true) true n 23 [v]=some y):
  ∃(l:List Int) (c:Option Nat),zle l/\IRep W (λ_=>False) (.vec (i8z l) l.length c) v:=by
 rcases open_ints Tryz.underlying23 Tryz.underlying179 (by kernel_rfl) h with⟨e,_⟩ | ⟨a,len,cap,zs,e,_,hl,hm,hz,_,hc,hw⟩
 ·obtain rfl:v=_:=by simpa using e
  exact⟨[],some 0,⟨by decide,λz hz=>by cases hz⟩,.nil none _ (λk hk=>by cases hk;rfl)⟩
 ·obtain rfl:v=_:=by simpa using e
  have hs:=jbq hv;have hz:zs.length=cap:=by simpa using hz
  have hlen:(zs.take len).length=len:=by rw[qU];omega
  refine⟨zs.take len,some cap,⟨?_,λz hz'=>?_⟩,?_⟩
  ·rw[hlen];unfold maxLen at hm;omega
  ·have:=hw z (qV hz');simp only[Lit.wf,IntKind.min,IntKind.max,IntKind.bits,IntKind.signed,Bool.and_eq_true,decide_eq_true_eq]at this;constructor<;>simp at this<;>omega
  ·rw[hlen];have ea:a=⟨a.block,a.off,none⟩:=by cases a;simp at hs;subst hs;rfl
   rw[ea];refine .vec _ len (some cap) a.block a.off cap (λj=> .int .i8 (zs.getD j 0)) (λ_ h=>h) (λj hj=>?_) (λj x hj=>?_) hl (λk hk=>by cases hk;rfl)
   ·rw[qar,hlen]at hj;have:=hc j (by omega);rw[qoe hs]at this;exact this
   ·have hj':j<(zs.take len).length:=by
     rcases qK j (zs.take len).length with h' | h'
     ·exact h'
     ·rw[qX (by rw[qar];exact h')]at hj;cases hj
    rw[hlen]at hj'
    have:x= .int .i8 (zs.getD j 0):=by
     simp only[i8z,qZ,qY,if_pos hj',qW]at hj;obtain⟨z,hz1,rfl⟩:=hj;rw[qQ,hz1];rfl
    rw[this];exact .int _ _
theorem qud{H:Type}{enc:TypeId×Value->H}{W:World}{b0:Nat}{v:Value}{d:DataW H}{p:List MemPlace}(hv:Value.okWide Tryz.prog W .any b0 25 v)(h:DataW.Trod enc Tryz.prog W 0 (λ_=>true) true 25 v d p):
  ∃(z k:Int) (l q:List Int) (c c2:Option Nat),zle l/\(0<=z/\z<256)/\(0<=k/\k<256)/\IRep W (λ_=>False) (.agg (latC z k l q c c2)) v:=by
 obtain⟨v0,v1,v2,v3,y0,y1,y2,y3,n,rfl,_,_,t0,t1,t2,t3⟩:=open_agg4 Tryz.underlying25 (by kernel_rfl) (by kernel_rfl) hv h;obtain⟨o2,o3⟩:=jbp hv;obtain⟨z,e0,_,w0⟩:=DataW.trod_int Tryz.underlying5 t0;obtain⟨k,e1,_,w1⟩:=DataW.trod_int Tryz.underlying5 t1;obtain rfl:v0=_:=by simpa using e0
 obtain rfl:v1=_:=by simpa using e1
 obtain⟨l,c,hl,r2⟩:=qof o2 t2;obtain⟨q,c2,_,r3⟩:=qof o3 t3;simp[Lit.wf,IntKind.min,IntKind.max,IntKind.bits,IntKind.signed]at w0 w1;refine⟨z,k,l,q,c,c2,hl,by omega,by omega,.agg _ _ rfl (λj a u ha hu=>?_)⟩
 match j,ha,hu with
 |0,ha,hu=>cases ha;cases hu;exact .int _ _
 |1,ha,hu=>cases ha;cases hu;exact .int _ _
 |2,ha,hu=>cases ha;cases hu;exact r2
 |3,ha,hu=>cases ha;cases hu;exact r3
 |n+4,ha,hu=>cases ha
theorem qog{W:World}{a:Addr}{v:Value}(h:W.cell? a=some v):a.spot=none:=by
 unfold World.cell? at h;split at h
 ·split at h
  ·cases h
  ·rename_i hs;simpa using hs
 ·cases h
theorem i64_in{n:Int}(h:(Lit.int .i64 n).wf=true):In64 n:=by
 simp[Lit.wf,IntKind.min,IntKind.max,IntKind.bits,IntKind.signed]at h;unfold In64;omega
theorem que{W:World}{b0:Nat}{a:Addr}{n c:Nat}(h:Value.okWide Tryz.prog W .any b0 22 (.slice (some a) n c)):a.spot=none:=by
 simp only[Value.okWide,Cell.okWide,Cell.ok,Tryz.underlying22]at h;exact h.2.2.2.1
theorem quf{H:Type}{enc:TypeId×Value->H}{W:World}{b0:Nat}{v:Value}{d:DataW H}{p:List MemPlace}(hv:Value.okWide Tryz.prog W .any b0 22 v)(h:DataW.Trod enc Tryz.prog W 0 (λ_=>true) true 22 v d p):
  ∃(M:List (List Int)) (a:AV),ImV M a/\IRep W (λ_=>False) a v:=by
 obtain⟨n,hn⟩:=h
 have hc:v.cells.toList=[v]:=by
  have:=hv;simp only[Value.okWide,Cell.okWide,Cell.ok,Tryz.underlying22]at this;cases v<;>first | rfl | exact this.elim
 rw[hc]at hn;rcases Deep.open_int_rows Tryz.underlying22 Tryz.underlying31 Tryz.underlying2 (by kernel_rfl) (by kernel_rfl) hn with⟨e,_⟩ | ⟨a,len,cap,A,L,C,Z,e,_,hl,hm,_,hr⟩
 ·obtain rfl:v=_:=by simpa using e
  refine⟨[],.vec [] 0 (some 0),⟨⟨[],some 0,rfl,rfl,λi hi=>absurd hi (by simp)⟩,λi j=>?_⟩,.nil none _ (λk hk=>by cases hk;rfl)⟩;simp[ent,In64]
 ·obtain rfl:v=_:=by simpa using e
  have hs:=que hv;have hlM:((List.range len).map λr=>(Z r).take (L r)).length=len:=by simp
  have hgM:∀r,r<len->((List.range len).map λr=>(Z r).take (L r)).getD r []=(Z r).take (L r):=by
   intro r hr;rw[qQ,qZ,qJ hr];rfl
  have hgL:∀r,r<len->((Z r).take (L r)).length=L r:=by
   intro r hr';obtain⟨_,h1,_,h3,_⟩:=hr r (by omega);rw[qU];omega
  refine⟨(List.range len).map λr=>(Z r).take (L r),.vec ((List.range len).map λr=>AV.vec (i64z ((Z r).take (L r))) (L r) (some (C r))) len (some cap),⟨⟨_,some cap,by rw[hlM],by simp,λi hi=>⟨some (C i),?_⟩⟩,λi j=>?_⟩,?_⟩
  ·rw[hlM]at hi;rw[hgM i hi,hgL i hi,qQ,qZ,qJ hi];rfl
  ·unfold ent;rcases qK i len with hi | hi
   ·rw[hgM i hi,qQ];cases hz:((Z i).take (L i))[j]? with
    |none=>simp[In64]
    |some z=>
     obtain⟨_,_,_,_,h4,_⟩:=hr i (by omega);exact i64_in (h4 z (qV (List.mem_of_getElem? hz)))
   ·rw[qQ (l:=List.map _ _),qX (by rw[hlM];exact hi)];simp[In64]
  ·have ea:a=⟨a.block,a.off,none⟩:=by cases a;simp at hs;subst hs;rfl
   rw[ea];refine .vec _ len (some cap) a.block a.off cap (λj=> .slice (A j) (L j) (C j)) (λ_ h=>h) (λj hj=>?_) (λj x hj=>?_) hl (λk hk=>by cases hk;rfl)
   ·have hj:j<len:=by simpa using hj
    have:=(hr j (by omega)).1;rw[qoe hs]at this;exact this
   ·have hj':j<len:=by
     rcases qK j len with h' | h'
     ·exact h'
     ·rw[qX (by simpa using h')]at hj;cases hj
    rw[qZ,qJ hj']at hj;obtain rfl:=Option.some.inj hj;obtain⟨_,h1,h2,h3,h4,h5,h6⟩:=hr j (by omega);have hlj:=hgL j hj';rcases Nat.eq_zero_or_pos (C j)with hC | hC
    ·have hL:L j=0:=by omega
     have hZ:Z j=[]:=List.length_eq_zero_iff.1 (by omega);simp only[hC,hL,hZ];exact .nil _ _ (λk hk=>by cases hk;rfl)
    ·cases hA:A j with
     |none=>have:=h5 hA;omega
     |some a'=>
      obtain⟨_,hcell⟩:=h6 a' hA;have c0:=hcell 0 hC
      have hs':a'.spot=none:=by
       have e0:a'.add 0=a':=by simp[Addr.add]
       rw[e0]at c0;exact qog c0
      have ea':a'=⟨a'.block,a'.off,none⟩:=by cases a';simp at hs';subst hs';rfl
      rw[ea'];refine .vec _ (L j) (some (C j)) a'.block a'.off (C j) (λc=> .int .i64 ((Z j).getD c 0)) (λ_ h=>h) (λc hc'=>?_) (λc x hx=>?_) h1 (λk hk=>by cases hk;rfl)
      ·rw[zbe,hlj]at hc';have:=hcell c (by omega);rw[qoe hs']at this;exact this
      ·have hc':c<L j:=by
        rcases qK c (L j)with h' | h'
        ·exact h'
        ·rw[qX (by rw[zbe,hlj];exact h')]at hx;cases hx
       have:x= .int .i64 ((Z j).getD c 0):=by
        simp only[i64z,qZ,qY,if_pos hc',qW]at hx;obtain⟨z,hz1,rfl⟩:=hx;rw[qQ,hz1];rfl
       rw[this];exact .int _ _
