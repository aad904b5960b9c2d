/- A part of the proof. -/
import Derived.Test.YtbjdfanphdfkdaaGreatDoorCVTC
import Derived.Test.YtbjdfanphdfkdaaGreatDoorCVQ0
import Derived.Test.YtbjdfanphdfkdaaGreatDoorCVQ1
import Derived.Lib.SmallJoins
import Derived.ChangeSlices
import Derived.WideKeyArgs
set_option linter.all false
set_option maxRecDepth 1000000
namespace Go.Proofs.YtbjdfanphdfkdaaGreatDoor
open Go Go.AL Go.Proofs
theorem ndT{f:Nat->Bool}{p:Nat}{l r:Tr}(h1:allT f l=true)(h2:allT f r=true):allT f (.nd p l r)=true:=by
 show ifB (allT f l) (allT f r) false=true
 rw[zem h1];exact h2
theorem all2:allT (okQ f2V LL2) tr2=true:=(ndT kpg kph)
theorem all3:allT (okQ f3V LL3) tr3=true:=(ndT (ndT (ndT (ndT (ndT kpk kpl) (ndT kpm kpn)) (ndT (ndT kpo kpp) (ndT kpq (ndT kpr kps)))) (ndT (ndT (ndT kpt xsz) (ndT xta (ndT xtb xtc))) (ndT (ndT xtd xte) (ndT xtf (ndT xtg xth))))) (ndT (ndT (ndT (ndT xti xtj) (ndT xtk (ndT xtl xtm))) (ndT (ndT xtn xto) (ndT xtp (ndT xtq xtr)))) (ndT (ndT (ndT xts xtt) (ndT xtu (ndT xtv xtw))) (ndT (ndT xtx xty) (ndT xtz (ndT xua xub))))))
end Go.Proofs.YtbjdfanphdfkdaaGreatDoor
namespace Go.Proofs.YtbjdfanphdfkdaaGreatDoor
open Go Go.AL Go.Proofs Go.Limb Go.Det
def fV(M:List (List Int)):AV:= .vec (zdm M.length M) M.length (some M.length)
theorem z1(a:Int)(h1:1<=a)(h9:a<=9):qif 1 (fV (M1 a)):=by
 rcases(by omega:a=1\/a=2\/a=3\/a=4\/a=5\/a=6\/a=7\/a=8\/a=9)with rfl | rfl | rfl | rfl | rfl | rfl | rfl | rfl | rfl
 ·exact qia (P:=λc=>qif 1 (f1V c)) (c:=1) qrx (by rfl)
 ·exact qia (P:=λc=>qif 1 (f1V c)) (c:=2) qrx (by rfl)
 ·exact qia (P:=λc=>qif 1 (f1V c)) (c:=3) qrx (by rfl)
 ·exact qia (P:=λc=>qif 1 (f1V c)) (c:=4) qrx (by rfl)
 ·exact qia (P:=λc=>qif 1 (f1V c)) (c:=5) qrx (by rfl)
 ·exact qia (P:=λc=>qif 1 (f1V c)) (c:=6) qrx (by rfl)
 ·exact qia (P:=λc=>qif 1 (f1V c)) (c:=7) qrx (by rfl)
 ·exact qia (P:=λc=>qif 1 (f1V c)) (c:=8) qrx (by rfl)
 ·exact qia (P:=λc=>qif 1 (f1V c)) (c:=9) qrx (by rfl)
theorem ktj(c:Nat):fV (jmk c)=f2V c:=by
 have e:((c:Int)/256)=Int.ofNat (c/256):=by rw[Int.ofNat_eq_natCast];omega
 unfold jmk f2V;rw[e];simp only[<-kpf];rfl
theorem ktk(c:Nat):fV (jml c)=f3V c:=by
 unfold jml f3V;simp only[<-kpf];rfl
theorem z2(a t b:Int)(h:P2 tr2 a t b=true):qif 2 (fV (M2 a t b)):=by
 obtain⟨c,hc,e⟩:=ktf h;rw[e,ktj];exact qQ koz (qew hc all2)
theorem z3(a t s b r c:Int)(h:P3 tr3 a t s b r c=true):qif 3 (fV (M3 a t s b r c)):=by
 obtain⟨x,hx,e⟩:=ktg h;rw[e,ktk];exact qQ kpa (qew hx all3)
theorem lawF{d kd:Int}{l q:List Int}{c c2:Option Nat}(hT:zmc l)(hd:0<=d/\d<256)(hk:0<=kd/\kd<256):Rt 3 [.agg (latC d kd l q c c2)] [] (.bool true) []:=by
 obtain⟨n,hn⟩:∃n:Nat,(n:Int)=1+d%3:=⟨(1+d%3).toNat,by omega⟩
 obtain⟨k,M,T,hE,_,hR,hL,tF⟩:=kaj (c:=c) (c2:=c2) (q:=q) (most:=3) hT hd hk (by decide) hn;have hZ:=qsg (Z:=λM=>qif M.length (fV M)) z1 z2 z3 c2_ok kth c3_ok kti (by omega) hE;have el:M.length=n:=hL.shM.len;unfold fV at hZ;rw[el]at hZ;exact jcm (by omega) awk tF hZ
end Go.Proofs.YtbjdfanphdfkdaaGreatDoor
namespace Go.Proofs.YtbjdfanphdfkdaaGreatDoor
open Go Go.AL Go.Proofs Go.ChangeShapes Go.WideShapes Go.Joins
theorem add_eq{a:Addr}(h:a.spot=none)(i:Nat):a.add i=⟨a.block,a.off+i,none⟩:=by
 unfold Addr.add;cases a with
 |mk b o s=>
  subst h;split
  ·rename_i e;subst e;rfl
  ·rfl
theorem xwl:Tryz.prog.cellTypes Tryz.prog.depth 24=some [5,5,22,22]:=by kernel_rfl
theorem xwm{W:World}{b0:Nat}{v0 v1 v2 v3:Value}(h:Value.okWide Tryz.prog W .any b0 24 (.agg #[v0,v1,v2,v3])):Cell.okWide Tryz.prog W .any b0 22 v2/\Cell.okWide Tryz.prog W .any b0 22 v3:=by
 simp only[Value.okWide,Tryz.underlying24]at h;obtain⟨cs,e,_,ts,hts,_,hi⟩:=h;injection e with e
 subst e;rw[xwl]at hts;obtain rfl:=Option.some.inj hts;obtain⟨u,hu,h2⟩:=hi 2 v2 rfl;obtain⟨w,hw,h3⟩:=hi 3 v3 rfl;obtain rfl:22=u:=Option.some.inj hu;obtain rfl:22=w:=Option.some.inj hw;exact⟨h2,h3⟩
theorem xwn{W:World}{b0:Nat}{a:Addr}{n c:Nat}(h:Cell.okWide Tryz.prog W .any b0 22 (.slice (some a) n c)):a.spot=none:=by
 simp only[Cell.okWide,Cell.ok,Tryz.underlying22]at h;exact h.2.2.2.1
theorem qsi{H:Type}{enc:TypeId×Value->H}{W:World}{b0 n:Nat}{v:Value}{y:DataW H×List MemPlace}(hv:Cell.okWide Tryz.prog W .any b0 22 v)(h:DataW.trod enc Tryz.prog W 0 (λ_=>true) true n 22 [v]=some y):
  ∃(l:List Int) (c:Option Nat),zmc l/\IRep W (λ_=>False) (.vec (i8z l) l.length c) v:=by
 rcases open_ints Tryz.underlying22 Tryz.underlying229 (by kernel_rfl) h with⟨e,_⟩ | ⟨a,len,cap,zs,e,_,hl,hm,hz,_,hc,hw⟩
 ·obtain rfl:v=_:=by simpa using e
  exact⟨[],some 0,⟨by decide,λz hz=>by cases hz⟩,.nil none _ (λk hk=>by cases hk;rfl)⟩
 ·obtain rfl:v=_:=by simpa using e
  have hs:=xwn hv;have hz:zs.length=cap:=by simpa using hz
  have hlen:(zs.take len).length=len:=by rw[List.length_take];omega
  refine⟨zs.take len,some cap,⟨?_,λz hz'=>?_⟩,?_⟩
  ·rw[hlen];unfold maxLen at hm;omega
  ·have:=hw z (List.mem_of_mem_take hz');simp only[Lit.wf,IntKind.min,IntKind.max,IntKind.bits,IntKind.signed,Bool.and_eq_true,decide_eq_true_eq]at this;constructor<;>simp at this<;>omega
  ·rw[hlen];have ea:a=⟨a.block,a.off,none⟩:=by cases a;simp at hs;subst hs;rfl
   rw[ea];refine .vec _ len (some cap) a.block a.off cap (λj=> .int .i8 (zs.getD j 0)) (λ_ h=>h) (λj hj=>?_) (λj x hj=>?_) hl (λk hk=>by cases hk;rfl)
   ·rw[qba,hlen]at hj;have:=hc j (by omega);rw[add_eq hs]at this;exact this
   ·have hj':j<(zs.take len).length:=by
     rcases Nat.lt_or_ge j (zs.take len).length with h' | h'
     ·exact h'
     ·rw[List.getElem?_eq_none (by rw[qba];exact h')]at hj;cases hj
    rw[hlen]at hj'
    have:x= .int .i8 (zs.getD j 0):=by
     simp only[i8z,List.getElem?_map,List.getElem?_take,if_pos hj',Option.map_eq_some_iff]at hj;obtain⟨z,hz1,rfl⟩:=hj;rw[List.getD_eq_getElem?_getD,hz1];rfl
    rw[this];exact .int _ _
theorem jut{H:Type}{enc:TypeId×Value->H}{W:World}{b0:Nat}{v:Value}{d:DataW H}{p:List MemPlace}(hv:Value.okWide Tryz.prog W .any b0 24 v)(h:DataW.Trod enc Tryz.prog W 0 (λ_=>true) true 24 v d p):
  ∃(z k:Int) (l q:List Int) (c c2:Option Nat),zmc l/\zmc q/\(0<=z/\z<256)/\(0<=k/\k<256)/\IRep W (λ_=>False) (.agg (latC z k l q c c2)) v:=by
 obtain⟨v0,v1,v2,v3,y0,y1,y2,y3,n,rfl,_,_,t0,t1,t2,t3⟩:=open_agg4 Tryz.underlying24 (by kernel_rfl) (by kernel_rfl) hv h;obtain⟨o2,o3⟩:=xwm hv;obtain⟨z,e0,_,w0⟩:=DataW.trod_int Tryz.underlying5 t0;obtain⟨k,e1,_,w1⟩:=DataW.trod_int Tryz.underlying5 t1;obtain rfl:v0=_:=by simpa using e0
 obtain rfl:v1=_:=by simpa using e1
 obtain⟨l,c,hl,r2⟩:=qsi o2 t2;obtain⟨q,c2,hq,r3⟩:=qsi o3 t3;simp[Lit.wf,IntKind.min,IntKind.max,IntKind.bits,IntKind.signed]at w0 w1;refine⟨z,k,l,q,c,c2,hl,hq,by omega,by omega,.agg _ _ rfl (λj a u ha hu=>?_)⟩
 match j,ha,hu with
 |0,ha,hu=>cases ha;cases hu;exact .int _ _
 |1,ha,hu=>cases ha;cases hu;exact .int _ _
 |2,ha,hu=>cases ha;cases hu;exact r2
 |3,ha,hu=>cases ha;cases hu;exact r3
 |n+4,ha,hu=>cases ha
