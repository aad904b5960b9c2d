/- A part of the proof. -/
import Derived.Test.YtbjdfanphdfkdaaGreatDoorFTC
import Derived.Test.YtbjdfanphdfkdaaGreatDoorFO0
import Derived.Test.YtbjdfanphdfkdaaGreatDoorFO1
import Derived.Test.YtbjdfanphdfkdaaGreatDoorFO2
import Derived.Test.YtbjdfanphdfkdaaGreatDoorFO3
import Derived.Test.YtbjdfanphdfkdaaGreatDoorFO4
import Derived.Test.YtbjdfanphdfkdaaGreatDoorFO5
import Derived.Test.YtbjdfanphdfkdaaGreatDoorFO6
import Derived.Test.YtbjdfanphdfkdaaGreatDoorFO7
import Derived.Test.YtbjdfanphdfkdaaGreatDoorFO8
import Derived.Test.YtbjdfanphdfkdaaGreatDoorFO9
import Derived.Test.YtbjdfanphdfkdaaGreatDoorFO10
import Derived.Test.YtbjdfanphdfkdaaGreatDoorFO11
import Derived.Test.YtbjdfanphdfkdaaGreatDoorFO12
import Derived.Test.YtbjdfanphdfkdaaGreatDoorFO13
import Derived.Test.YtbjdfanphdfkdaaGreatDoorFO14
import Derived.Test.YtbjdfanphdfkdaaGreatDoorFO15
import Derived.Test.YtbjdfanphdfkdaaGreatDoorPL
import Derived.Test.YtbjdfanphdfkdaaGreatDoorFCA
import Derived.Lib.SmallJoins
import Derived.ChangeSlices
import Derived.WideKeyArgs
set_option linter.all false
set_option maxRecDepth 1000000
namespace Go.Proofs.YtbjdfanphdfkdaaGreatDoor
open Go Go.AL Go.Proofs
theorem ndT{f:Nat->Bool}{p:Nat}{l r:Tr}(h1:allT f l=true)(h2:allT f r=true):allT f (.nd p l r)=true:=by
 show ifB (allT f l) (allT f r) false=true
 rw[zem h1];exact h2
theorem all2:allT okF2 tr2=true:=(ndT (ndT kpg kph) (ndT kpi kpj))
theorem all3:allT okF3 tr3=true:=(ndT (ndT (ndT (ndT (ndT (ndT (ndT (ndT kpk kpl) (ndT kpm kpn)) (ndT (ndT kpo kpp) (ndT kpq (ndT kpr kps)))) (ndT (ndT (ndT kpt xsz) (ndT xta (ndT xtb xtc))) (ndT (ndT xtd xte) (ndT xtf (ndT xtg xth))))) (ndT (ndT (ndT (ndT xti xtj) (ndT xtk (ndT xtl xtm))) (ndT (ndT xtn xto) (ndT xtp (ndT xtq xtr)))) (ndT (ndT (ndT xts xtt) (ndT xtu (ndT xtv xtw))) (ndT (ndT xtx xty) (ndT xtz (ndT xua xub)))))) (ndT (ndT (ndT (ndT (ndT xuc xud) (ndT xue xuf)) (ndT (ndT xug xuh) (ndT xui (ndT xuj xuk)))) (ndT (ndT (ndT xul xum) (ndT xun (ndT xuo xup))) (ndT (ndT xuq xur) (ndT xus (ndT xut xuu))))) (ndT (ndT (ndT (ndT xuv xuw) (ndT xux (ndT xuy xuz))) (ndT (ndT xva xvb) (ndT xvc (ndT xvd xve)))) (ndT (ndT (ndT xvf xvg) (ndT xvh (ndT xvi xvj))) (ndT (ndT xvk xvl) (ndT xvm (ndT xvn xvo))))))) (ndT (ndT (ndT (ndT (ndT (ndT xvp xvq) (ndT xvr xvs)) (ndT (ndT xvt xvu) (ndT xvv (ndT xvw xvx)))) (ndT (ndT (ndT xvy xvz) (ndT xwa (ndT xwb xwc))) (ndT (ndT xwd xwe) (ndT xwf (ndT xwg xwh))))) (ndT (ndT (ndT (ndT xwi xwj) (ndT xwk (ndT jmn jmo))) (ndT (ndT jmp jmq) (ndT jmr (ndT jms jmt)))) (ndT (ndT (ndT jmu jmv) (ndT jmw (ndT jmx jmy))) (ndT (ndT jmz jna) (ndT jnb (ndT jnc jnd)))))) (ndT (ndT (ndT (ndT (ndT jne jnf) (ndT jng (ndT jnh jni))) (ndT (ndT jnj jnk) (ndT jnl (ndT jnm jnn)))) (ndT (ndT (ndT jno jnp) (ndT jnq (ndT jnr jns))) (ndT (ndT jnt jnu) (ndT jnv (ndT jnw jnx))))) (ndT (ndT (ndT (ndT jny jnz) (ndT joa (ndT job joc))) (ndT (ndT jod joe) (ndT jof (ndT jog joh)))) (ndT (ndT (ndT joi joj) (ndT jok (ndT jol jom))) (ndT (ndT jon joo) (ndT jop (ndT joq jor)))))))) (ndT (ndT (ndT (ndT (ndT (ndT (ndT jos jot) (ndT jou jov)) (ndT (ndT jow jox) (ndT joy (ndT joz jpa)))) (ndT (ndT (ndT jpb jpc) (ndT jpd (ndT jpe jpf))) (ndT (ndT jpg jph) (ndT jpi (ndT jpj jpk))))) (ndT (ndT (ndT (ndT jpl jpm) (ndT jpn (ndT jpo jpp))) (ndT (ndT jpq jpr) (ndT jps (ndT jpt jpu)))) (ndT (ndT (ndT jpv jpw) (ndT jpx (ndT jpy jpz))) (ndT (ndT jqa jqb) (ndT jqc (ndT jqd jqe)))))) (ndT (ndT (ndT (ndT (ndT jqf jqg) (ndT jqh jqi)) (ndT (ndT jqj jqk) (ndT jql (ndT jqm jqn)))) (ndT (ndT (ndT jqo jqp) (ndT jqq (ndT jqr jqs))) (ndT (ndT jqt jqu) (ndT jqv (ndT jqw jqx))))) (ndT (ndT (ndT (ndT jqy jqz) (ndT jra (ndT jrb jrc))) (ndT (ndT jrd jre) (ndT jrf (ndT jrg jrh)))) (ndT (ndT (ndT jri jrj) (ndT jrk (ndT jrl jrm))) (ndT (ndT jrn jro) (ndT jrp (ndT jrq jrr))))))) (ndT (ndT (ndT (ndT (ndT (ndT jrs jrt) (ndT jru jrv)) (ndT (ndT jrw jrx) (ndT jry (ndT jrz jsa)))) (ndT (ndT (ndT jsb jsc) (ndT jsd (ndT jse jsf))) (ndT (ndT jsg jsh) (ndT jsi (ndT jsj jsk))))) (ndT (ndT (ndT (ndT jsl jsm) (ndT jsn (ndT jso jsp))) (ndT (ndT jsq jsr) (ndT jss (ndT jst jsu)))) (ndT (ndT (ndT jsv jsw) (ndT jsx (ndT jsy jsz))) (ndT (ndT jta jtb) (ndT jtc (ndT jtd jte)))))) (ndT (ndT (ndT (ndT (ndT jtf jtg) (ndT jth (ndT jti jtj))) (ndT (ndT jtk jtl) (ndT jtm (ndT jtn jto)))) (ndT (ndT (ndT jtp jtq) (ndT jtr (ndT jts jtt))) (ndT (ndT jtu jtv) (ndT jtw (ndT jtx jty))))) (ndT (ndT (ndT (ndT jtz jua) (ndT jub (ndT juc jud))) (ndT (ndT jue juf) (ndT jug (ndT juh jui)))) (ndT (ndT (ndT juj juk) (ndT jul (ndT jum jun))) (ndT (ndT juo jup) (ndT juq (ndT jur jus)))))))))
end Go.Proofs.YtbjdfanphdfkdaaGreatDoor
namespace Go.Proofs.YtbjdfanphdfkdaaGreatDoor
open Go Go.AL Go.Proofs Go.Limb Go.Det
theorem qsh{v:AV}(h:QF v):zsu v:=by
 obtain⟨k,a,d,l,n,c,h1,h2,h3⟩:=h;exact⟨k,a,d,l,n,c,h1,h2,h3.imp id λh=>AllC.mem ktc _ h⟩
def fV(M:List (List Int)):AV:= .vec (zdm M.length M) M.length (some M.length)
theorem z1(a:Int)(h1:1<=a)(h9:a<=9):zsu (fV (M1 a)):=by
 refine qsh (qF ?_);rcases(by omega:a=1\/a=2\/a=3\/a=4\/a=5\/a=6\/a=7\/a=8\/a=9)with rfl | rfl | rfl | rfl | rfl | rfl | rfl | rfl | rfl
 ·exact zfc (c:=1) (f:=okF1) (by rfl) zvh
 ·exact zfc (c:=2) (f:=okF1) (by rfl) zvh
 ·exact zfc (c:=3) (f:=okF1) (by rfl) zvh
 ·exact zfc (c:=4) (f:=okF1) (by rfl) zvh
 ·exact zfc (c:=5) (f:=okF1) (by rfl) zvh
 ·exact zfc (c:=6) (f:=okF1) (by rfl) zvh
 ·exact zfc (c:=7) (f:=okF1) (by rfl) zvh
 ·exact zfc (c:=8) (f:=okF1) (by rfl) zvh
 ·exact zfc (c:=9) (f:=okF1) (by rfl) zvh
theorem ktj(c:Nat):fV (jmk c)=f2V c:=by
 have e:((c:Int)/256)=Int.ofNat (c/256):=by rw[Int.ofNat_eq_natCast];omega
 unfold jmk f2V;rw[e];simp only[<-kpf];rfl
theorem ktk(c:Nat):fV (jml c)=f3V c:=by
 unfold jml f3V;simp only[<-kpf];rfl
theorem z2(a t b:Int)(h:P2 tr2 a t b=true):zsu (fV (M2 a t b)):=by
 obtain⟨c,hc,e⟩:=ktf h;rw[e,ktj];exact qsh (qF (qew hc all2))
theorem z3(a t s b r c:Int)(h:P3 tr3 a t s b r c=true):zsu (fV (M3 a t s b r c)):=by
 obtain⟨x,hx,e⟩:=ktg h;rw[e,ktk];exact qsh (qF (qew hx all3))
theorem lawF{d kd:Int}{l q:List Int}{c c2:Option Nat}(hT:zmc l)(hd:0<=d/\d<256)(hk:0<=kd/\kd<256):Rt 4 [.agg (latC d kd l q c c2)] [] (.bool true) []:=by
 obtain⟨n,hn⟩:∃n:Nat,(n:Int)=1+d%3:=⟨(1+d%3).toNat,by omega⟩
 obtain⟨k,M,T,hE,_,hR,hL,tF⟩:=kaj (c:=c) (c2:=c2) (q:=q) (most:=3) hT hd hk (by decide) hn;have hZ:=qsg (Z:=λM=>zsu (fV M)) z1 z2 z3 c2_ok kth c3_ok kti (by omega) hE;have el:M.length=n:=hL.shM.len;unfold fV at hZ;rw[el]at hZ;exact qyl (jyb _ _ _ (qes awk)) tF (by simp only[AV.closed,znn]) hZ
end Go.Proofs.YtbjdfanphdfkdaaGreatDoor
namespace Go.Proofs.YtbjdfanphdfkdaaGreatDoor
open Go Go.AL Go.Proofs Go.ChangeShapes Go.WideShapes Go.Joins
theorem add_eq{a:Addr}(h:a.spot=none)(i:Nat):a.add i=⟨a.block,a.off+i,none⟩:=by
 unfold Addr.add;cases a with
 |mk b o s=>
  subst h;split
  ·rename_i e;subst e;rfl
  ·rfl
theorem xwl:Tryz.prog.cellTypes Tryz.prog.depth 24=some [5,5,22,22]:=by kernel_rfl
theorem xwm{W:World}{b0:Nat}{v0 v1 v2 v3:Value}(h:Value.okWide Tryz.prog W .any b0 24 (.agg #[v0,v1,v2,v3])):Cell.okWide Tryz.prog W .any b0 22 v2/\Cell.okWide Tryz.prog W .any b0 22 v3:=by
 simp only[Value.okWide,Tryz.underlying24]at h;obtain⟨cs,e,_,ts,hts,_,hi⟩:=h;injection e with e
 subst e;rw[xwl]at hts;obtain rfl:=Option.some.inj hts;obtain⟨u,hu,h2⟩:=hi 2 v2 rfl;obtain⟨w,hw,h3⟩:=hi 3 v3 rfl;obtain rfl:22=u:=Option.some.inj hu;obtain rfl:22=w:=Option.some.inj hw;exact⟨h2,h3⟩
theorem xwn{W:World}{b0:Nat}{a:Addr}{n c:Nat}(h:Cell.okWide Tryz.prog W .any b0 22 (.slice (some a) n c)):a.spot=none:=by
 simp only[Cell.okWide,Cell.ok,Tryz.underlying22]at h;exact h.2.2.2.1
theorem qsi{H:Type}{enc:TypeId×Value->H}{W:World}{b0 n:Nat}{v:Value}{y:DataW H×List MemPlace}(hv:Cell.okWide Tryz.prog W .any b0 22 v)(h:DataW.trod enc Tryz.prog W 0 (λ_=>true) true n 22 [v]=some y):
  ∃(l:List Int) (c:Option Nat),zmc l/\IRep W (λ_=>False) (.vec (i8z l) l.length c) v:=by
 rcases open_ints Tryz.underlying22 Tryz.underlying229 (by kernel_rfl) h with⟨e,_⟩ | ⟨a,len,cap,zs,e,_,hl,hm,hz,_,hc,hw⟩
 ·obtain rfl:v=_:=by simpa using e
  exact⟨[],some 0,⟨by decide,λz hz=>by cases hz⟩,.nil none _ (λk hk=>by cases hk;rfl)⟩
 ·obtain rfl:v=_:=by simpa using e
  have hs:=xwn hv;have hz:zs.length=cap:=by simpa using hz
  have hlen:(zs.take len).length=len:=by rw[List.length_take];omega
  refine⟨zs.take len,some cap,⟨?_,λz hz'=>?_⟩,?_⟩
  ·rw[hlen];unfold maxLen at hm;omega
  ·have:=hw z (List.mem_of_mem_take hz');simp only[Lit.wf,IntKind.min,IntKind.max,IntKind.bits,IntKind.signed,Bool.and_eq_true,decide_eq_true_eq]at this;constructor<;>simp at this<;>omega
  ·rw[hlen];have ea:a=⟨a.block,a.off,none⟩:=by cases a;simp at hs;subst hs;rfl
   rw[ea];refine .vec _ len (some cap) a.block a.off cap (λj=> .int .i8 (zs.getD j 0)) (λ_ h=>h) (λj hj=>?_) (λj x hj=>?_) hl (λk hk=>by cases hk;rfl)
   ·rw[qba,hlen]at hj;have:=hc j (by omega);rw[add_eq hs]at this;exact this
   ·have hj':j<(zs.take len).length:=by
     rcases Nat.lt_or_ge j (zs.take len).length with h' | h'
     ·exact h'
     ·rw[List.getElem?_eq_none (by rw[qba];exact h')]at hj;cases hj
    rw[hlen]at hj'
    have:x= .int .i8 (zs.getD j 0):=by
     simp only[i8z,List.getElem?_map,List.getElem?_take,if_pos hj',Option.map_eq_some_iff]at hj;obtain⟨z,hz1,rfl⟩:=hj;rw[List.getD_eq_getElem?_getD,hz1];rfl
    rw[this];exact .int _ _
theorem jut{H:Type}{enc:TypeId×Value->H}{W:World}{b0:Nat}{v:Value}{d:DataW H}{p:List MemPlace}(hv:Value.okWide Tryz.prog W .any b0 24 v)(h:DataW.Trod enc Tryz.prog W 0 (λ_=>true) true 24 v d p):
  ∃(z k:Int) (l q:List Int) (c c2:Option Nat),zmc l/\zmc q/\(0<=z/\z<256)/\(0<=k/\k<256)/\IRep W (λ_=>False) (.agg (latC z k l q c c2)) v:=by
 obtain⟨v0,v1,v2,v3,y0,y1,y2,y3,n,rfl,_,_,t0,t1,t2,t3⟩:=open_agg4 Tryz.underlying24 (by kernel_rfl) (by kernel_rfl) hv h;obtain⟨o2,o3⟩:=xwm hv;obtain⟨z,e0,_,w0⟩:=DataW.trod_int Tryz.underlying5 t0;obtain⟨k,e1,_,w1⟩:=DataW.trod_int Tryz.underlying5 t1;obtain rfl:v0=_:=by simpa using e0
 obtain rfl:v1=_:=by simpa using e1
 obtain⟨l,c,hl,r2⟩:=qsi o2 t2;obtain⟨q,c2,hq,r3⟩:=qsi o3 t3;simp[Lit.wf,IntKind.min,IntKind.max,IntKind.bits,IntKind.signed]at w0 w1;refine⟨z,k,l,q,c,c2,hl,hq,by omega,by omega,.agg _ _ rfl (λj a u ha hu=>?_)⟩
 match j,ha,hu with
 |0,ha,hu=>cases ha;cases hu;exact .int _ _
 |1,ha,hu=>cases ha;cases hu;exact .int _ _
 |2,ha,hu=>cases ha;cases hu;exact r2
 |3,ha,hu=>cases ha;cases hu;exact r3
 |n+4,ha,hu=>cases ha
