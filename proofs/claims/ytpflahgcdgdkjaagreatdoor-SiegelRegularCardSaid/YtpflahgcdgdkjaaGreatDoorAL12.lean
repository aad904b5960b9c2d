/- A part of the proof. -/
import Derived.Test.YtpflahgcdgdkjaaGreatDoorAL51
import Derived.Laws.Externs
import Derived.KernelRfl
set_option linter.all false
namespace Go.AL
open Option renaming bind_eq_some_iff -> qQ
open Option.some renaming injEq -> qX
open Int renaming eq_ofNat_of_zero_le -> qZ
open Nat renaming mul_le_mul_right -> qJ
open Go
section
variable{P:Program}{Γ:Glob}{E:Env}{a:Act}{w:World}{F:Nat->Prop}{ρ:Nat->RS}{H:Heap}{n0 fresh:Nat}{o:Oper}{v:AV}{e:Eff}{rd:List Nat}
theorem qow(ho:HOK Γ w F ρ H)(he:∀t,Rep w (Mu F ρ) ρ (E t) (a.tmps.getD t undef)){cl:Call}{t el:TypeId}{sz id off n m:Nat}{c:Option Nat}{d s:Operand}{d' s':Opd}{cs xs:List AV}
  (hop:o.op= .call cl) (hc:cl.callee= .builtin .copy) (hargs:cl.args.toList=[d,s]) (h0:cl.argTypes[0]?=some t) (ht:P.underlying t=some (.slice el)) (hz:szT P el=some sz)
  (hd:cOpd Γ d=some d') (hs:cOpd Γ s=some s') (hv:val E d'= .sl id off n sz c) (hg:getB H id=some cs) (hm:lenA (val E s')=some m) (hxs:zdr H sz (min m n) (val E s')=some (xs,rd))
  (hl:off+n*sz<=cs.length) (hsc:AV.scalL xs=true):Snd P Γ o a w F ρ n0 (.int .i64 (min m n:Nat)) (zad [(id,some (setL cs off xs))] H) []:=by
 have ha:cl.args= #[d,s]:=by rw[<-Array.toArray_toList (xs:=cl.args),hargs]
 have rd1:=zaj ho he hd;have rs:=zaj ho he hs;rw[hv]at rd1;obtain⟨ad2,c2,ex,hmc⟩:=zso hm rs (zjl hxs);obtain⟨news,hnews,hnl,hnrow⟩:=zfj (P:=P) ho hxs rs;obtain⟨b,cap,es,hn,_,hbb⟩:=zez rd1;obtain⟨b2,el2,mm,hb2,hsh,hlen,hfz,hcells⟩:=ho.at hg (qdz rd1)
 have hb:b=b2:=by
  rcases hbb with hd | ⟨hd,_⟩
  ·rw[hb2]at hd;simp at hd
  ·rw[hb2]at hd;simp at hd;exact hd.symm
 subst hb;have hxl:=zvf hxs;have hmul:min m n*sz<=n*sz:=qJ _ (Nat.min_le_right _ _);obtain⟨w',hst,hA⟩:=zer (P:=P) (n0:=n0) (p:=off) news xs 0 w H cs ho hb2 ⟨_,hsh⟩ (zce hg) (by omega) (by omega) hsc (λj x y hx hy=>hnrow.2 j x y hx hy);refine⟨_,_,w',ρ,?_,.inl rfl,hA,.imm _ _ (.int _ _)⟩;have hnw:=hnews w rfl;rw[ex]at hnw;have hmin:Nat.min m n=min m n:=rfl;simp[execOp,hop,resolve,hc,ha,invoke,builtin,Builtin.copy_,h0,zas ht,es,ex,Builtin.lenOf,zcy hz,hmin,hnw,hst,goInt]
theorem qox{fn:Func}(h:fn.name= "math/bits.Add64"):Extern.find fn=some add64Entry:=by
 unfold Extern.find;rw[h];have h1:Extern.allGenericRows.lookup "math/bits.Add64" = none:=by kernel_rfl
 have h2:Extern.allTypedRows.lookup "math/bits.Add64" = none:=by kernel_rfl
 have h3:Extern.allRows.lookup "math/bits.Add64" = some add64Entry:=by kernel_rfl
 simp only[h1,h2,h3];rfl
def zis:Array Value->Sem Value:=λargs=>do
 let (x,y,b) <-Extern.MathBitsCarry.three "Sub64" args
 pure (Extern.MathBitsCarry.pair ((x+Extern.MathBitsCarry.m64-y-b)%Extern.MathBitsCarry.m64) (if x<y+b then 1 else 0))
theorem qoy{fn:Func}(h:fn.name= "math/bits.Sub64"):Extern.find fn=some zis:=by
 unfold Extern.find;rw[h];have h1:Extern.allGenericRows.lookup "math/bits.Sub64" = none:=by kernel_rfl
 have h2:Extern.allTypedRows.lookup "math/bits.Sub64" = none:=by kernel_rfl
 have h3:Extern.allRows.lookup "math/bits.Sub64" = some zis:=by kernel_rfl
 simp only[h1,h2,h3];rfl
theorem qei(x y c:Nat)(hb:c<=1)(w:World):
  (add64Entry #[.int .u64 x,.int .u64 y,.int .u64 c]).run P w=
   .ok (.tuple #[.int .u64 (((x+y+c)%18446744073709551616:Nat):Int),.int .u64 (((x+y+c)/18446744073709551616:Nat):Int)]) w:=by
 have:c=0\/c=1:=by omega
 rcases this with rfl | rfl<;>rfl
theorem qej(x y b:Nat)(hb:b<=1)(w:World):
  (zis #[.int .u64 x,.int .u64 y,.int .u64 b]).run P w=
   .ok (.tuple #[.int .u64 (((x+18446744073709551616-y-b)%18446744073709551616:Nat):Int),.int .u64 ((if x<y+b then 1 else 0:Nat):Int)]) w:=by
 have:b=0\/b=1:=by omega
 rcases this with rfl | rfl<;>rfl
theorem zvi{f:FuncId}{b:Bool}(h:zsh P f=some b):∃fn,P.funcs[f]?=some fn/\fn.body.isNone=true/\Extern.findNext fn=none/\(fn.name == "runtime.NumGoroutine")=false/\Extern.find fn=some (if b then zis else add64Entry):=by
 unfold zsh at h;split at h
 ·rename_i fn hf;split at h
  ·rename_i hb;simp only[Bool.and_eq_true]at hb;have h2:Extern.findNext fn=none:=by simpa using hb.2
   split at h
   ·rename_i hn;simp at h;subst h;exact⟨fn,hf,hb.1,h2,by rw[hn];kernel_rfl,qox hn⟩
   ·split at h
    ·rename_i hn;simp at h;subst h;exact⟨fn,hf,hb.1,h2,by rw[hn];kernel_rfl,qoy hn⟩
    ·simp at h
  ·simp at h
 ·simp at h
theorem qoz(ho:HOK Γ w F ρ H)(he:∀t,Rep w (Mu F ρ) ρ (E t) (a.tmps.getD t undef)){cl:Call}{f:FuncId}{b:Bool}{x y z:Operand}{x' y' z':Opd}{m n d:Int}
  (hop:o.op= .call cl) (hc:cl.callee= .value (.func f)) (hargs:cl.args.toList=[x,y,z]) (hf:zsh P f=some b)
  (hx:cOpd Γ x=some x') (hy:cOpd Γ y=some y') (hz:cOpd Γ z=some z') (h1:val E x'= .int .u64 m) (h2:val E y'= .int .u64 n) (h3:val E z'= .int .u64 d) (hm:0<=m/\0<=n/\0<=d/\d<=1):
  Snd P Γ o a w F ρ n0 (.tup (if b then[.int .u64 ((m.toNat+18446744073709551616-n.toNat-d.toNat)%18446744073709551616:Nat),.int .u64 (if m.toNat<n.toNat+d.toNat then 1 else 0:Nat)]
     else[.int .u64 ((m.toNat+n.toNat+d.toNat)%18446744073709551616:Nat),.int .u64 ((m.toNat+n.toNat+d.toNat)/18446744073709551616:Nat)])) H []:=by
 have ha:cl.args= #[x,y,z]:=by rw[<-Array.toArray_toList (xs:=cl.args),hargs]
 have r1:=zaj ho he hx;have r2:=zaj ho he hy;have r3:=zaj ho he hz;rw[h1]at r1;rw[h2]at r2;rw[h3]at r3;obtain⟨m,rfl⟩:=qZ hm.1;obtain⟨n,rfl⟩:=qZ hm.2.1;obtain⟨d,rfl⟩:=qZ hm.2.2.1;have hd:d<=1:=by omega
 obtain⟨fn,g1,g2,g3,g4,g5⟩:=zvi hf;have hfe:a.eval (.func f)= .func (.func f) #[] #[]:=rfl;have hbn:fn.body=none:=by simpa using g2
 have g4':fn.name≠ "runtime.NumGoroutine" := by simpa using g4
 cases b with
 |true=>
  refine zat ho (v':= .tuple #[.int .u64 (((m+18446744073709551616-n-d)%18446744073709551616:Nat):Int),.int .u64 ((if m<n+d then 1 else 0:Nat):Int)]) ?_ (.imm _ _ (.tup _ _ (by simp) (λj x v hx hv=>?_)))
  ·simp[execOp,hop,resolve,hc,ha,hfe,Deferred.ofValue,invoke,callFunc,program,Sem.run,g1,hbn,g3,g4',g5,zbt r1,zbt r2,zbt r3,qej m n d hd]
  ·match j with
   |0=>simp at hx hv;subst hx hv;exact .int _ _
   |1=>simp at hx hv;subst hx hv;exact .int _ _
   |j+2=>simp at hx
 |false=>
  refine zat ho (v':= .tuple #[.int .u64 (((m+n+d)%18446744073709551616:Nat):Int),.int .u64 (((m+n+d)/18446744073709551616:Nat):Int)]) ?_ (.imm _ _ (.tup _ _ (by simp) (λj x v hx hv=>?_)))
  ·simp[execOp,hop,resolve,hc,ha,hfe,Deferred.ofValue,invoke,callFunc,program,Sem.run,g1,hbn,g3,g4',g5,zbt r1,zbt r2,zbt r3,qei m n d hd]
  ·match j with
   |0=>simp at hx hv;subst hx hv;exact .int _ _
   |1=>simp at hx hv;subst hx hv;exact .int _ _
   |j+2=>simp at hx
theorem qhp(ho:HOK Γ w F ρ H){H':Heap}{v':Value}(hr:(execOp a.eval o).run P w= .ok (.value v') w)(h:Rep w (Mu F ρ) ρ v v')(hH:H'=H):Snd P Γ o a w F ρ n0 v H' []:=by
 subst hH;exact zat ho hr h
theorem qhq(ho:HOK Γ w F ρ H)(he:∀t,Rep w (Mu F ρ) ρ (E t) (a.tmps.getD t undef)){cl:Call}{t el:TypeId}{sz:Nat}{z:List AV}{x:Operand}{x':Opd}{H':Heap}
  (hop:o.op= .call cl) (hc:cl.callee= .builtin .clear) (hargs:cl.args.toList=[x]) (h0:cl.argTypes[0]?=some t) (ht:P.underlying t=some (.slice el)) (hz:zjy P el=some z) (hx:cOpd Γ x=some x')
  (hv:(∃cs c,val E x'= .vec cs 0 c/\H'=H)\/(∃id off n c cs,val E x'= .sl id off n sz c/\getB H id=some cs/\z.length=sz/\0<sz/\off+n*sz<=cs.length/\AV.scalL (zeh n z)=true/\H'=H.set id (some (setL cs off (zeh n z))))):
  Snd P Γ o a w F ρ n0 .junk H' []:=by
 have ha:cl.args= #[x]:=by rw[<-Array.toArray_toList (xs:=cl.args),hargs]
 have r1:=zaj ho he hx;rcases hv with⟨cs,c,hv,rfl⟩ | ⟨id,off,n,c,cs,hv,hg,hzl,hsz,hle,hsc,rfl⟩
 ·rw[hv]at r1;obtain⟨ad2,c2,ex,hmc⟩:=zso (m:=0) (x:= .vec cs 0 c) rfl r1 (by intro s h;simp at h);refine zat ho (v':= .tuple #[]) ?_ (.imm _ _ (.junk _));cases ad2<;>simp[execOp,hop,resolve,hc,ha,invoke,builtin,Builtin.clear_,h0,zas ht,ex]
 ·rw[hv]at r1;obtain⟨b,cap,es,hn,_,hbb⟩:=zez r1;obtain⟨b2,el2,mm,hb2,hsh,hlen,hfz,hcells⟩:=ho.at hg (qdz r1)
  have hb:b=b2:=by
   rcases hbb with hd | ⟨hd,_⟩
   ·rw[hb2]at hd;simp at hd
   ·rw[hb2]at hd;simp at hd;exact hd.symm
  subst hb;obtain⟨zv,i,hi,hiz,hrow⟩:=ziq hz;have hrw:=zke n (by omega) (hrow w (Mu F ρ) ρ);rw[<-znf]at hrw;have hzs:zv.cells.size=z.length:=by have:=(hrow w (Mu F ρ) ρ).1;simpa using this
  have hzc:(Builtin.zeroCells zv.cells n).toList=((Array.range (n*z.length)).map λj=>zv.cells[j%zv.cells.size]!).toList:=by
   simp only[Builtin.zeroCells,hzs]
  rw[<-hzc]at hrw;have hll:(Builtin.zeroCells zv.cells n).toList.length=n*sz:=by rw[hzc,hzl];simp
  obtain⟨w',hst,hA⟩:=zer (P:=P) (n0:=n0) (p:=off) (Builtin.zeroCells zv.cells n).toList (zeh n z) 0 w H cs ho hb2 ⟨_,hsh⟩ (zce hg) (by omega) (by rw[hrw.1]) hsc (λj x y hx hy=>hrw.2 j x y hx hy);cases n with
  |zero=>
   have hz0:zeh 0 z=[]:=by rw[znf];simp
   refine qhp ho (v':= .tuple #[]) ?_ (.imm _ _ (.junk _)) ?_
   ·simp[execOp,hop,resolve,hc,ha,invoke,builtin,Builtin.clear_,h0,zas ht,es]
   ·rw[hz0];simp only[setL];have h1:=zce hg;apply List.ext_getElem?;intro j;by_cases e:id=j
    ·subst e
     have hl:id<H.length:=by
      rcases Nat.lt_or_ge id H.length with h' | h'
      ·exact h'
      ·rw[List.getElem?_eq_none h']at h1;simp at h1
     rw[List.getElem?_set_self hl,h1]
    ·rw[List.getElem?_set_ne e]
  |succ n=>
   refine⟨_,.tuple #[],w',ρ,?_,.inl rfl,by simpa using hA,.imm _ _ (.junk _)⟩;simp[execOp,hop,resolve,hc,ha,invoke,builtin,Builtin.clear_,h0,zas ht,es,zfr hi hiz,hst]
theorem zsu{t t2 ty el:TypeId}{k kk:IntKind}{i:TypeInfo}{z s':Value}{tys:Array TypeId}{ad:Option Addr}{n m:Nat}{olds:List Value}
  (h0:tys[0]?=some t) (h1:tys[1]?=some t2) (ht:P.underlying t=some (.slice el)) (ht2:P.underlying t2=some (.int k)) (hi:P.info? el=some i) (hz:i.zero=some z)
  (es:s'= .slice ad n n) (ho:∀w':World,w'.heap=w.heap->(Builtin.firstCells i.size n s').run P w'= .ok olds.toArray w')
  (hm:0<m) (hs:0<i.size) (h62:n+m<2^62) (hfit:4*(n+m)*i.bytes<=2^48):
  (Builtin.append_ tys ty #[s',.int kk (m:Nat)]).run P w= .ok (.slice (some ⟨w.heap.size,0,none⟩) (n+m) (grownCap w (n+m) n el))
   (w.drew.alloc (.cells (olds.toArray++Builtin.zeroCells z.cells m++Builtin.zeroCells z.cells (grownCap w (n+m) n el-(n+m))) el)):=by
 subst es;have hn1:¬(n+m<=n):=by omega
 have h63:¬(9223372036854775807<((n:Int)+(m:Int))):=by omega
 have hb:(n+m)*i.bytes<=140737488355328:=by
  have:4*((n+m)*i.bytes)<=2^48:=by rw[<-Nat.mul_assoc];exact hfit
  omega
 have hmb:m*i.bytes<=140737488355328:=Nat.le_trans (qJ _ (by omega)) hb
 have h48:¬(281474976710656<Builtin.nextslicecap (n+m) n*i.bytes):=by
  have:=growslice_fits (show n<n+m by omega) hb;omega
 have ho':=ho w.drew rfl
 have hw:IntKind.i64.wrap (m:Int)=m:=by
  unfold IntKind.wrap;simp[IntKind.bits,IntKind.signed];omega
 have hl0:¬((m:Int)<0):=by omega
 have hl1:¬(281474976710656<(m:Int)*(i.bytes:Int)):=by
  rw[<-Int.natCast_mul];omega
 have hz0:¬(m=0\/i.size=0):=by omega
 have hask:∀(w:World) (b:Nat),(askRoom b).run P w= .ok () w:=by
  intro w b;unfold askRoom;split<;>simp[mark,Sem.run]
 simp[Builtin.append_,h0,h1,zas ht,zas ht2,sizeOf,typeInfo,zeroValue,hi,hz,hn1,h63,h48,Question.forced,ho',hask,newRow,grownCap,asInt,asIntOf,hw,hl0,hl1,hz0];intro h;exact absurd (Nat.mul_eq_zero.1 h) hz0
theorem qwm(ho:HOK Γ w F ρ H)(he:∀t,Rep w (Mu F ρ) ρ (E t) (a.tmps.getD t undef)){cl:Call}{t t2 el:TypeId}{k:IntKind}{i:TypeInfo}{z:List AV}{s x:Operand}{s' x':Opd}
  (hfr:fresh<H.length) (hu:ρ fresh= .unborn) (hop:o.op= .call cl) (hc:cl.callee= .builtin .append) (hargs:cl.args.toList=[s,x])
  (h0:cl.argTypes[0]?=some t) (h1:cl.argTypes[1]?=some t2) (ht:P.underlying t=some (.slice el)) (ht2:P.underlying t2=some (.int k)) (hi:P.info? el=some i) (hz:zjy P el=some z) (hzl:z.length=i.size)
  (hs:cOpd Γ s=some s') (hx:cOpd Γ x=some x') (hv:apzA fresh H i.size i.bytes z (val E s') (val E x')=some (v,e,rd)):Snd P Γ o a w F ρ n0 v (zad e H) [fresh]:=by
 have ha:cl.args= #[s,x]:=by rw[<-Array.toArray_toList (xs:=cl.args),hargs]
 have rs:=zaj ho he hs;have rx:=zaj ho he hx;obtain⟨zv,i',hi',hiz,hrow⟩:=ziq hz;rw[hi]at hi';simp at hi';subst hi';have hzs:zv.cells.size=i.size:=by have:=(hrow w (Mu F ρ) ρ).1;simp at this;omega
 unfold apzA at hv;split at hv
 ·rename_i kk m hxv;obtain⟨⟨hm,_,hsz⟩,hv⟩:=zac hv;rw[hxv]at rx
  have ex:a.eval x= .int kk (m.toNat:Nat):=by
   rw[zbt rx];congr 1;omega
  have hrw:=zke m.toNat (by omega) (hrow w (Mu F ρ) ρ);rw[<-znf]at hrw
  have hzc:(Builtin.zeroCells zv.cells m.toNat).toList=((Array.range (m.toNat*z.length)).map λj=>zv.cells[j%zv.cells.size]!).toList:=by
   simp only[Builtin.zeroCells,hzs,hzl]
  rw[<-hzc]at hrw;have hll:(Builtin.zeroCells zv.cells m.toNat).toList.length=m.toNat*i.size:=by rw[hzc,hzl];simp
  have exec:∀r w',(Builtin.append_ cl.argTypes o.type #[a.eval s,a.eval x]).run P w= .ok r w'->(execOp a.eval o).run P w= .ok (.value r) w':=by
   intro r w' h;simp[execOp,hop,resolve,hc,ha,invoke,builtin,h]
  have fin:∀(ad:Option Addr) (n:Nat) (cs0:List AV) (olds:List Value),a.eval s= .slice ad n n->4*(n+m.toNat)*i.bytes<=2^48->n+m.toNat<2^62->
    (∀w':World,w'.heap=w.heap->(Builtin.firstCells i.size n (a.eval s)).run P w'= .ok olds.toArray w')->olds.length=n*i.size->zbi w (Mu F ρ) ρ cs0 olds->
    ∃v' w' ρ',(execOp a.eval o).run P w= .ok (.value v') w'/\After Γ F n0 ρ w ρ' w' (H.set fresh (some (cs0++zeh m.toNat z))) [fresh]/\Rep w' (Mu F ρ') ρ' (.sl fresh 0 (n+m.toNat) i.size none) v':=by
   intro ad n cs0 olds es hb h62 hold hol hor;have hrun:=exec _ _ (by rw[ex];exact zsu h0 h1 ht ht2 hi hiz es hold (by omega) hsz h62 hb);have hA0:=zin (w':=w.drew) n0 ho rfl ⟨rfl,rfl⟩;have hrow2:=(hor.append hrw).mono (λa v hr=>hr.after ho hA0);obtain⟨g1,g2⟩:=qbh hrow2 (olds.toArray++Builtin.zeroCells zv.cells m.toNat++Builtin.zeroCells zv.cells (grownCap w (n+m.toNat) n el-(n+m.toNat))) ⟨_,by rw[<-List.append_toArray,Array.toArray_toList]⟩;have hA1:=zfh n0 hA0.hok hfr hu (cs0++zeh m.toNat z) _ el g1 g2;refine⟨_,_,_,hrun,(hA0.trans hA1).more (by simp),?_⟩;refine .slAt _ _ _ _ _ w.heap.size _ el _ (by simp[updR]) (zhr (w:=w.drew)) zng (by simp) ?_;simp only[Array.size_append,List.size_toArray,zji,hol,hzs];have:= @zng w (n+m.toNat) n el;rw[Nat.zero_add,<-Nat.add_mul,<-Nat.add_mul];exact qJ _ (by omega)
  cases hsv:val E s'<;>rw[hsv]at hv rs<;>try (simp at hv;done)
  case vec cs n c=>
   simp only at hv;obtain⟨⟨hcn,hcl,hb,h62⟩,hv⟩:=zac hv;simp at hv;obtain⟨rfl,rfl,rfl⟩:=hv;have hel:zdr H i.size n (.vec cs n c)=some (cs.take (n*i.size),[]):=by simp[zdr,need,hcl]
   obtain⟨olds,hold,hol,hor⟩:=zfj (P:=P) ho hel rs
   have:∃ad,a.eval s= .slice ad n n:=by
    rcases zfi rs with⟨_,es,_,rfl,_⟩ | ⟨b,off,cap,vs,es,_,_,_,_,hcc⟩
    ·exact⟨_,es⟩
    ·have:=hcc n hcn;subst this;exact⟨_,es⟩
   obtain⟨ad,es⟩:=this;obtain⟨v',w',ρ',h2,h3,h4⟩:=fin ad n _ olds es hb h62 hold hol hor;exact⟨_,v',w',ρ',h2,.inl rfl,h3,h4⟩
  case sl id off n sz c=>
   simp only at hv;split at hv
   ·rename_i cs hg;have hv2:=(zac hv).2;have hcond:=(zac hv).1;clear hv;obtain⟨rfl,rfl,hcl,hb,h62,hcn⟩:=hcond;have hel:zdr H i.size n (.sl id 0 n i.size c)=some (cs.take (n*i.size),[id]):=by simp[zdr,need,hg,hcl]
    obtain⟨olds,hold,hol,hor⟩:=zfj (P:=P) ho hel rs;obtain⟨b,cap,es,hn,hcc,hbb⟩:=zez rs;simp at hv2;obtain⟨rfl,rfl,rfl⟩:=hv2;have:=hcc n hcn;subst this;obtain⟨v',w',ρ',h2,h3,h4⟩:=fin _ cap _ olds es hb h62 hold hol hor;exact⟨_,v',w',ρ',h2,.inl rfl,h3,h4⟩
   ·simp at hv
 ·simp at hv
theorem zlq{t:TypeId}{z:AV}(h:qgt P t=some z):∃i zv,P.info? t=some i/\i.zero=some zv/\ofV zv=some z:=by
 unfold qgt at h;split at h
 ·rename_i i hi;split at h
  ·rename_i zv hz;exact⟨i,zv,hi,hz,h⟩
  ·simp at h
 ·simp at h
theorem zab{α β:Type}{x:Option α}{f:α->Option β}{b:β}(h:(x >>= f)=some b):∃y,x=some y/\f y=some b:=Option.bind_eq_some_iff.1 h
def cntK:CK->Nat
 |.box _ | .bsl .. | .mksl .. | .append .. | .mkmap | .apz .. => 1
 |_=>0
theorem qhr(ho:HOK Γ w F ρ H)(he:∀t,Rep w (Mu F ρ) ρ (E t) (a.tmps.getD t undef)){k:CK}(hfu:cntK k=1->fresh<H.length/\ρ fresh= .unborn)
  (hk:zeo P Γ o.op=some k) (hev:evK n0 fresh k (val E) H=some (v,e,rd)):Snd P Γ o a w F ρ n0 v (zad e H) (List.range' fresh (cntK k)):=by
 have up:Snd P Γ o a w F ρ n0 v (zad e H) []->Snd P Γ o a w F ρ n0 v (zad e H) (List.range' fresh (cntK k)):=by
  rintro⟨x,v',w',ρ',h1,h2,h3,h4⟩;exact⟨x,v',w',ρ',h1,h2,h3.more (by simp),h4⟩
 cases hop:o.op<;>rw[hop]at hk<;>simp only[zeo]at hk<;>try (simp at hk;done)
 case move x=>
  simp at hk;obtain⟨y,hy,rfl⟩:=hk;simp[evK]at hev;obtain⟨rfl,rfl,rfl⟩:=hev;exact up (qgz ho he hy (.inl hop))
 case assign x=>
  simp at hk;obtain⟨y,hy,rfl⟩:=hk;simp[evK]at hev;obtain⟨rfl,rfl,rfl⟩:=hev;exact up (qgz ho he hy (.inr hop))
 case pick c x y=>
  simp[qQ]at hk;obtain⟨c',hc,x',hx,y',hy,rfl⟩:=hk;simp only[evK]at hev;split at hev
  ·rename_i t ht;simp at hev;obtain⟨rfl,rfl,rfl⟩:=hev;exact up (qon ho he hc hx hy hop ht)
  ·simp at hev
 case alloc t=>
  simp[qQ]at hk;obtain⟨z,hz,rfl⟩:=hk;obtain⟨i,zv,hi,hiz,hzv⟩:=zlq hz;simp only[evK]at hev;obtain⟨hf,hev⟩:=zac hev;simp at hev;obtain⟨rfl,rfl,rfl⟩:=hev;obtain⟨hfr,hu⟩:=hfu rfl;refine qhg (el:=t) ho hfr hu (.imm _ _ (znu w _ hzv)) hf ?_;simp[execOp,hop,Instr.alloc,zfr hi hiz,newVar,zfe]
 case box t x=>
  simp[qQ]at hk;obtain⟨y,hy,rfl⟩:=hk;simp only[evK]at hev;obtain⟨hf,hev⟩:=zac hev;simp at hev;obtain⟨rfl,rfl,rfl⟩:=hev;obtain⟨hfr,hu⟩:=hfu rfl;refine qhg (el:=t) ho hfr hu (zaj ho he hy) hf ?_;simp[execOp,hop,Instr.box,newVar,zfe]
 case build t ps=>
  simp[qQ]at hk;obtain⟨z,hz,pl,hpl,ps',hps,rfl⟩:=hk;simp only[evK,qQ]at hev;obtain⟨cs,hcs,hev⟩:=hev;simp at hev;obtain⟨rfl,rfl,rfl⟩:=hev;exact up (qhj ho he hz hpl hps hop hcs)
 case buildSlice t n ps=>
  obtain⟨d,hd,hk⟩:=zab hk;cases d<;>simp only at hk<;>try (simp at hk;done)
  rename_i el;obtain⟨s,hs,hk⟩:=zab hk;obtain⟨z,hz,hk⟩:=zab hk;obtain⟨ps',hps,hk⟩:=zab hk;split at hk
  ·rename_i hcond;simp at hk;subst hk;simp only[evK,qQ]at hev;obtain⟨cs,hcs,hev⟩:=hev;obtain⟨_,hev⟩:=zac hev;simp at hev;obtain⟨rfl,rfl,rfl⟩:=hev;obtain⟨hfr,hu⟩:=hfu rfl;exact qwj ho he hfr hu hd hs hz hps hcond.1 hcond.2 hop hcs
  ·simp at hk
 case load t x=>
  obtain⟨⟨ag,sz⟩,hs,hk⟩:=zab hk;obtain⟨y,hy,hk⟩:=zab hk;simp only[qX]at hk;subst hk;simp only[evK]at hev;split at hev
  ·rename_i id off hv;split at hev
   ·rename_i cs hg;obtain⟨⟨h1,_⟩,hev⟩:=zac hev;simp at hev;obtain⟨rfl,rfl,rfl⟩:=hev;exact up (qbc ho he hs hy hop (.inl ⟨id,off,cs,hv,hg,h1,rfl⟩))
   ·simp at hev
  ·rename_i cs p hv;obtain⟨⟨h1,_⟩,hev⟩:=zac hev;simp at hev;obtain⟨rfl,rfl,rfl⟩:=hev;exact up (qbc ho he hs hy hop (.inr ⟨cs,p,hv,h1,rfl⟩))
  ·simp at hev
 case store t x y=>
  simp[qQ]at hk;obtain⟨sz,hs,x',hx,y',hy,rfl⟩:=hk;simp only[evK]at hev;split at hev
  ·rename_i id off hv;split at hev
   ·rename_i cs hg;obtain⟨⟨h1,h2,h3,h4⟩,hev⟩:=zac hev;simp at hev;obtain⟨rfl,rfl,rfl⟩:=hev;exact up (qhh ho he hs hx hy hop hv hg h1 h2 h3 h4)
   ·simp at hev
  ·simp at hev
 case nilCheck x=>
  simp at hk;obtain⟨y,hy,rfl⟩:=hk;simp only[evK]at hev;split at hev
  ·rename_i id off hv;simp at hev;obtain⟨rfl,rfl,rfl⟩:=hev;have:=zvc (P:=P) (n0:=n0) ho he hy hop (.inl ⟨id,off,hv⟩);rw[hv]at this;exact up this
  ·rename_i cs p hv;simp at hev;obtain⟨rfl,rfl,rfl⟩:=hev;have:=zvc (P:=P) (n0:=n0) ho he hy hop (.inr ⟨cs,p,hv⟩);rw[hv]at this;exact up this
  ·simp at hev
 case binOp op t x y t'=>
  split at hk
  ·simp[qQ]at hk;obtain⟨x',hx,y',hy,rfl⟩:=hk;simp only[evK,qQ]at hev;obtain⟨r,hr,hev⟩:=hev;simp at hev;obtain⟨rfl,rfl,rfl⟩:=hev;exact up (qha ho he hx hy hop hr)
  ·simp[qQ]at hk;obtain⟨x',hx,y',hy,rfl⟩:=hk;simp only[evK,qQ]at hev;obtain⟨r,hr,hev⟩:=hev;simp at hev;obtain⟨rfl,rfl,rfl⟩:=hev;exact up (qha ho he hx hy hop hr)
  ·rename_i hty;simp[qQ]at hk;obtain⟨x',hx,y',hy,rfl⟩:=hk;simp only[evK]at hev;split at hev
   ·rename_i s t h1 h2;simp at hev;obtain⟨rfl,rfl,rfl⟩:=hev;exact up (qhb (neg:=false) ho he hty hx hy hop h1 h2)
   ·simp at hev
  ·rename_i hty;simp[qQ]at hk;obtain⟨x',hx,y',hy,rfl⟩:=hk;simp only[evK]at hev;split at hev
   ·rename_i s t h1 h2;simp at hev;obtain⟨rfl,rfl,rfl⟩:=hev;exact up (qhb (neg:=true) ho he hty hx hy hop h1 h2)
   ·simp at hev
  ·rename_i el hty;split at hk
   ·simp at hk;obtain⟨x',hx,rfl⟩:=hk;simp only[evK]at hev;split at hev
    ·rename_i cs n c hv;split at hev
     ·rename_i hn0;simp at hev;obtain⟨rfl,rfl,rfl⟩:=hev;exact up (zsp ho he hty hx hop (.inl ⟨cs,n,c,hv,by rw[if_pos hn0]⟩))
     ·rename_i hn0;simp at hev;obtain⟨rfl,rfl,rfl⟩:=hev;exact up (zsp ho he hty hx hop (.inl ⟨cs,n,c,hv,by rw[if_neg hn0]⟩))
    ·rename_i id off n sz c hv;simp at hev;obtain⟨rfl,rfl,rfl⟩:=hev;exact up (zsp ho he hty hx hop (.inr ⟨id,off,n,sz,c,hv,rfl⟩))
    ·simp at hev
   ·simp at hk
  ·obtain⟨ks,hks,hk⟩:=zab hk;obtain⟨x',hx,hk⟩:=zab hk;obtain⟨y',hy,hk⟩:=zab hk;simp only[qX]at hk;subst hk;simp only[evK]at hev;split at hev
   ·rename_i xs ys h1 h2;rw[qQ]at hev;obtain⟨r,hr,hev⟩:=hev;simp only[qX,Prod.mk.injEq]at hev;obtain⟨rfl,rfl,rfl⟩:=hev;exact up (zss (neg:=false) ho he hks hx hy hop h1 h2 hr)
   ·simp at hev
  ·obtain⟨ks,hks,hk⟩:=zab hk;obtain⟨x',hx,hk⟩:=zab hk;obtain⟨y',hy,hk⟩:=zab hk;simp only[qX]at hk;subst hk;simp only[evK]at hev;split at hev
   ·rename_i xs ys h1 h2;rw[qQ]at hev;obtain⟨r,hr,hev⟩:=hev;simp only[qX,Prod.mk.injEq]at hev;obtain⟨rfl,rfl,rfl⟩:=hev;exact up (zss (neg:=true) ho he hks hx hy hop h1 h2 hr)
   ·simp at hev
  ·obtain⟨ks,hks,hk⟩:=zab hk;obtain⟨x',hx,hk⟩:=zab hk;obtain⟨y',hy,hk⟩:=zab hk;simp only[qX]at hk;subst hk;simp only[evK]at hev;split at hev
   ·rename_i xs ys h1 h2;rw[qQ]at hev;obtain⟨r,hr,hev⟩:=hev;simp only[qX,Prod.mk.injEq]at hev;obtain⟨rfl,rfl,rfl⟩:=hev;exact up (zss (neg:=false) ho he hks hx hy hop h1 h2 hr)
   ·simp at hev
  ·obtain⟨ks,hks,hk⟩:=zab hk;obtain⟨x',hx,hk⟩:=zab hk;obtain⟨y',hy,hk⟩:=zab hk;simp only[qX]at hk;subst hk;simp only[evK]at hev;split at hev
   ·rename_i xs ys h1 h2;rw[qQ]at hev;obtain⟨r,hr,hev⟩:=hev;simp only[qX,Prod.mk.injEq]at hev;obtain⟨rfl,rfl,rfl⟩:=hev;exact up (zss (neg:=true) ho he hks hx hy hop h1 h2 hr)
   ·simp at hev
  ·rename_i el hty;split at hk
   ·simp at hk;obtain⟨x',hx,rfl⟩:=hk;simp only[evK]at hev;split at hev
    ·rename_i id off hv;simp at hev;obtain⟨rfl,rfl,rfl⟩:=hev;exact up (zir (neg:=false) ho he hty hx hop (.inl ⟨id,off,hv,rfl⟩))
    ·rename_i cs p hv;simp at hev;obtain⟨rfl,rfl,rfl⟩:=hev;exact up (zir (neg:=false) ho he hty hx hop (.inr (.inl ⟨cs,p,hv,rfl⟩)))
    ·rename_i f cs hv;have hcc:=(zac hev).1;replace hev:=(zac hev).2;subst hcc;simp at hev;obtain⟨rfl,rfl,rfl⟩:=hev;exact up (zir (neg:=false) ho he hty hx hop (.inr (.inr ⟨cs,hv,rfl⟩)))
    ·simp at hev
   ·simp at hk
  ·rename_i el hty;split at hk
   ·simp at hk;obtain⟨x',hx,rfl⟩:=hk;simp only[evK]at hev;split at hev
    ·rename_i id off hv;simp at hev;obtain⟨rfl,rfl,rfl⟩:=hev;exact up (zir (neg:=true) ho he hty hx hop (.inl ⟨id,off,hv,rfl⟩))
    ·rename_i cs p hv;simp at hev;obtain⟨rfl,rfl,rfl⟩:=hev;exact up (zir (neg:=true) ho he hty hx hop (.inr (.inl ⟨cs,p,hv,rfl⟩)))
    ·rename_i f cs hv;have hcc:=(zac hev).1;replace hev:=(zac hev).2;subst hcc;simp at hev;obtain⟨rfl,rfl,rfl⟩:=hev;exact up (zir (neg:=true) ho he hty hx hop (.inr (.inr ⟨cs,hv,rfl⟩)))
    ·simp at hev
   ·simp at hk
  ·simp at hk
 case unOp op t x=>
  simp at hk;obtain⟨y,hy,rfl⟩:=hk;simp only[evK,qQ]at hev;obtain⟨r,hr,hev⟩:=hev;simp at hev;obtain⟨rfl,rfl,rfl⟩:=hev;exact up (jbw ho he hy hop hr)
 case convert src dst x=>
  split at hk
  ·rename_i d kk hs hd;simp at hk;obtain⟨y,hy,rfl⟩:=hk;simp only[evK]at hev;split at hev
   ·rename_i k' n hv;simp at hev;obtain⟨rfl,rfl,rfl⟩:=hev;exact up (qoo ho he hs hd hy hop hv)
   ·simp at hev
  ·rename_i el hs hd;split at hk
   ·rename_i hel;simp at hk;obtain⟨y,hy,rfl⟩:=hk;simp only[evK,qQ]at hev;obtain⟨n,hn,⟨xs,xr⟩,hxs,l,hl,hev⟩:=hev;simp at hev;obtain⟨rfl,rfl,rfl⟩:=hev;exact up (qwl ho he hs hel hd hy hop hn hxs hl)
   ·simp at hk
  ·simp at hk
 case makeFunc fn first caps=>
  cases fn<;>simp only[zeo]at hk<;>try (simp at hk;done)
  rename_i f;split at hk
  ·rename_i hff;split at hk
   ·rename_i hf;simp[qQ]at hk;obtain⟨caps',hc,rfl⟩:=hk;simp[evK]at hev;obtain⟨rfl,rfl,rfl⟩:=hev;exact up (qop ho he (by simpa using hf) (Nat.lt_trans hff (by decide)) hc hop)
   ·split at hk
    ·rename_i hf;simp[qQ]at hk;obtain⟨first',hc,rfl⟩:=hk;simp[evK]at hev;obtain⟨rfl,rfl,rfl⟩:=hev;exact up (qhc ho he (by simpa using hf) ⟨Nat.lt_trans hff (by decide),Nat.ne_of_lt hff⟩ hc hop)
    ·simp at hk
  ·simp at hk
 case makeMap t r=>
  cases r<;>simp only[zeo]at hk<;>try (simp at hk;done)
  split at hk
  ·simp only[qX]at hk;subst hk;simp[evK]at hev;obtain⟨rfl,rfl,rfl⟩:=hev;obtain⟨hfr,hu⟩:=hfu rfl;exact qhn ho hfr hu hop
  ·simp at hk
 case lookup t x y ok=>
  cases ok<;>simp only[zeo]at hk<;>try (simp at hk;done)
  split at hk
  ·rename_i kt el ht;split at hk
   ·rename_i n el' hkt;obtain⟨ks,hks,hk⟩:=zab hk;obtain⟨z,hz,hk⟩:=zab hk;obtain⟨x',hx,hk⟩:=zab hk;obtain⟨y',hy,hk⟩:=zab hk;simp only[qX]at hk;subst hk;obtain⟨zi,zv,hzi,hzv,hz⟩:=zlq hz;simp only[evK]at hev;split at hev
    ·rename_i f id p kk h1 h2;split at hev
     ·rename_i cs hg;have hcc:=(zac hev).1;replace hev:=(zac hev).2;obtain⟨c1,c2⟩:=hcc;subst c1;subst c2;rw[qQ]at hev;obtain⟨r,hr,hev⟩:=hev;simp only[qX,Prod.mk.injEq]at hev;obtain⟨rfl,rfl,rfl⟩:=hev;exact up (qho ho he ht hkt hks hzi hzv hz hx hy hop h1 h2 hg rfl hr)
     ·simp at hev
    ·simp at hev
   ·simp at hk
  ·simp at hk
 case mapEntry t x y=>
  split at hk
  ·rename_i kt el ht;split at hk
   ·rename_i n el' hkt;obtain⟨ks,hks,hk⟩:=zab hk;obtain⟨z,hz,hk⟩:=zab hk;obtain⟨x',hx,hk⟩:=zab hk;obtain⟨y',hy,hk⟩:=zab hk;simp only[qX]at hk;subst hk;obtain⟨zi,zv,hzi,hzv,hz⟩:=zlq hz;simp only[evK]at hev;split at hev
    ·rename_i f id p kk h1 h2;split at hev
     ·rename_i cs hg;have hcc:=(zac hev).1;replace hev:=(zac hev).2;obtain⟨c1,c2⟩:=hcc;subst c1;subst c2;rw[qQ]at hev;obtain⟨r,hr,hev⟩:=hev;obtain⟨s1,s2⟩:=qeg (P:=P) (n0:=n0) ho he ht hkt hks hzi hzv hz hx hy hop h1 h2 hg hr;cases r with
      |some i=>
       simp only[qX,Prod.mk.injEq]at hev;obtain⟨rfl,rfl,rfl⟩:=hev;exact up (s1 i rfl)
      |none=>
       obtain⟨_,hev⟩:=zac hev;simp only[qX,Prod.mk.injEq]at hev;obtain⟨rfl,rfl,rfl⟩:=hev;exact up (s2 rfl)
     ·simp at hev
    ·simp at hev
   ·simp at hk
  ·simp at hk
 case entryStore t x s y=>
  obtain⟨x',hx,hk⟩:=zab hk;obtain⟨s',hs,hk⟩:=zab hk;obtain⟨y',hy,hk⟩:=zab hk;simp only[qX]at hk;subst hk;simp only[evK]at hev;split at hev
  ·rename_i f id p kk n h1 h2;split at hev
   ·rename_i cs hg;have hcc:=(zac hev).1;replace hev:=(zac hev).2;obtain⟨c1,c2,_,h0,hl,hnl⟩:=hcc;subst c1;subst c2;simp only[qX,Prod.mk.injEq]at hev;obtain⟨rfl,rfl,rfl⟩:=hev;exact up (qeh ho he hx hs hy hop h1 h2 hg h0 hl hnl)
   ·simp at hev
  ·simp at hev
 case makeSlice t x y=>
  obtain⟨d,hd,hk⟩:=zab hk;cases d<;>simp only at hk<;>try (simp at hk;done)
  rename_i el;simp[qQ]at hk;obtain⟨i,hi,z,hz,x',hx,y',hy,rfl⟩:=hk;simp only[evK]at hev;split at hev
  ·rename_i k1 n k2 c h1 h2;obtain⟨⟨g1,g2,g3,g4,g5,g6⟩,hev⟩:=zac hev;simp at hev;obtain⟨rfl,rfl,rfl⟩:=hev;obtain⟨hfr,hu⟩:=hfu rfl;exact qou ho he hfr hu hd hi hz hx hy hop h1 h2 g1 g2 g3 g4 g5 g6
  ·simp at hev
 case slice t x lo hi mx=>
  simp[qQ]at hk;obtain⟨x',hx,lo',hlo,hi',hhi,mx',hmx,hk⟩:=hk;split at hk
  ·rename_i el hd;obtain⟨sz,hsz,hk⟩:=zab hk;simp only[qX]at hk;subst hk;simp only[evK,qQ]at hev;obtain⟨r,hr,hev⟩:=hev;simp at hev;obtain⟨rfl,rfl,rfl⟩:=hev;exact up (qhl ho he hd hsz hx (optM hlo) (optM hhi) (optM hmx) hop hr)
  ·rename_i n el hd;obtain⟨sz,hsz,hk⟩:=zab hk;simp only[qX]at hk;subst hk;have h1:=zaj ho he hx;simp only[evK]at hev;split at hev
   ·rename_i id off hv;rw[hv]at h1;split at hev
    ·rename_i cs hg;obtain⟨hl,hev⟩:=zac hev;simp only[qQ]at hev;obtain⟨r,hr,hev⟩:=hev;simp at hev;obtain⟨rfl,rfl,rfl⟩:=hev;obtain⟨b,e1,hb,_,_⟩:=znd ho h1 hg;obtain⟨b2,el2,mm,hb2,hsh,hlen,_,_⟩:=ho.at hg (qgy h1);rw[hb]at hb2;simp at hb2;subst hb2;exact up (zve ho he hd hsz (optM hlo) (optM hhi) (optM hmx) hop e1 (.slAt _ _ _ _ _ _ _ el2 mm hb hsh (Nat.le_refl _) (by simp) (by omega)) hr)
    ·simp at hev
   ·rename_i cs p hv;rw[hv]at h1;obtain⟨hl,hev⟩:=zac hev;simp only[qQ]at hev;obtain⟨r,hr,hev⟩:=hev;simp at hev;obtain⟨rfl,rfl,rfl⟩:=hev;obtain⟨b,q,vs,e1,hM,hcell,hrep⟩:=zgu h1;exact up (zve ho he hd hsz (optM hlo) (optM hhi) (optM hmx) hop e1 (.imm _ _ (qhk hM hcell hrep (Nat.le_refl _) (by simp))) hr)
   ·simp at hev
  ·simp at hk
 case fieldAddr s x f=>
  split at hk
  ·rename_i fields hd;split at hk
   ·rename_i fd hf;obtain⟨z,hz,hk⟩:=zab hk;split at hk
    ·simp at hk
    ·rename_i hz0;obtain⟨y,hy,hk⟩:=zab hk;simp only[qX]at hk;subst hk;simp only[evK]at hev;split at hev
     ·rename_i id p hv;simp at hev;obtain⟨rfl,rfl,rfl⟩:=hev;exact up (qhe ho he hd hf hz hz0 hy hop (by rw[hv];rfl))
     ·rename_i cs p hv;simp at hev;obtain⟨rfl,rfl,rfl⟩:=hev;exact up (qhe ho he hd hf hz hz0 hy hop (by rw[hv];rfl))
     ·simp at hev
   ·simp at hk
  ·simp at hk
 case field s x f=>
  split at hk
  ·rename_i fields hd;split at hk
   ·rename_i fd hf;obtain⟨⟨ag,sz⟩,hs,hk⟩:=zab hk;obtain⟨y,hy,hk⟩:=zab hk;simp only[qX]at hk;subst hk;simp only[evK]at hev;split at hev
    ·rename_i cs hv;obtain⟨⟨h1,_⟩,hev⟩:=zac hev;simp at hev;obtain⟨rfl,rfl,rfl⟩:=hev;exact up (qoq ho he hd hf hs hy hop hv h1)
    ·simp at hev
   ·simp at hk
  ·simp at hk
 case indexAddr t x i=>
  split at hk
  ·rename_i el hd;simp[qQ]at hk;obtain⟨sz,hsz,x',hx,i',hi,rfl⟩:=hk;simp only[evK]at hev;split at hev
   ·rename_i id off n s c k j h1 h2;obtain⟨⟨rfl,g1,g2⟩,hev⟩:=zac hev;simp at hev;obtain⟨rfl,rfl,rfl⟩:=hev;exact up (qhf ho he hd hsz hx hi hop h2 (.inl ⟨id,off,n,c,h1,g1,g2,rfl⟩))
   ·rename_i cs n c k j h1 h2;obtain⟨⟨g1,g2⟩,hev⟩:=zac hev;simp at hev;obtain⟨rfl,rfl,rfl⟩:=hev;exact up (qhf ho he hd hsz hx hi hop h2 (.inr ⟨cs,n,c,h1,g1,g2,rfl⟩))
   ·simp at hev
  ·rename_i n el hd;simp[qQ]at hk;obtain⟨sz,hsz,x',hx,i',hi,rfl⟩:=hk;simp only[evK]at hev;split at hev
   ·rename_i id off k j h1 h2;obtain⟨⟨g1,g2⟩,hev⟩:=zac hev;simp at hev;obtain⟨rfl,rfl,rfl⟩:=hev;exact up (qbb ho he hd hsz hx hi hop h2 g1 g2 (by rw[h1];rfl))
   ·rename_i cs p k j h1 h2;obtain⟨⟨g1,g2⟩,hev⟩:=zac hev;simp at hev;obtain⟨rfl,rfl,rfl⟩:=hev;exact up (qbb ho he hd hsz hx hi hop h2 g1 g2 (by rw[h1];rfl))
   ·simp at hev
  ·simp at hk
 case index t x i=>
  split at hk
  ·rename_i n el hd;obtain⟨⟨ag,sz⟩,hs,hk⟩:=zab hk;obtain⟨z,hz,hk⟩:=zab hk;obtain⟨x',hx,hk⟩:=zab hk;obtain⟨i',hi,hk⟩:=zab hk;split at hk
   ·rename_i hzs;simp only[qX]at hk;subst hk;simp only[evK]at hev;split at hev
    ·rename_i cs k j h1 h2;obtain⟨⟨g1,g2,g3,g4⟩,hev⟩:=zac hev;simp at hev;obtain⟨rfl,rfl,rfl⟩:=hev;exact up (qor ho he hd hs hz hzs hx hi hop h1 h2 g1 g2 g3)
    ·simp at hev
   ·simp at hk
  ·rename_i hd;simp[qQ]at hk;obtain⟨x',hx,i',hi,rfl⟩:=hk;simp only[evK]at hev;split at hev
   ·rename_i s k j h1 h2;obtain⟨⟨g1,g2⟩,hev⟩:=zac hev;simp only[qX,Prod.mk.injEq]at hev;obtain⟨rfl,rfl,rfl⟩:=hev;exact up (qos ho he hd hx hi hop h1 h2 g1 g2)
   ·simp at hev
  ·simp at hk
 case extract x i=>
  obtain⟨y,hy,hk⟩:=zab hk;simp only[qX]at hk;subst hk;simp only[evK]at hev;split at hev
  ·rename_i vs hv;split at hev
   ·rename_i u hu';simp at hev;obtain⟨rfl,rfl,rfl⟩:=hev;exact up (qwh ho he hy hop hv hu')
   ·simp at hev
  ·simp at hev
 case call cl=>
  cases hcl:cl.callee with
  |invoke r m=>rw[hcl]at hk;simp at hk
  |value f=>
   rw[hcl]at hk;cases f<;>simp only at hk<;>try (simp at hk;done)
   ·obtain⟨l,hl,hk⟩:=zab hk;simp only[qX]at hk;subst hk;simp[evK]at hev
   ·split at hk
    ·obtain⟨l,hl,hk⟩:=zab hk;simp only[qX]at hk;subst hk;simp[evK]at hev
    ·split at hk
     ·rename_i b x y z hcy hargs;obtain⟨x',hx,hk⟩:=zab hk;obtain⟨y',hy,hk⟩:=zab hk;obtain⟨z',hz,hk⟩:=zab hk;simp only[qX]at hk;subst hk;simp only[evK]at hev;split at hev
      ·rename_i m n d e1 e2 e3;obtain⟨hm,hev⟩:=zac hev;simp only[qX,Prod.mk.injEq]at hev;obtain⟨rfl,rfl,rfl⟩:=hev;exact up (qoz ho he hop hcl hargs hcy hx hy hz e1 e2 e3 hm)
      ·simp at hev
     ·simp at hk
  |builtin b=>
   rw[hcl]at hk;cases b<;>simp only at hk<;>try (simp at hk;done)
   case append=>
    split at hk
    ·rename_i el el2 s x h1 h2 hargs;obtain⟨i,hi,hk⟩:=zab hk;obtain⟨z,hz,hk⟩:=zab hk;split at hk
     ·rename_i hzl;obtain⟨s',hs,hk⟩:=zab hk;obtain⟨x',hx,hk⟩:=zab hk;simp only[qX]at hk;subst hk;simp only[evK]at hev;obtain⟨t,ht0,ht⟩:=Option.bind_eq_some_iff.1 h1;obtain⟨t2,ht20,ht2⟩:=Option.bind_eq_some_iff.1 h2;obtain⟨hfr,hu⟩:=hfu rfl;exact qed ho he hfr hu hop hcl hargs ht0 ht20 ht ht2 hi hz hzl hs hx hev
     ·simp at hk
    ·rename_i el k2 s x h1 h2 hargs;obtain⟨i,hi,hk⟩:=zab hk;obtain⟨z,hz,hk⟩:=zab hk;split at hk
     ·rename_i hzl;obtain⟨s',hs,hk⟩:=zab hk;obtain⟨x',hx,hk⟩:=zab hk;simp only[qX]at hk;subst hk;simp only[evK]at hev;obtain⟨t,ht0,ht⟩:=Option.bind_eq_some_iff.1 h1;obtain⟨t2,ht20,ht2⟩:=Option.bind_eq_some_iff.1 h2;obtain⟨hfr,hu⟩:=hfu rfl;exact qwm ho he hfr hu hop hcl hargs ht0 ht20 ht ht2 hi hz hzl hs hx hev
     ·simp at hk
    ·simp at hk
   case copy=>
    split at hk
    ·rename_i el d s h1 hargs;obtain⟨sz,hsz,hk⟩:=zab hk;obtain⟨d',hd,hk⟩:=zab hk;obtain⟨s',hs,hk⟩:=zab hk;simp only[qX]at hk;subst hk;obtain⟨t,ht0,ht⟩:=Option.bind_eq_some_iff.1 h1;simp only[evK]at hev;split at hev
     ·rename_i id off n s2 c hv;split at hev
      ·rename_i cs hg;simp only[qQ]at hev;obtain⟨m,hm,⟨xs,xr⟩,hxs,hev⟩:=hev;have hev2:=(zac hev).2;have hcond:=(zac hev).1;clear hev;obtain⟨rfl,g1,g2⟩:=hcond;simp only[qX,Prod.mk.injEq]at hev2;obtain⟨rfl,rfl,rfl⟩:=hev2;exact up (qow ho he hop hcl hargs ht0 ht hsz hd hs hv hg hm hxs g1 g2)
      ·simp at hev
     ·simp at hev
    ·simp at hk
   case clear=>
    split at hk
    ·rename_i el x h1 hargs;obtain⟨sz,hsz,hk⟩:=zab hk;obtain⟨z,hz,hk⟩:=zab hk;obtain⟨x',hx,hk⟩:=zab hk;simp only[qX]at hk;subst hk;obtain⟨t,ht0,ht⟩:=Option.bind_eq_some_iff.1 h1;simp only[evK]at hev;split at hev
     ·rename_i cs n c hv;obtain⟨rfl,hev⟩:=zac hev;simp only[qX,Prod.mk.injEq]at hev;obtain⟨rfl,rfl,rfl⟩:=hev;exact up (qhq (sz:=sz) ho he hop hcl hargs ht0 ht hz hx (.inl ⟨cs,c,hv,rfl⟩))
     ·rename_i id off n s2 c hv;split at hev
      ·rename_i cs hg;have hev2:=(zac hev).2;have hcond:=(zac hev).1;clear hev;obtain⟨rfl,g1,g2,g3,g4⟩:=hcond;simp only[qX,Prod.mk.injEq]at hev2;obtain⟨rfl,rfl,rfl⟩:=hev2;exact up (qhq ho he hop hcl hargs ht0 ht hz hx (.inr ⟨id,off,n,c,cs,hv,hg,g1,g2,g3,g4,rfl⟩))
      ·simp at hev
     ·simp at hev
    ·simp at hk
   case len=>
    split at hk
    ·rename_i el x h1 hargs;simp at hk;obtain⟨x',hx,rfl⟩:=hk;obtain⟨t,ht0,ht⟩:=Option.bind_eq_some_iff.1 h1;simp only[evK]at hev;split at hev
     ·simp_all
     ·rename_i cs n c _ hv;simp only[qX,Prod.mk.injEq]at hev;obtain⟨rfl,rfl,rfl⟩:=hev;exact up (zyc ho he hx hop hcl hargs ht0 (by rw[hv];rfl) (.inl ⟨el,ht,λs hs=>by rw[hv]at hs;simp at hs⟩))
     ·rename_i id off n sz c _ hv;simp only[qX,Prod.mk.injEq]at hev;obtain⟨rfl,rfl,rfl⟩:=hev;exact up (zyc ho he hx hop hcl hargs ht0 (by rw[hv];rfl) (.inl ⟨el,ht,λs hs=>by rw[hv]at hs;simp at hs⟩))
     ·simp at hev
    ·rename_i x h1 hargs;simp at hk;obtain⟨x',hx,rfl⟩:=hk;obtain⟨t,ht0,ht⟩:=Option.bind_eq_some_iff.1 h1;simp only[evK]at hev;split at hev
     ·rename_i s _ hv;simp only[qX,Prod.mk.injEq]at hev;obtain⟨rfl,rfl,rfl⟩:=hev;exact up (zyc ho he hx hop hcl hargs ht0 (by rw[hv];rfl) (.inr ⟨ht,s,hv⟩))
     ·simp_all
     ·simp_all
     ·simp at hev
    ·rename_i n el x h1 hargs;simp at hk;subst hk;obtain⟨t,ht0,ht⟩:=Option.bind_eq_some_iff.1 h1;simp[evK]at hev;obtain⟨rfl,rfl,rfl⟩:=hev;exact up (qbe ho hop hcl hargs ht0 (.inl ⟨el,ht⟩))
    ·rename_i p x h1 hargs;split at hk
     ·rename_i n el hp;simp at hk;subst hk;obtain⟨t,ht0,ht⟩:=Option.bind_eq_some_iff.1 h1;simp[evK]at hev;obtain⟨rfl,rfl,rfl⟩:=hev;exact up (qbe ho hop hcl hargs ht0 (.inr ⟨p,el,ht,hp⟩))
     ·simp at hk
    ·simp at hk
   case max=>
    split at hk
    ·rename_i x y hargs;obtain⟨x',hx,hk⟩:=zab hk;obtain⟨y',hy,hk⟩:=zab hk;simp only[qX]at hk;subst hk;simp only[evK]at hev;split at hev
     ·rename_i k1 m k2 n h1 h2;simp only[qX,Prod.mk.injEq]at hev;obtain⟨rfl,rfl,rfl⟩:=hev;exact up (qwi ho he hx hy hop hcl hargs h1 h2)
     ·simp at hev
    ·simp at hk
