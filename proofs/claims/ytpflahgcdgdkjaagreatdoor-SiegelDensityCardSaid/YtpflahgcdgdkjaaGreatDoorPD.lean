/- A part of the proof. -/
import Derived.Test.YtpflahgcdgdkjaaGreatDoorPC
import Derived.Test.YtpflahgcdgdkjaaGreatDoorAL1
set_option linter.all false
set_option maxRecDepth 100000
namespace Go.Proofs.YtpflahgcdgdkjaaGreatDoor
open Int renaming toNat_natCast -> xQ, fdiv_eq_ediv_of_nonneg -> xE
open Nat renaming reduceEqDiff -> qX, lt_or_ge -> qW, reduceLeDiff -> qG, mod_eq_of_lt -> xV, mod_lt -> xY, or_lt_two_pow -> yX
open List renaming getD_eq_getElem?_getD -> qZ, getElem?_eq_getElem -> qB, append_assoc -> qC
open Go Go.AL Go.Proofs Go.Limb
theorem or32 {a b:Nat} (ha:a<4294967296) (hb:b<4294967296):IntKind.u32.wrap (((BitVec.ofInt IntKind.u32.bits (a:Int) ||| BitVec.ofInt IntKind.u32.bits (b:Int)).toNat:Nat):Int)=((a ||| b:Nat):Int):=by
 have h:(BitVec.ofInt IntKind.u32.bits (a:Int) ||| BitVec.ofInt IntKind.u32.bits (b:Int)).toNat=a ||| b:=by
  show (BitVec.ofInt 32 (a:Int) ||| BitVec.ofInt 32 (b:Int)).toNat=a ||| b
  rw [BitVec.toNat_or,BitVec.ofInt_natCast,BitVec.ofInt_natCast,BitVec.toNat_ofNat,BitVec.toNat_ofNat,xV ha,xV hb]
 rw [h]
 exact qnw (yX (n:=32) ha hb)
theorem shl1 (x:Nat):IntKind.u32.wrap ((x:Int)*2^min (Int.toNat 1) IntKind.u32.bits)=((2*x%4294967296:Nat):Int):=by
 have e:(2:Int)^min (Int.toNat 1) IntKind.u32.bits=2:=rfl
 rw [e,show (x:Int)*2=((2*x:Nat):Int) by omega,wu32]
theorem jbh (x:Nat):Int.fdiv (x:Int) (2^min (Int.toNat 31) IntKind.u32.bits)=((x/2147483648:Nat):Int):=by
 have e:(2:Int)^min (Int.toNat 31) IntKind.u32.bits=((2147483648:Nat):Int):=rfl
 rw [e,xE _ (by omega)]
 rfl
theorem qyz {x b:Nat} (hb:b<=1):2*x%4294967296 ||| b=2*x%4294967296+b:=by
 rcases qW b 1 with h | h
 ·obtain rfl:b=0:=by omega
  rw [Nat.or_zero];omega
 ·obtain rfl:b=1:=by omega
  exact qhr (s:=0) (by omega)
theorem quy (m:List Nat) (c:Option Nat) (b:Nat) (dm:Dig m) (hb:b<=1) (hm:m.length<1048576):∃c',Rt 214 [.vec (u32s m) m.length c,.int .u32 (b:Nat)] [] (.vec (u32s (dblL m b)) (dblL m b).length c') []:=by
 refine ⟨none,?_⟩
 refine oF o214 ?_
 generalize hfin:dblL m b=fin
 have hfl:fin.length=m.length+1:=by rw [<-hfin,zzh]
 simp only [c214,r214_0,r214_1,r214_2,SS,reduceCtorEq,reduceIte]
 refine zai (fun k E H=>∃i b out a,k+i=m.length/\out.length=i/\b<=1/\out++dblL (m.drop i) b=fin/\E 1= .int .u32 (b:Nat)/\E 5=a/\E 8= .vec (u32s m) m.length c/\E 9= .int .i64 (m.length:Nat)/\E 10= .int .i64 (i:Nat)/\zws [] 1 i (u32s out) a H) (n:=m.length)
  ⟨0,b,[],_,by omega,rfl,hb,by simpa using hfin,?_,rfl,?_,?_,?_,.inl ⟨rfl,rfl,?_,0,rfl⟩⟩ ?_
 ·simp only [UU,qX]
 ·simp only [UU,qX,reduceIte]
 ·simp only [UU,qX,reduceIte]
 ·simp only [UU,qX,reduceIte];rfl
 ·simp only [UU,qX,reduceIte]
 rintro k E H ⟨i,b,out,a,hki,hol,hb,hf,h1,h5,h8,h9,h10,hO⟩
 refine wM ?_
 simp only [l214_0,r214_3,SS,reduceCtorEq,reduceIte,h9,h10]
 refine ⟨fun hlt=>?_,fun hge=>?_⟩
 ·obtain ⟨k,rfl⟩:∃k',k=k'+1:=⟨k-1,by omega⟩
  have hi:i<m.length:=by omega
  have bm:=dm.getD i
  have g:=zcj m i hi AV.junk
  have hd:m.drop i=m.getD i 0::m.drop (i+1):=by
   rw [List.drop_eq_getElem_cons hi,qZ,qB hi];rfl
  obtain ⟨e,rd,H4,H5,hap,hH4,hg,hw,hO'⟩:=zno (bytes:=4) (xs:=[.int .u32 ((2*m.getD i 0%4294967296+b:Nat):Int)]) hO rfl rfl (by omega) (by omega)
  have w5:=wS1 i (by omega)
  have b2:2*m.getD i 0%4294967296<4294967296:=xY _ (by omega)
  have wo:=or32 b2 (show b<4294967296 by omega)
  rw [qyz hb] at wo
  have e1:u32s out++[.int .u32 ((2*m.getD i 0%4294967296+b:Nat):Int)]=u32s (out++[2*m.getD i 0%4294967296+b]):=by simp [u32s]
  rw [e1] at hO'
  rw [hd,dblL] at hf
  simp only [r214_4,r214_5,SS,fC,reduceIte,qX,qG,h1,h5,h8,h10,xQ,g,zbj,shl1,wo,zcu,hap]
  refine ⟨⟨by omega,by omega⟩,by omega,by omega,?_⟩
  simp only [r214_6,r214_7,SS,reduceIte,qX,h10,w5,jbh]
  rw [hH4]
  refine ⟨by omega,k,_,H5,by omega,⟨i+1,m.getD i 0/2147483648,out++[2*m.getD i 0%4294967296+b],.sl (H.length+1) 0 (i+1) 1 none,by omega,by simp [hol],by omega,by rw [qC];exact hf,?_,rfl,?_,?_,?_,?_⟩,hw _ _ _ (by simp)⟩
  ·simp only [UU,qX,reduceIte]
  all_goals first | exact hO' | simp only [UU,qX,reduceIte, *]
 ·have hi:i=m.length:=by omega
  subst hi
  rw [List.drop_length,dblL] at hf
  obtain ⟨e,rd,H4,H5,hap,hH4,hg,hw,hO'⟩:=zno (bytes:=4) (xs:=[.int .u32 (b:Nat)]) hO rfl rfl (by omega) (by omega)
  simp only [r214_8,SS,reduceIte,qX,qG,h1,h5,zcu,hap]
  refine ⟨.inl trivial,_,rfl,?_⟩
  have e1:u32s out++[.int .u32 (b:Nat)]=u32s fin:=by rw [<-hf];simp [u32s]
  rw [e1] at hg
  rw [hfl]
  refine zrj ?_ hfl.symm
  rw [hH4]
  exact hg
end Go.Proofs.YtpflahgcdgdkjaaGreatDoor
namespace Go.Limb
open Nat renaming mod_eq_of_lt -> xV, mod_lt -> xY, pow_lt_pow_right -> xA, pow_succ -> xI, pow_add -> xO, mul_assoc -> xT, or_lt_two_pow -> yX, mul_comm -> yZ, div_eq_of_lt -> yW
def znw (l:List Nat) (i:Nat):List Nat:=l.set (i/32) (l.getD (i/32) 0 ||| 2^(i%32))
theorem qcp (l:List Nat) (i:Nat):(znw l i).length=l.length:=by simp [znw]
theorem quz (w:Nat):(4294967296:Nat)^w=2^(32*w):=by rw [Nat.pow_mul]
theorem qoh {l:List Nat} {i:Nat} (h:Dig l) (h0:val l%2^(i+1)=0):l.getD (i/32) 0%2^(i%32+1)=0:=by
 rw [zug l _ h,quz]
 have hs:i%32<32:=xY _ (by decide)
 have hi:i+1=32*(i/32)+(i%32+1):=by omega
 obtain ⟨t,ht⟩:2^(i+1)∣val l:=Nat.dvd_of_mod_eq_zero h0
 rw [ht]
 have hp:2^(i+1)=2^(32*(i/32))*2^(i%32+1):=by rw [<-xO,<-hi]
 rw [hp,xT,Nat.mul_div_cancel_left _ (Nat.pow_pos (by decide))]
 generalize i%32=s at*
 have e3:(4294967296:Nat)=2^(s+1)*2^(31-s):=by
  rw [<-xO,show s+1+(31-s)=32 by omega]
 rw [e3,Nat.mod_mul_right_mod,Nat.mul_mod_right]
theorem zwx {l:List Nat} {i:Nat} (h:Dig l) (hi:i/32<l.length) (h0:val l%2^(i+1)=0):val (znw l i)=val l+2^i/\Dig (znw l i):=by
 have hz:=qoh h h0
 have hs:i%32<32:=xY _ (by decide)
 have hb:=h.getD (i/32)
 have hpl:2^(i%32)<4294967296:=by
  have:2^(i%32)<2^32:=xA (by decide) hs
  exact this
 have hor:l.getD (i/32) 0 ||| 2^(i%32)<4294967296:=yX (n:=32) hb hpl
 refine ⟨?_,h.set hor⟩
 have hv:=zwo (l:=l) (i:=i/32) (v:=l.getD (i/32) 0 ||| 2^(i%32)) hi
 rw [qhr hz,Nat.mul_add] at hv
 have e:4294967296^(i/32)*2^(i%32)=2^i:=by
  rw [quz,<-xO]
  congr 1
  omega
 rw [e] at hv
 unfold znw
 rw [qhr hz]
 omega
structure DivS (m n:List Nat) (k:Nat) (qs r:List Nat):Prop where
 len:qs.length=m.length
 dig:Dig qs
 canon:zcc r
 lt:val r<val n
 ex:∃Q,val qs=Q*2^k/\val m/2^k=Q*val n+val r
theorem DivS.start {m n:List Nat} (hm:Dig m) (hn:val n≠0):DivS m n (32*m.length) (List.replicate m.length 0) []:=by
 have hr:∀k,val (List.replicate k 0)=0:=by
  intro k
  induction k with
  | zero=>rfl
  | succ k ih=>rw [List.replicate_succ,val,ih]
 refine ⟨by simp,?_,zcc.nil,by show 0<val n;omega,0,by rw [hr];omega,?_⟩
 ·intro d hd
  rw [List.eq_of_mem_replicate hd];decide
 ·have:=zjp hm
  rw [quz] at this
  rw [yW this]
  show 0=0*val n+0
  omega
theorem zzj {m:List Nat} {k:Nat}:val m/2^(k+1)=val m/2^k/2:=by
 rw [Nat.div_div_eq_div_mul,xI]
theorem zzk (Q k:Nat):Q*2^(k+1)=2*Q*2^k:=by
 rw [xI,<-xT,yZ _ 2,xT]
theorem DivS.low {m n qs r r2:List Nat} {k:Nat} (h:DivS m n (k+1) qs r) (c2:zcc r2) (hv:val r2=2*val r+val m/2^k%2) (hlt:val r2<val n):DivS m n k qs r2:=by
 obtain ⟨Q,e1,e2⟩:=h.ex
 rw [zzj] at e2
 have:=(zzi (V:=val m/2^k) (b:=val m/2^k%2) (xY _ (by decide)) e2 h.lt rfl).1 (by omega)
 exact ⟨h.len,h.dig,c2,hlt,2*Q,by rw [e1,zzk],by rw [hv];exact this⟩
theorem DivS.high {m n qs r r2:List Nat} {k:Nat} (h:DivS m n (k+1) qs r) (hk:k<32*m.length) (c2:zcc r2) (hge:val n<=2*val r+val m/2^k%2) (hv:val r2+val n=2*val r+val m/2^k%2):DivS m n k (znw qs k) r2:=by
 obtain ⟨Q,e1,e2⟩:=h.ex
 rw [zzj] at e2
 have h2:=(zzi (V:=val m/2^k) (b:=val m/2^k%2) (xY _ (by decide)) e2 h.lt rfl).2 hge
 have hs:=zwx (i:=k) h.dig (by rw [h.len];omega) (by rw [e1];exact Nat.mul_mod_left _ _)
 refine ⟨by rw [qcp,h.len],hs.2,c2,by omega,2*Q+1,?_,?_⟩
 ·rw [hs.1,e1,zzk,Nat.add_mul,Nat.one_mul]
 ·have e:val r2=2*val r+val m/2^k%2-val n:=by omega
  rw [e];exact h2.1
theorem DivS.done {m n qs r:List Nat} (h:DivS m n 0 qs r):val qs=val m/val n/\val r=val m%val n:=by
 obtain ⟨Q,e1,e2⟩:=h.ex
 simp only [Nat.pow_zero,Nat.mul_one,Nat.div_one] at e1 e2
 have hlt:=h.lt
 rw [e1,e2]
 constructor
 ·rw [yZ,Nat.mul_add_div (by omega),yW hlt];omega
 ·rw [yZ,Nat.mul_add_mod,xV hlt]
end Go.Limb
namespace Go.Proofs.YtpflahgcdgdkjaaGreatDoor
open Int renaming natAbs_ediv_le_natAbs -> qN, toNat_natCast -> xQ, fdiv_eq_ediv_of_nonneg -> xE
open Nat renaming reduceEqDiff -> qX, le_refl -> qK, lt_or_ge -> qW, reduceLeDiff -> qG, reduceAdd -> qO, lt_of_le_of_lt -> qR, mod_eq_of_lt -> xV, mod_lt -> xY, pow_lt_pow_right -> xA, pow_le_pow_right -> xP, div_le_self -> yC
open List renaming append_nil -> yD
open Go Go.AL Go.Proofs Go.Limb
theorem canon_len {m n:List Nat} (hm:zcc m) (hn:zcc n) (h:val m<=val n):m.length<=n.length:=by
 rcases qW n.length m.length with h1 | h1
 ·have h2:=zjp hn.1
  have h3:=zkx hm.2 (by intro e;rw [e] at h1;simp at h1)
  have h4:4294967296^n.length<=4294967296^(m.length-1):=xP (by decide) (by omega)
  omega
 ·exact h1
theorem and1 {x:Nat} (hx:x<4294967296):IntKind.u32.wrap (((BitVec.ofInt IntKind.u32.bits (x:Int) &&& BitVec.ofInt IntKind.u32.bits 1).toNat:Nat):Int)=((x%2:Nat):Int):=by
 have h:(BitVec.ofInt IntKind.u32.bits (x:Int) &&& BitVec.ofInt IntKind.u32.bits 1).toNat=x%2:=by
  show (BitVec.ofInt 32 (x:Int) &&& BitVec.ofInt 32 ((1:Nat):Int)).toNat=x%2
  rw [BitVec.toNat_and,BitVec.ofInt_natCast,BitVec.ofInt_natCast,BitVec.toNat_ofNat,BitVec.toNat_ofNat,xV hx]
  exact Nat.and_one_is_mod x
 rw [h]
 exact qnw (by omega)
theorem shrN {x s:Nat} (hs:s<32):Int.fdiv (x:Int) (2^min s IntKind.u32.bits)=((x/2^s:Nat):Int):=by
 have e:min s IntKind.u32.bits=s:=by show min s 32=s;omega
 rw [e]
 have e2:(2:Int)^s=((2^s:Nat):Int):=by simp
 rw [e2,xE _ (Int.natCast_nonneg _)]
 rfl
theorem shlN {s:Nat} (hs:s<32):IntKind.u32.wrap ((1:Int)*2^min s IntKind.u32.bits)=((2^s:Nat):Int):=by
 have e:min s IntKind.u32.bits=s:=by show min s 32=s;omega
 rw [e,Int.one_mul]
 have e2:(2:Int)^s=((2^s:Nat):Int):=by simp
 rw [e2]
 refine qnw ?_
 have:2^s<2^32:=xA (by decide) hs
 exact this
theorem zuh {m n:List Nat} {c d:Option Nat} (cm:zcc m) (cn:zcc n) (lm:m.length<=1100) (ln:n.length<=1100) (hn0:val n≠0) {E:Env} {Q:Post} (e0:E 0= .vec (u32s m) m.length c) (e1:E 1= .vec (u32s n) n.length d)
  (e4:E 4= .sl 0 0 m.length 1 (some m.length)) (e5:E 5= .vec [] 0 (some 0)) (e8:E 8= .int .i64 (((32*m.length:Nat):Int)-1))
  (hQ:∀E' qs r cr,DivS m n 0 qs r->E' 4= .sl 0 0 m.length 1 (some m.length)->E' 5= .vec (u32s r) r.length cr->Q (.exit 0) E' [some (u32s qs)]):
  Wg 0 75 (.loop l211_0) E [some (u32s (List.replicate m.length 0))] Q:=by
 refine zai (fun k E H=>∃qs r cr,DivS m n k qs r/\k<=32*m.length/\E 0= .vec (u32s m) m.length c/\E 1= .vec (u32s n) n.length d/\E 4= .sl 0 0 m.length 1 (some m.length)/\E 5= .vec (u32s r) r.length cr/\E 8= .int .i64 ((k:Int)-1)/\H=[some (u32s qs)])
  (n:=32*m.length) ⟨_,[],some 0,DivS.start cm.1 hn0,qK _,e0,e1,e4,e5,e8,rfl⟩ ?_
 clear e0 e1 e4 e5 e8
 rintro k E H ⟨qs,r,cr,hD,hk,e0,e1,e4,e5,e8,rfl⟩
 refine wM ?_
 simp only [l211_0,r211_6,SS,reduceIte,qX,e8]
 refine ⟨fun hge=>?_,fun hlt=>?_⟩
 ·obtain ⟨k,rfl⟩:∃k',k=k'+1:=⟨k-1,by omega⟩
  have e5k:((k+1:Nat):Int)-1=(k:Nat):=by omega
  rw [e5k] at e8
  have hw:k/32<m.length:=by omega
  have hs:k%32<32:=xY _ (by decide)
  have g1:=zcj m (k/32) hw AV.junk
  have bm:=cm.1.getD (k/32)
  have lr:=canon_len hD.canon cn (Nat.le_of_lt hD.lt)
  have hb1:m.getD (k/32) 0/2^(k%32)<4294967296:=qR (yC _ _) bm
  have hbit:=qux m k cm.1
  have hbl:m.getD (k/32) 0/2^(k%32)%2<=1:=by omega
  obtain ⟨c1,t1⟩:=quy r cr (m.getD (k/32) 0/2^(k%32)%2) hD.canon.1 hbl (by omega)
  have dd:=qog r _ hD.canon.1 hbl
  have dl:=zzh r (m.getD (k/32) 0/2^(k%32)%2)
  have dv:=qof r (m.getD (k/32) 0/2^(k%32)%2)
  generalize hdb:dblL r (m.getD (k/32) 0/2^(k%32)%2)=db at*
  obtain ⟨c2,t2⟩:=zlu db c1 (by omega)
  have kc:=zbi dd
  have kv:=zci db
  have kl:=zjq db
  generalize zbc db=r1 at*
  rw [dv,hbit] at kv
  have t3:=zcmp r1 n c2 d (by omega) (by omega)
  rw [zfr kc cn] at t3
  have w3:IntKind.i64.wrap ((k:Int)-1)=(k:Int)-1:=w64 (by omega) (by omega)
  have q1:Int.tdiv (k:Int) 32=((k/32:Nat):Int):=rfl
  have q2:Int.tmod (k:Int) 32=((k%32:Nat):Int):=rfl
  have q3:IntKind.i64.wrap ((k/32:Nat):Int)=((k/32:Nat):Int):=w64 (by omega) (by omega)
  have q4:IntKind.i64.wrap ((k%32:Nat):Int)=((k%32:Nat):Int):=w64 (by omega) (by omega)
  simp only [r211_7,SS,fC,reduceCtorEq,reduceIte,qX,e0,e5,e8,q1,q2,q3,xQ,g1,zbj,shrN hs,and1 hb1]
  refine ⟨by omega,⟨by omega,by omega⟩,by omega,by omega,by omega,?_⟩
  refine zaa t1 ?_
  simp only [SS,reduceIte,qX]
  refine zaa t2 ?_
  simp only [SS,reduceIte,qX]
  simp only [r211_8,SS,reduceIte,qX,e1]
  refine zaa t3 ?_
  simp only [SS,reduceIte,qX]
  refine ⟨fun hc=>?_,fun hc=>?_⟩
  ·have hle:val n<=val r1:=by
    unfold sgn at hc
    split at hc
    ·omega
    ·split at hc<;>omega
   have hl2:=canon_len cn kc hle
   obtain ⟨c3,t4⟩:=zja r1 n c2 d (by omega) hl2 kc.1 cn.1
   obtain ⟨v1,v2,v3⟩:=znl r1 n kc.1 cn.1 hl2 hle r1.length 0 0 [] (by decide) rfl Dig.nil (by omega) (by simp [Limb.val])
   generalize difL r1 n r1.length 0 0 []=r2 at*
   obtain ⟨c4,t5⟩:=zlu r2 c3 (by omega)
   have mc:=zbi v2
   have mv:=zci r2
   generalize zbc r2=r3 at*
   have hD2:=hD.high (r2:=r3) (by omega) mc (by rw [<-kv];exact hle) (by rw [mv,v1,kv])
   have bq:=hD.dig.getD (k/32)
   have g2:=zcj qs (k/32) (by rw [hD.len];exact hw) AV.junk
   have hpl:2^(k%32)<4294967296:=by
    have:2^(k%32)<2^32:=xA (by decide) hs
    exact this
   have wo:=or32 bq hpl
   simp only [r211_9,SS,reduceIte,qX,e1]
   refine zaa t4 ?_
   simp only [SS,reduceIte,qX]
   refine zaa t5 ?_
   simp only [SS,reduceIte,qX]
   simp only [r211_10,SS,fC,reduceIte,qX,e4,e8,q1,q2,q3,xQ,g2,zbj,hD.len,shlN hs,wo,zri]
   refine ⟨by omega,⟨by omega,by omega⟩,by omega,by omega,by omega,⟨by omega,by omega⟩,by omega,rfl,?_⟩
   simp only [r211_11,SS,reduceIte,qX,e8,w3]
   refine ⟨k,_,_,by omega,⟨znw qs k,r3,c4,hD2,by omega,?_,?_,?_,?_,?_,rfl⟩,.refl⟩<;>simp only [UU,qX,reduceIte, *]
  ·have hle:val r1<val n:=by
    unfold sgn at hc
    split at hc
    ·assumption
    ·exfalso
     split at hc<;>omega
   have hD2:=hD.low (r2:=r1) kc kv hle
   simp only [r211_11,SS,reduceIte,qX,e8,w3]
   refine ⟨k,_,_,by omega,⟨qs,r1,c2,hD2,by omega,?_,?_,?_,?_,?_,rfl⟩,.refl⟩<;>simp only [UU,qX,reduceIte, *]
 ·have hk0:k=0:=by omega
  subst hk0
  exact hQ _ qs r cr hD (by simp only [UU,qX,e4]) (by simp only [UU,qX,e5])
theorem qva (m n:List Nat) (c d:Option Nat) (cm:zcc m) (cn:zcc n) (lm:m.length<=1100) (ln:n.length<=1100) (hn0:val n≠0):DivC m n c d:=by
 by_cases hsm:m.length<=2/\n.length<=2
 ·have p2:∀l:List Nat,Dig l->l.length<=2->val l<18446744073709551616:=by
   intro l hl h
   have h1:=zjp hl
   have h2:4294967296^l.length<=4294967296^2:=xP (by decide) h
   omega
  exact zrm m n c d cm cn (p2 m cm.1 hsm.1) (p2 n cn.1 hsm.2) hn0
 have dq:val m/val n<=val m:=yC _ _
 have dr:val m%val n<=val m:=Nat.mod_le _ _
 have lq:=canon_len (zbx (val m/val n)) cm (by rw [zcw];exact dq)
 have lr:=canon_len (zbx (val m%val n)) cm (by rw [zcw];exact dr)
 refine ⟨zcf (val m/val n),zcf (val m%val n),none,none,zbx _,zbx _,by omega,by omega,zcw _,zcw _,?_⟩
 have w1:IntKind.i64.wrap (32*(m.length:Int))=((32*m.length:Nat):Int):=wQ (by omega)
 have w2:IntKind.i64.wrap (((32*m.length:Nat):Int)-1)=((32*m.length:Nat):Int)-1:=w64 (by omega) (by omega)
 have hrep:List.replicate m.length (AV.int IntKind.u32 0)=u32s (List.replicate m.length 0):=by simp [u32s]
 refine oFw o211 ?_
 have fin:∀E' qs r cr,DivS m n 0 qs r->E' 4= .sl 0 0 m.length 1 (some m.length)->E' 5= .vec (u32s r) r.length cr->
   wG 0 75 (.seq (.reg r211_12 none) .ret) E' [some (u32s qs)] (fun x E' H'=>(x= .ret\/x= .normal)/\∃v' v'',resA Tryz.prog [(.tmp 4),(.tmp 5)] E' H'=some v'/\AL.Fin 0 v' H' v'' []/\v''.wk=(.tup [.vec (u32s (zcf (val m/val n))) (zcf (val m/val n)).length none,.vec (u32s (zcf (val m%val n))) (zcf (val m%val n)).length none])):=by
  intro E' qs r cr hD e4 e5
  obtain ⟨v1,v2⟩:=hD.done
  obtain ⟨c3,t1⟩:=zlu qs (some m.length) (by rw [hD.len];omega)
  have eq:zbc qs=zcf (val m/val n):=zhc (zbi hD.dig) (zbx _) (by rw [zci,v1,zcw])
  have er:r=zcf (val m%val n):=zhc hD.canon (zbx _) (by rw [v2,zcw])
  rw [eq] at t1
  subst er
  simp only [r211_12,SS,reduceCtorEq,reduceIte,e4]
  refine zha (id:=0) (cs:=u32s qs) (d:=2) (args0:=[.sl 0 0 m.length 1 (some m.length)]) (args':=[.vec (u32s qs) qs.length (some m.length)]) t1 rfl ?_ rfl ?_ rfl (znm _) rfl
  ·have:=qha (l:=qs) (n:=m.length) (c:=some m.length) hD.len.symm
   rw [List.mapM_cons,this]
   simp [hD.len]
  simp only [zaj,zad,List.replicate_zero,yD,SS,reduceIte,qX,e5]
  refine ⟨.inl trivial,_,_,rfl,.drop _ _ rfl (by intro i cs h;omega),?_⟩
  simp only [AV.wk,AV.wk.wkL,qhe,UU,qX,reduceIte]
 rcases qW 2 m.length with h2 | h2
 ·have d1:decide ((m.length:Int)<=2)=false:=decide_eq_false (by omega)
  simp only [c211,r211_0,r211_1,SS,fC,reduceCtorEq,reduceIte,qX,d1]
  simp only [r211_4,r211_5,SS,reduceCtorEq,reduceIte,qX,xQ,w1,w2,hrep]
  refine ⟨by omega,⟨by omega,by omega,by omega,by omega⟩,?_⟩
  refine zuh (c:=c) (d:=d) cm cn lm ln hn0 (by simp only [UU,qX]) (by simp only [UU,qX]) (by simp only [UU,qX,reduceIte]) (by simp only [UU,qX,reduceIte]) (by simp only [UU,qX,reduceIte]) ?_
  intro E' qs r cr hD f4 f5
  have:=fin E' qs r cr hD f4 f5
  simp only [SS,reduceCtorEq,reduceIte] at this ⊢
  exact this
 ·have d1:decide ((m.length:Int)<=2)=true:=decide_eq_true (by omega)
  have d2:decide ((n.length:Int)<=2)=false:=decide_eq_false (by omega)
  simp only [c211,r211_0,r211_1,SS,fC,reduceCtorEq,reduceIte,qX,d1,d2]
  simp only [r211_4,r211_5,SS,reduceCtorEq,reduceIte,qX,xQ,w1,w2,hrep]
  refine ⟨by omega,⟨by omega,by omega,by omega,by omega⟩,?_⟩
  refine zuh (c:=c) (d:=d) cm cn lm ln hn0 (by simp only [UU,qX]) (by simp only [UU,qX]) (by simp only [UU,qX,reduceIte]) (by simp only [UU,qX,reduceIte]) (by simp only [UU,qX,reduceIte]) ?_
  intro E' qs r cr hD f4 f5
  have:=fin E' qs r cr hD f4 f5
  simp only [SS,reduceCtorEq,reduceIte] at this ⊢
  exact this
theorem zdk:DivB BIG:=⟨qK _,fun x y _ _ h0 m n c d cm cn lm ln _ hn=>qva m n c d cm cn lm ln (by omega)⟩
theorem qvb {x y:Int} {a b:AV} (ha:zat x a) (hb:zat y b) (hy:y≠0):∃v,zat (x/y) v/\Rt 151 [a,b] [] v []:=
 zQuo ha hb hy (zdk.2 x y ha.fits hb.fits hy) (qR (qN x y) ha.fits)
theorem zRem {x y:Int} {a b:AV} (ha:zat x a) (hb:zat y b) (hy:y≠0):∃v,zat (x%y) v/\Rt 197 [a,b] [] v []:=by
 obtain ⟨v,w,hv,hw,t⟩:=qhb ha hb hy (zdk.2 x y ha.fits hb.fits hy) (qR (qN x y) ha.fits)
 obtain ⟨l,ca,_,_,_,rfl⟩:=ha
 obtain ⟨n,cb,_,_,_,rfl⟩:=hb
 have hw0:=hw
 obtain ⟨lv,cv,_,_,_,rfl⟩:=hv
 obtain ⟨lw,cw,_,_,_,rfl⟩:=hw
 refine ⟨_,hw0,?_⟩
 refine oF o197 ?_
 simp only [c197,r197_0,r197_1,SS,reduceCtorEq,reduceIte,qO,qX,qG]
 refine zaa t ?_
 simp only [SS,reduceIte,qO,qX,qG,List.getElem?_cons_zero,List.getElem?_cons_succ]
 simp only [r197_2,SS,reduceIte,qO,qX,qG]
 exact ⟨.inl trivial,_,rfl,.drop _ _ rfl (by intro i cs h;omega)⟩
theorem zGcd {x y:Int} {a b:AV} (ha:zat x a) (hb:zat y b):Rt 150 [a,b] [] (intV (Int.gcd x y:Int)) []:=by
 obtain ⟨va,hva,t1⟩:=zAbs ha
 obtain ⟨vb,hvb,t2⟩:=zAbs hb
 obtain ⟨l,ca,_,_,_,rfl⟩:=ha
 obtain ⟨n,cb,_,_,_,rfl⟩:=hb
 obtain ⟨la,da,_,_,_,hea⟩:=id hva
 obtain ⟨lb,db,_,_,_,heb⟩:=id hvb
 subst hea heb
 refine oFw o150 ?_
 simp only [c150,r150_0,r150_1,SS,reduceCtorEq,reduceIte,qO,qX,qG]
 refine zaa t1 ?_
 simp only [SS,reduceIte,qO,qX,qG]
 refine zaa t2 ?_
 simp only [SS,reduceIte,qO,qX,qG]
 refine ⟨rfl,?_⟩
 refine zai (fun k E H=>∃(p q:Nat) (u1 v1 u2 v2:AV),q=k/\Nat.gcd p q=Int.gcd x y/\zat (p:Int) (.agg [u1,v1])/\zat (q:Int) (.agg [u2,v2])/\E 4= .ptr 2 0/\E 5= .ptr 3 0/\E 6= .ptr 4 0/\
  H=[some [.bool (decide (x<0)),.vec (u32s l) l.length ca],some [.bool (decide (y<0)),.vec (u32s n) n.length cb],some [.bool false,.vec [] 0 (some 0)],some [u1,v1],some [u2,v2]]) (n:=y.natAbs)
  ⟨x.natAbs,y.natAbs,_,_,_,_,rfl,rfl,hva,hvb,by simp only [UU,qX,reduceIte],by simp only [UU,qX,reduceIte],by simp only [UU,qX,reduceIte],rfl⟩ ?_
 rintro k E H ⟨p,q,u1,v1,u2,v2,rfl,hg,h1,h2,e4,e5,e6,rfl⟩
 refine wM ?_
 have t3:=ztv h2
 obtain ⟨l1,c1,x1,y1⟩:=zam h1
 obtain ⟨l2,c2,x2,y2⟩:=zam h2
 subst x1 y1 x2 y2
 simp only [l150_0,r150_2,SS,reduceCtorEq,reduceIte,qO,qX,qG,e6]
 refine zaa t3 ?_
 simp only [SS,reduceIte,qX]
 refine ⟨fun hne=>?_,fun heq=>?_⟩
 ·have hq:(q:Int)≠0:=by
   intro e
   rw [e] at hne
   exact hne rfl
  obtain ⟨w,hw,t4⟩:=zRem h1 h2 hq
  obtain ⟨lw,cw,_,_,_,rfl⟩:=id hw
  have em:((p:Int)%(q:Int))=((p%q:Nat):Int):=by omega
  rw [em] at hw
  have hlt:p%q<q:=xY _ (by omega)
  simp only [r150_3,SS,reduceIte,qO,qX,qG,e5,e6]
  refine zaa t4 ?_
  simp only [SS,reduceIte,qO,qX,qG,e5,e6]
  refine ⟨rfl,?_⟩
  refine ⟨p%q,_,_,hlt,⟨q,p%q,_,_,_,_,rfl,?_,h2,hw,?_,?_,?_,?_⟩,.refl⟩
  ·rw [<-hg,Nat.gcd_comm p q,Nat.gcd_rec q p,Nat.gcd_comm]
  ·simp only [UU,qX,e4]
  ·simp only [UU,qX,e5]
  ·simp only [UU,qX,e6]
  ·rw [em]
 ·have hq:q=0:=by
   have h0:((q:Nat):Int).sign=0:=Decidable.not_not.1 heq
   have:=Int.sign_eq_zero_iff_zero.1 h0
   omega
  subst hq
  rw [Nat.gcd_zero_right] at hg
  rw [hg] at h1
  simp only [r150_4,SS,reduceIte,qO,qX,qG,e4,e5]
  exact ⟨.inl trivial,_,_,zep (id:=2) (by simp only [UU,qX,e4]) rfl,.drop _ _ rfl (by intro i cs h;omega),h1.wk⟩
end Go.Proofs.YtpflahgcdgdkjaaGreatDoor
namespace Go.Det
open Int renaming mul_le_mul_of_nonneg_left -> qQ, mul_le_mul_of_nonneg_right -> qJ, mul_nonneg -> qV, le_of_mul_le_mul_left -> qY, eq_of_mul_eq_mul_left -> qA, toNat_natCast -> xQ, mul_assoc -> xU
open Nat renaming le_refl -> qK, lt_or_ge -> qW, mul_le_mul_left -> qP, lt_of_le_of_lt -> qR, le_trans -> xJ, pow_le_pow_left -> xD, pow_succ -> xI, sub_self -> xL, pow_add -> xO, lt_irrefl -> yQ, lt_of_not_le -> yV, mul_pow -> yA
open List renaming getD_eq_getElem?_getD -> qZ, append_assoc -> qC, nil_append -> qE, cons_append -> qH, getElem?_append_right -> qI, length_append -> qS, length_cons -> xH, length_singleton -> xN, append_nil -> yD
abbrev Row:=Nat->Int
def sg:Nat->Int
 | 0=>1
 | n+1=> -sg n
def zbu (f:List Row->Int) (c:Nat):List Row->List Row->Int
 | _,[]=>0
 | pre,v::L=>sg L.length*(v c*f (pre++L))+zbu f c (pre++[v]) L
def det:List Nat->List Row->Int
 | [],[]=>1
 | [],_::_=>0
 | c::cs,R=>zbu (det cs) c [] R
def Lin (f:List Row->Int):Prop:= ∀(L1 L2:List Row) (a b:Int) (x y:Row),f (L1++(fun j=>a*x j+b*y j)::L2)=a*f (L1++x::L2)+b*f (L1++y::L2)
def Alt (f:List Row->Int):Prop:= ∀(L1 L2:List Row) (v:Row),f (L1++v::v::L2)=0
theorem qcq {f:List Row->Int} (hf:Lin f) (c:Nat) (a b:Int) (x y:Row):∀(L p1 p2:List Row),zbu f c (p1++(fun j=>a*x j+b*y j)::p2) L=a*zbu f c (p1++x::p2) L+b*zbu f c (p1++y::p2) L:=by
 intro L
 induction L with
 | nil=>intro p1 p2;simp [zbu]
 | cons v L ih=>
  intro p1 p2
  simp only [zbu,qC,qH]
  rw [hf p1 (p2++L) a b x y,ih p1 (p2++[v])]
  grind
theorem qcr {f:List Row->Int} (hf:Lin f) (c:Nat) (a b:Int) (x y:Row) (L2:List Row):∀(L1 pre:List Row),zbu f c pre (L1++(fun j=>a*x j+b*y j)::L2)=a*zbu f c pre (L1++x::L2)+b*zbu f c pre (L1++y::L2):=by
 intro L1
 induction L1 with
 | nil=>
  intro pre
  simp only [qE,zbu]
  rw [qcq hf c a b x y L2 pre []]
  grind
 | cons w L1 ih=>
  intro pre
  simp only [qH,zbu,qS,xH]
  have:=hf (pre++L1) L2 a b x y
  simp only [qC] at this
  rw [this,ih]
  grind
theorem qhs:∀cs,Lin (det cs):=by
 intro cs
 induction cs with
 | nil=>
  intro L1 L2 a b x y
  have e:∀v:Row,det [] (L1++v::L2)=0:=by intro v;cases L1<;>rfl
  rw [e,e,e];simp
 | cons c cs ih=>intro L1 L2 a b x y;exact qcr ih c a b x y L2 L1 []
theorem zwy {f:List Row->Int} (hf:Alt f) (c:Nat) (v:Row):∀(L p1 p2:List Row),zbu f c (p1++v::v::p2) L=0:=by
 intro L
 induction L with
 | nil=>intro p1 p2;rfl
 | cons w L ih=>
  intro p1 p2
  simp only [zbu,qC,qH]
  rw [hf p1 (p2++L) v,ih p1 (p2++[w])]
  simp
theorem qcs {f:List Row->Int} (hf:Alt f) (c:Nat) (v:Row) (L2:List Row):∀(L1 pre:List Row),zbu f c pre (L1++v::v::L2)=0:=by
 intro L1
 induction L1 with
 | nil=>
  intro pre
  simp only [qE,zbu,xH]
  have:=zwy hf c v L2 pre []
  simp only [qC,qH,qE] at this ⊢
  rw [this]
  simp only [sg]
  grind
 | cons w L1 ih=>
  intro pre
  simp only [qH,zbu]
  have:=hf (pre++L1) L2 v
  simp only [qC] at this
  rw [this,ih]
  simp
theorem qht:∀cs,Alt (det cs):=by
 intro cs
 induction cs with
 | nil=>intro L1 L2 v;cases L1<;>rfl
 | cons c cs ih=>intro L1 L2 v;exact qcs ih c v L2 L1 []
theorem swap {f:List Row->Int} (hl:Lin f) (ha:Alt f) (L1 L2:List Row) (x y:Row):f (L1++x::y::L2)= -f (L1++y::x::L2):=by
 have h:=ha L1 L2 (fun j=>1*x j+1*y j)
 rw [hl L1 ((fun j=>1*x j+1*y j)::L2) 1 1 x y] at h
 have h1:=hl (L1++[x]) L2 1 1 x y
 have h2:=hl (L1++[y]) L2 1 1 x y
 simp only [qC,qH,qE] at h1 h2
 rw [h1,h2,ha L1 L2 x,ha L1 L2 y] at h
 omega
theorem qvc {f:List Row->Int} (hl:Lin f) (ha:Alt f) (v:Row):∀(M L1 L2:List Row),f (L1++v::(M++v::L2))=0:=by
 intro M
 induction M with
 | nil=>intro L1 L2;exact ha L1 L2 v
 | cons w M ih=>
  intro L1 L2
  rw [qH,swap hl ha L1 (M++v::L2) v w]
  have:=ih (L1++[w]) L2
  simp only [qC,qH,qE] at this
  rw [this];simp
theorem zzl {f:List Row->Int} (hl:Lin f) (ha:Alt f) {v:Row} {L1 L2:List Row} (hv:v∈L1):f (L1++v::L2)=0:=by
 obtain ⟨A,B,rfl⟩:=List.append_of_mem hv
 have:=qvc hl ha v B A L2
 simpa using this
theorem qoi {f:List Row->Int} (hl:Lin f) (L1 L2:List Row):f (L1++(fun _=>0)::L2)=0:=by
 have:=hl L1 L2 0 0 (fun _=>0) (fun _=>0)
 simpa using this
def comb (c:Nat->Int) (r:Nat->Row):Nat->Row
 | 0=>fun _=>0
 | m+1=>fun j=>1*comb c r m j+c m*r m j
theorem zzm {f:List Row->Int} (hl:Lin f) (ha:Alt f) (c:Nat->Int) (r:Nat->Row) {L1 L2:List Row}:∀m,(∀l,l<m->r l∈L1)->f (L1++comb c r m::L2)=0:=by
 intro m
 induction m with
 | zero=>intro _;exact qoi hl L1 L2
 | succ m ih=>
  intro h
  show f (L1++(fun j=>1*comb c r m j+c m*r m j)::L2)=0
  rw [hl,ih (fun l hl=>h l (by omega)),zzl hl ha (h m (by omega))]
  simp
def zct (r:Nat->Row) (k:Nat):List Row:=(List.range k).map r
def zdw:Nat->List Nat
 | 0=>[]
 | k+1=>k::zdw k
theorem zpp (r:Nat->Row) (k:Nat):zct r (k+1)=zct r k++[r k]:=by simp [zct,List.range_succ]
def lead (r:Nat->Row) (k:Nat):Int:=det (zdw k) (zct r k)
def bord (r:Nat->Row) (k:Nat) (v:Row):Row:=fun j=>det (j::zdw k) (zct r k++[v])
theorem qhu (r:Nat->Row) (k:Nat):lead r (k+1)=bord r k (r k) k:=by
 unfold lead bord
 rw [zpp];rfl
def cof (f:List Row->Int) (pre L:List Row) (v:Row) (l:Nat):Int:= -(sg (L.length-l)*f (pre++(L.eraseIdx l++[v])))
def sumR (g:Nat->Int):Nat->Int
 | 0=>0
 | n+1=>sumR g n+g n
theorem zas {g h:Nat->Int} {n:Nat} (e:∀i,i<n->g i=h i):sumR g n=sumR h n:=by
 induction n with
 | zero=>rfl
 | succ n ih=>simp only [sumR];rw [ih (fun i hi=>e i (by omega)),e n (by omega)]
theorem zez {g:Nat->Int} {n:Nat} (e:∀i,i<n->g i=0):sumR g n=0:=by
 induction n with
 | zero=>rfl
 | succ n ih=>simp only [sumR];rw [ih (fun i hi=>e i (by omega)),e n (by omega)];rfl
theorem qct (g:Nat->Int) (n:Nat):sumR g (n+1)=g 0+sumR (fun i=>g (i+1)) n:=by
 induction n with
 | zero=>simp [sumR]
 | succ n ih=>rw [sumR,ih];simp only [sumR];omega
theorem zgk (f:List Row->Int) (j:Nat) (v:Row):∀(L pre:List Row),zbu f j pre (L++[v])=v j*f (pre++L)-sumR (fun l=>cof f pre L v l*(L.getD l (fun _=>0)) j) L.length:=by
 intro L
 induction L with
 | nil=>intro pre;simp [zbu,sg,sumR]
 | cons w L ih=>
  intro pre
  simp only [qH,zbu,qS,xH,List.length_nil,Nat.zero_add]
  rw [ih (pre++[w]),qct]
  have e:sumR (fun i=>cof f pre (w::L) v (i+1)*((w::L).getD (i+1) (fun _=>0)) j) L.length=sumR (fun l=>cof f (pre++[w]) L v l*(L.getD l (fun _=>0)) j) L.length:=by
   refine zas fun i _=>?_
   simp [cof]
  have e0:cof f pre (w::L) v 0= -(sg (L.length+1)*f (pre++(L++[v]))):=by simp [cof]
  rw [e,e0]
  simp only [List.getD_cons_zero,qC,qH,qE]
  grind
theorem qoj (c:Nat->Int) (r:Nat->Row) (j:Nat):∀m,comb c r m j=sumR (fun l=>c l*r l j) m:=by
 intro m
 induction m with
 | zero=>rfl
 | succ m ih=>simp only [comb,sumR,ih];omega
theorem zbr (r:Nat->Row) (k:Nat):(zct r k).length=k:=by simp [zct]
theorem zhf (r:Nat->Row) {k l:Nat} (h:l<k):(zct r k).getD l (fun _=>0)=r l:=by
 rw [qZ]
 simp [zct,h]
theorem qhv (r:Nat->Row) (k:Nat) (v:Row):bord r k v=fun j=>lead r k*v j+(-1)*comb (cof (det (zdw k)) [] (zct r k) v) r k j:=by
 funext j
 show zbu (det (zdw k)) j [] (zct r k++[v])=_
 rw [zgk,qoj,zbr]
 have e:sumR (fun l=>cof (det (zdw k)) [] (zct r k) v l*((zct r k).getD l (fun _=>0)) j) k=sumR (fun l=>cof (det (zdw k)) [] (zct r k) v l*r l j) k:=
  zas fun l hl=>by rw [zhf r hl]
 rw [e]
 unfold lead
 simp only [qE]
 grind
theorem qok {u:Row}:∀(cs:List Nat),(∀c∈cs,u c=0)->∀L1 L2,det cs (L1++u::L2)=0:=by
 intro cs
 induction cs with
 | nil=>intro _ L1 L2;cases L1<;>rfl
 | cons c cs ih=>
  intro h L1 L2
  have hf:=ih (fun x hx=>h x (by simp [hx]))
  have hc:=h c (by simp)
  have pre:∀(L p1 p2:List Row),zbu (det cs) c (p1++u::p2) L=0:=by
   intro L
   induction L with
   | nil=>intro p1 p2;rfl
   | cons w L ihL=>
    intro p1 p2
    simp only [zbu,qC,qH]
    rw [hf p1 (p2++L),ihL p1 (p2++[w])];simp
  have main:∀(L1 p:List Row),zbu (det cs) c p (L1++u::L2)=0:=by
   intro L1
   induction L1 with
   | nil=>
    intro p
    simp only [qE,zbu]
    rw [hc,pre L2 p []];simp
   | cons w L1 ihL=>
    intro p
    simp only [qH,zbu]
    have:=hf (p++L1) L2
    simp only [qC] at this
    rw [this,ihL];simp
  exact main L1 []
theorem znx {c:Nat}:∀{k:Nat},c∈zdw k->c<k:=by
 intro k
 induction k with
 | zero=>intro h;simp [zdw] at h
 | succ k ih=>
  intro h
  rcases List.mem_cons.1 h with e | e
  ·omega
  ·have:=ih e;omega
theorem zui {r:Nat->Row} {k:Nat} (hz:∀v c,c<k->bord r k v c=0) (v:Row) (j:Nat):
  lead r k*lead r k*bord r (k+1) v j=lead r k*(bord r k (r k) k*bord r k v j-bord r k v k*bord r k (r k) j):=by
 have hu0:∀w c,c∈zdw k->bord r k w c=0:=fun w c hc=>hz w c (znx hc)
 have G0:∀w L1 L2,det (zdw k) (L1++bord r k w::L2)=0:=fun w L1 L2=>qok (zdw k) (hu0 w) L1 L2
 have F1:∀w,det (k::zdw k) (zct r k++[bord r k w])=bord r k w k*lead r k:=by
  intro w
  show zbu (det (zdw k)) k [] (zct r k++[bord r k w])=_
  rw [zgk]
  have:sumR (fun l=>cof (det (zdw k)) [] (zct r k) (bord r k w) l*((zct r k).getD l (fun _=>0)) k) (zct r k).length=0:=
   zez fun l _=>by
    unfold cof
    have:=G0 w ((zct r k).eraseIdx l) []
    simp only [qE]
    rw [this];simp
  rw [this]
  unfold lead
  simp
 have F2:∀R w w',det (k::zdw k) ((R++[bord r k w])++[bord r k w'])=0:=by
  intro R w w'
  show zbu (det (zdw k)) k [] ((R++[bord r k w])++[bord r k w'])=_
  rw [zgk]
  have:sumR (fun l=>cof (det (zdw k)) [] (R++[bord r k w]) (bord r k w') l*((R++[bord r k w]).getD l (fun _=>0)) k) (R++[bord r k w]).length=0:=
   zez fun l _=>by
    unfold cof
    have:=G0 w' ((R++[bord r k w]).eraseIdx l) []
    simp only [qE]
    rw [this];simp
  rw [this,qE,G0 w R []]
  simp
 have X1:det (j::k::zdw k) ((zct r k++[bord r k (r k)])++[bord r k v])=lead r k*(bord r k (r k) k*bord r k v j-bord r k v k*bord r k (r k) j):=by
  show zbu (det (k::zdw k)) j [] ((zct r k++[bord r k (r k)])++[bord r k v])=_
  rw [zgk,qE,F1,qS,xN,zbr]
  simp only [sumR]
  have h0:sumR (fun l=>cof (det (k::zdw k)) [] (zct r k++[bord r k (r k)]) (bord r k v) l*((zct r k++[bord r k (r k)]).getD l (fun _=>0)) j) k=0:=
   zez fun l hl=>by
    unfold cof
    rw [qE,List.eraseIdx_append_of_lt_length (by rw [zbr];exact hl),F2];simp
  have h1:cof (det (k::zdw k)) [] (zct r k++[bord r k (r k)]) (bord r k v) k=bord r k v k*lead r k:=by
   unfold cof
   rw [qE,List.eraseIdx_append_of_length_le (by rw [zbr];exact qK _),zbr,xL,qS,zbr]
   simp only [List.eraseIdx_zero,List.tail_cons,yD,xN,Nat.add_sub_cancel_left,sg]
   rw [F1];grind
  have h2:(zct r k++[bord r k (r k)]).getD k (fun _=>0)=bord r k (r k):=by
   rw [qZ,qI (by rw [zbr];exact qK _),zbr,xL];rfl
  rw [h0,h1,h2]
  grind
 have hl:=qhs (j::k::zdw k)
 have ha:=qht (j::k::zdw k)
 have hm:∀l,l<k->r l∈zct r k:=fun l h=>by simp only [zct,List.mem_map,List.mem_range];exact ⟨l,h,rfl⟩
 have X2:det (j::k::zdw k) ((zct r k++[bord r k (r k)])++[bord r k v])=lead r k*(lead r k*bord r (k+1) v j):=by
  rw [qhv r k v]
  rw [hl (zct r k++[bord r k (r k)]) [] (lead r k) (-1) v (comb (cof (det (zdw k)) [] (zct r k) v) r k)]
  rw [zzm hl ha _ r (L1:=zct r k++[bord r k (r k)]) (L2:=[]) k (fun l h=>by simp [hm l h])]
  rw [qC,qhv r k (r k)]
  show lead r k*det (j::k::zdw k) (zct r k++(fun j=>lead r k*(r k) j+(-1)*comb (cof (det (zdw k)) [] (zct r k) (r k)) r k j)::[v])+_=_
  rw [hl (zct r k) [v] (lead r k) (-1) (r k) (comb (cof (det (zdw k)) [] (zct r k) (r k)) r k)]
  rw [zzm hl ha _ r (L1:=zct r k) (L2:=[v]) k hm]
  have:bord r (k+1) v j=det (j::k::zdw k) (zct r k++r k::[v]):=by
   unfold bord
   rw [zpp,qC];rfl
  rw [this]
  grind
 rw [X1] at X2
 grind
theorem zzn {r:Nat->Row}:∀(k:Nat),(∀i,i<=k->lead r i≠0)->(∀v c,c<k->bord r k v c=0)/\∀v j,lead r k*bord r (k+1) v j=bord r k (r k) k*bord r k v j-bord r k v k*bord r k (r k) j:=by
 have canc:∀{a x y:Int},a≠0->a*a*x=a*y->a*x=y:=by
  intro a x y ha h
  rw [xU] at h
  exact qA ha h
 intro k
 induction k with
 | zero=>intro h;exact ⟨fun v c hc=>absurd hc (by omega),fun v j=>canc (h 0 (by omega)) (zui (fun v c hc=>absurd hc (by omega)) v j)⟩
 | succ k ih=>
  intro h
  obtain ⟨h1,h2⟩:=ih (fun i hi=>h i (by omega))
  have hz:∀v c,c<k+1->bord r (k+1) v c=0:=by
   intro v c hc
   have e:=h2 v c
   have:lead r k*bord r (k+1) v c=0:=by
    rw [e]
    rcases qW c k with hlt | hge
    ·rw [h1 v c hlt,h1 (r k) c hlt];simp
    ·have:c=k:=by omega
     subst this
     grind
   rcases Int.mul_eq_zero.1 this with h0 | h0
   ·exact absurd h0 (h k (by omega))
   ·exact h0
  exact ⟨hz,fun v j=>canc (h (k+1) (by omega)) (zui hz v j)⟩
def stg (a:Nat->Row) (k i j:Nat):Int:=bord a k (a i) j
theorem zdl (a:Nat->Row) (i j:Nat):stg a 0 i j=a i j:=by
 show zbu (det []) j [] [a i]=_
 simp [zbu,sg,det]
theorem zax (a:Nat->Row):lead a 0=1:=rfl
theorem zaw (a:Nat->Row) (k:Nat):lead a (k+1)=stg a k k k:=qhu a k
theorem zbp {a:Nat->Row} {k:Nat} (h:∀i,i<=k->lead a i≠0) (i j:Nat):lead a k*stg a (k+1) i j=lead a (k+1)*stg a k i j-stg a k i k*stg a k k j:=by
 rw [zaw];exact (zzn k h).2 (a i) j
theorem zrw {a:Nat->Row} {k:Nat} (h:∀i,i<=k->lead a i≠0) (i c:Nat) (hc:c<k):stg a k i c=0:=(zzn k h).1 (a i) c hc
theorem zgl {a:Nat->Row} {n:Nat} (hs:∀i j,i<n->j<n->a i j=a j i):∀k,k<n->(∀i,i<=k->lead a i≠0)->∀i j,i<n->j<n->k<=i->k<=j->stg a k i j=stg a k j i:=by
 intro k
 induction k with
 | zero=>intro _ _ i j hi hj _ _;rw [zdl,zdl];exact hs i j hi hj
 | succ k ih=>
  intro hk h i j hi hj h1 h2
  have h':∀i,i<=k->lead a i≠0:=fun i hi=>h i (by omega)
  have e1:=zbp h' i j
  have e2:=zbp h' j i
  have s1:=ih (by omega) h' i j hi hj (by omega) (by omega)
  have s2:=ih (by omega) h' i k hi (by omega) (by omega) (by omega)
  have s3:=ih (by omega) h' k j (by omega) hj (by omega) (by omega)
  refine qA (h' k (by omega)) ?_
  rw [e1,e2,s1,s2,s3]
  grind
theorem qza {x d:Int} (h1:x<=d) (h2: -d<=x):x*x<=d*d:=by
 have h:=qV (show 0<=d-x by omega) (show 0<=d+x by omega)
 have e:(d-x)*(d+x)=d*d-x*x:=by grind
 omega
theorem zny {x y a b:Int} (h1:x<=a) (h2: -a<=x) (h3:y<=b) (h4: -b<=y):x*y<=a*b/\ -(a*b)<=x*y:=by
 have ha:0<=a:=by omega
 have p1:=qV (show 0<=a-x by omega) (show 0<=b+y by omega)
 have p2:=qV (show 0<=a+x by omega) (show 0<=b-y by omega)
 have p3:=qV (show 0<=a-x by omega) (show 0<=b-y by omega)
 have p4:=qV (show 0<=a+x by omega) (show 0<=b+y by omega)
 have e1:(a-x)*(b+y)+(a+x)*(b-y)=2*(a*b)-2*(x*y):=by grind
 have e2:(a-x)*(b-y)+(a+x)*(b+y)=2*(a*b)+2*(x*y):=by grind
 omega
structure Red (n:Nat) (a:Nat->Row):Prop where
 n1:1<=n
 n8:n<=8
 sym:∀i j,i<n->j<n->a i j=a j i
 pos:∀k,k<n->0<lead a (k+1)
 small:lead a n<=10000
 sized:∀i j,i<n->j<i->2*stg a j i j<=lead a (j+1)/\ -(2*stg a j i j)<=lead a (j+1)
 lov:∀i,0<i->i<n->3*(lead a i*lead a i)<=4*(lead a (i-1)*lead a (i+1)+stg a (i-1) i (i-1)*stg a (i-1) i (i-1))
theorem Red.pos' {n:Nat} {a:Nat->Row} (h:Red n a):∀k,k<=n->0<lead a k:=by
 intro k hk
 cases k with
 | zero=>rw [zax];decide
 | succ k=>exact h.pos k (by omega)
theorem Red.ne {n:Nat} {a:Nat->Row} (h:Red n a) {k:Nat} (hk:k<=n):∀i,i<=k->lead a i≠0:=fun i hi=>by have:=h.pos' i (by omega);omega
theorem Red.conv {n:Nat} {a:Nat->Row} (h:Red n a) {i:Nat} (h0:0<i) (hi:i<n):lead a i*lead a i<=2*(lead a (i-1)*lead a (i+1)):=by
 obtain ⟨s1,s2⟩:=h.sized i (i-1) hi (by omega)
 have e:i-1+1=i:=by omega
 rw [e] at s1 s2
 have l:=h.lov i h0 hi
 have q:=qza s1 (by omega)
 have e2:2*stg a (i-1) i (i-1)*(2*stg a (i-1) i (i-1))=4*(stg a (i-1) i (i-1)*stg a (i-1) i (i-1)):=by grind
 omega
theorem Red.pow {n:Nat} {a:Nat->Row} (h:Red n a):∀k,k<n->(lead a k).toNat^(k+1)<=2^(k*(k+1)/2)*(lead a (k+1)).toNat^k:=by
 intro k
 induction k with
 | zero=>intro _;rw [zax];simp
 | succ k ih=>
  intro hk
  have c:=h.conv (i:=k+1) (by omega) hk
  have p0:=h.pos' k (by omega)
  have p1:=h.pos' (k+1) (by omega)
  have p2:=h.pos' (k+1+1) (by omega)
  have e0:k+1-1=k:=by omega
  rw [e0] at c
  obtain ⟨x,hx⟩:∃x:Nat,lead a k=x:=⟨(lead a k).toNat,by omega⟩
  obtain ⟨y,hy⟩:∃x:Nat,lead a (k+1)=x:=⟨(lead a (k+1)).toNat,by omega⟩
  obtain ⟨z,hz⟩:∃x:Nat,lead a (k+1+1)=x:=⟨(lead a (k+1+1)).toNat,by omega⟩
  have ih:=ih (by omega)
  rw [hx,hy] at ih
  rw [hx,hy,hz] at c
  rw [hy,hz]
  simp only [xQ] at ih ⊢
  have c':y*y<=2*(x*z):=by
   have:((y*y:Nat):Int)<=((2*(x*z):Nat):Int):=by simpa using c
   omega
  have hy0:0<y:=by omega
  have q1:(y*y)^(k+1)<=(2*(x*z))^(k+1):=xD c' _
  rw [yA,yA,yA] at q1
  have q2:2^(k+1)*(x^(k+1)*z^(k+1))<=2^(k+1)*((2^(k*(k+1)/2)*y^k)*z^(k+1)):=qP _ (Nat.mul_le_mul_right _ ih)
  have q3:=xJ q1 q2
  have ee:(k+1)*(k+1+1)/2=k*(k+1)/2+(k+1):=by
   have:(k+1)*(k+1+1)=k*(k+1)+(k+1)*2:=by grind
   rw [this,Nat.add_mul_div_right _ _ (by decide)]
  rw [ee,xO 2]
  have e1:y^(k+1)*y^(k+1)=y^k*y^(k+1+1):=by rw [xI y (k+1),xI y k];grind
  have e2:2^(k+1)*((2^(k*(k+1)/2)*y^k)*z^(k+1))=y^k*(2^(k*(k+1)/2)*2^(k+1)*z^(k+1)):=by grind
  rw [e1,e2] at q3
  exact Nat.le_of_mul_le_mul_left q3 (Nat.pow_pos hy0)
theorem Red.step {n:Nat} {a:Nat->Row} (h:Red n a) {k X Y:Nat} (hk:k<n) (hY:lead a (k+1)<=Y) (hX:2^(k*(k+1)/2)*Y^k<(X+1)^(k+1)):lead a k<=X:=by
 have p:=h.pow k hk
 have p0:=h.pos' k (by omega)
 have p1:=h.pos' (k+1) (by omega)
 have h1:(lead a (k+1)).toNat<=Y:=by omega
 have h2:(lead a k).toNat^(k+1)<(X+1)^(k+1):=qR (xJ p (qP _ (xD h1 _))) hX
 have h3:(lead a k).toNat<X+1:=yV fun h4=>yQ _ (Nat.lt_of_lt_of_le h2 (xD h4 _))
 omega
theorem Red.bnd1 {a:Nat->Row} (h:Red 1 a):∀k,k<1->lead a k<=65535:=by
 have b1:lead a 1<=(10000:Nat):=h.small
 have b0:lead a 0<=(1:Nat):=by rw [zax];decide
 intro k hk
 match k,hk with
 | 0,_=>omega
 | k+1,hk=>exact absurd hk (by omega)
theorem Red.bnd2 {a:Nat->Row} (h:Red 2 a):∀k,k<2->lead a k<=65535:=by
 have b2:lead a 2<=(10000:Nat):=h.small
 have b1:lead a 1<=(141:Nat):=h.step (k:=1) (X:=141) (Y:=10000) (by decide) b2 (by decide)
 have b0:lead a 0<=(1:Nat):=by rw [zax];decide
 intro k hk
 match k,hk with
 | 0,_=>omega
 | 1,_=>omega
 | k+2,hk=>exact absurd hk (by omega)
theorem Red.bnd3 {a:Nat->Row} (h:Red 3 a):∀k,k<3->lead a k<=65535:=by
 have b3:lead a 3<=(10000:Nat):=h.small
 have b2:lead a 2<=(928:Nat):=h.step (k:=2) (X:=928) (Y:=10000) (by decide) b3 (by decide)
 have b1:lead a 1<=(43:Nat):=h.step (k:=1) (X:=43) (Y:=928) (by decide) b2 (by decide)
 have b0:lead a 0<=(1:Nat):=by rw [zax];decide
 intro k hk
 match k,hk with
 | 0,_=>omega
 | 1,_=>omega
 | 2,_=>omega
 | k+3,hk=>exact absurd hk (by omega)
theorem Red.bnd4 {a:Nat->Row} (h:Red 4 a):∀k,k<4->lead a k<=65535:=by
 have b4:lead a 4<=(10000:Nat):=h.small
 have b3:lead a 3<=(2828:Nat):=h.step (k:=3) (X:=2828) (Y:=10000) (by decide) b4 (by decide)
 have b2:lead a 2<=(399:Nat):=h.step (k:=2) (X:=399) (Y:=2828) (by decide) b3 (by decide)
 have b1:lead a 1<=(28:Nat):=h.step (k:=1) (X:=28) (Y:=399) (by decide) b2 (by decide)
 have b0:lead a 0<=(1:Nat):=by rw [zax];decide
 intro k hk
 match k,hk with
 | 0,_=>omega
 | 1,_=>omega
 | 2,_=>omega
 | 3,_=>omega
 | k+4,hk=>exact absurd hk (by omega)
theorem Red.bnd5 {a:Nat->Row} (h:Red 5 a):∀k,k<5->lead a k<=65535:=by
 have b5:lead a 5<=(10000:Nat):=h.small
 have b4:lead a 4<=(6339:Nat):=h.step (k:=4) (X:=6339) (Y:=10000) (by decide) b5 (by decide)
 have b3:lead a 3<=(2009:Nat):=h.step (k:=3) (X:=2009) (Y:=6339) (by decide) b4 (by decide)
 have b2:lead a 2<=(318:Nat):=h.step (k:=2) (X:=318) (Y:=2009) (by decide) b3 (by decide)
 have b1:lead a 1<=(25:Nat):=h.step (k:=1) (X:=25) (Y:=318) (by decide) b2 (by decide)
 have b0:lead a 0<=(1:Nat):=by rw [zax];decide
 intro k hk
 match k,hk with
 | 0,_=>omega
 | 1,_=>omega
 | 2,_=>omega
 | 3,_=>omega
 | 4,_=>omega
 | k+5,hk=>exact absurd hk (by omega)
theorem Red.bnd6 {a:Nat->Row} (h:Red 6 a):∀k,k<6->lead a k<=65535:=by
 have b6:lead a 6<=(10000:Nat):=h.small
 have b5:lead a 5<=(12187:Nat):=h.step (k:=5) (X:=12187) (Y:=10000) (by decide) b6 (by decide)
 have b4:lead a 4<=(7426:Nat):=h.step (k:=4) (X:=7426) (Y:=12187) (by decide) b5 (by decide)
 have b3:lead a 3<=(2262:Nat):=h.step (k:=3) (X:=2262) (Y:=7426) (by decide) b4 (by decide)
 have b2:lead a 2<=(344:Nat):=h.step (k:=2) (X:=344) (Y:=2262) (by decide) b3 (by decide)
 have b1:lead a 1<=(26:Nat):=h.step (k:=1) (X:=26) (Y:=344) (by decide) b2 (by decide)
 have b0:lead a 0<=(1:Nat):=by rw [zax];decide
 intro k hk
 match k,hk with
 | 0,_=>omega
 | 1,_=>omega
 | 2,_=>omega
 | 3,_=>omega
 | 4,_=>omega
 | 5,_=>omega
 | k+6,hk=>exact absurd hk (by omega)
theorem Red.bnd7 {a:Nat->Row} (h:Red 7 a):∀k,k<7->lead a k<=65535:=by
 have b7:lead a 7<=(10000:Nat):=h.small
 have b6:lead a 6<=(21461:Nat):=h.step (k:=6) (X:=21461) (Y:=10000) (by decide) b7 (by decide)
 have b5:lead a 5<=(23029:Nat):=h.step (k:=5) (X:=23029) (Y:=21461) (by decide) b6 (by decide)
 have b4:lead a 4<=(12356:Nat):=h.step (k:=4) (X:=12356) (Y:=23029) (by decide) b5 (by decide)
 have b3:lead a 3<=(3314:Nat):=h.step (k:=3) (X:=3314) (Y:=12356) (by decide) b4 (by decide)
 have b2:lead a 2<=(444:Nat):=h.step (k:=2) (X:=444) (Y:=3314) (by decide) b3 (by decide)
 have b1:lead a 1<=(29:Nat):=h.step (k:=1) (X:=29) (Y:=444) (by decide) b2 (by decide)
 have b0:lead a 0<=(1:Nat):=by rw [zax];decide
 intro k hk
 match k,hk with
 | 0,_=>omega
 | 1,_=>omega
 | 2,_=>omega
 | 3,_=>omega
 | 4,_=>omega
 | 5,_=>omega
 | 6,_=>omega
 | k+7,hk=>exact absurd hk (by omega)
theorem Red.bnd8 {a:Nat->Row} (h:Red 8 a):∀k,k<8->lead a k<=65535:=by
 have b8:lead a 8<=(10000:Nat):=h.small
 have b7:lead a 7<=(35777:Nat):=h.step (k:=7) (X:=35777) (Y:=10000) (by decide) b8 (by decide)
 have b6:lead a 6<=(63999:Nat):=h.step (k:=6) (X:=63999) (Y:=35777) (by decide) b7 (by decide)
 have b5:lead a 5<=(57242:Nat):=h.step (k:=5) (X:=57242) (Y:=63999) (by decide) b6 (by decide)
 have b4:lead a 4<=(25599:Nat):=h.step (k:=4) (X:=25599) (Y:=57242) (by decide) b5 (by decide)
 have b3:lead a 3<=(5724:Nat):=h.step (k:=3) (X:=5724) (Y:=25599) (by decide) b4 (by decide)
 have b2:lead a 2<=(639:Nat):=h.step (k:=2) (X:=639) (Y:=5724) (by decide) b3 (by decide)
 have b1:lead a 1<=(35:Nat):=h.step (k:=1) (X:=35) (Y:=639) (by decide) b2 (by decide)
 have b0:lead a 0<=(1:Nat):=by rw [zax];decide
 intro k hk
 match k,hk with
 | 0,_=>omega
 | 1,_=>omega
 | 2,_=>omega
 | 3,_=>omega
 | 4,_=>omega
 | 5,_=>omega
 | 6,_=>omega
 | 7,_=>omega
 | k+8,hk=>exact absurd hk (by omega)
theorem Red.minor {n:Nat} {a:Nat->Row} (h:Red n a) {k:Nat} (hk:k<=n):lead a k<=65535:=by
 rcases qW k n with hlt | hge
 ·have h1:=h.n1
  have h8:=h.n8
  match n,h1,h8 with
  | 1,_,_=>exact h.bnd1 k hlt
  | 2,_,_=>exact h.bnd2 k hlt
  | 3,_,_=>exact h.bnd3 k hlt
  | 4,_,_=>exact h.bnd4 k hlt
  | 5,_,_=>exact h.bnd5 k hlt
  | 6,_,_=>exact h.bnd6 k hlt
  | 7,_,_=>exact h.bnd7 k hlt
  | 8,_,_=>exact h.bnd8 k hlt
  | n+9,_,h=>exact absurd h (by omega)
 ·have:k=n:=by omega
  rw [this]
  have:=h.small
  omega
theorem back {d e x y u v C:Int} (hd:1<=d) (he:1<=e) (he2:e<=65536) (h:d*y=e*x-u*v) (hy1:y<=e*C) (hy2: -(e*C)<=y) (hu1:2*u<=e) (hu2: -(2*u)<=e) (hv1:2*v<=e) (hv2: -(2*v)<=e):
  x<=d*(C+16384)/\ -(d*(C+16384))<=x:=by
 have m:=zny (x:=2*u) (y:=2*v) hu1 (by omega) hv1 (by omega)
 have e4:2*u*(2*v)=4*(u*v):=by grind
 rw [e4] at m
 have k1:d*y<=d*(e*C):=qQ hy1 (by omega)
 have k2:d*(-(e*C))<=d*y:=qQ hy2 (by omega)
 have k3:e*e<=e*(d*65536):=qQ (by omega) (by omega)
 have c1:e*x<=e*(d*(C+16384)):=by
  have:e*(d*(C+16384))=d*(e*C)+e*d*16384:=by grind
  have t:e*(d*65536)=4*(e*d*16384):=by grind
  omega
 have c2:e*(-(d*(C+16384)))<=e*x:=by
  have:e*(-(d*(C+16384)))=d*(-(e*C))-e*d*16384:=by grind
  have t:e*(d*65536)=4*(e*d*16384):=by grind
  omega
 exact ⟨qY c1 (by omega),qY c2 (by omega)⟩
theorem Red.stage {n:Nat} {a:Nat->Row} (h:Red n a) {i j:Nat} (hi:i<n) (hj:j<=i):∀m k,k+m=j->stg a k i j<=lead a k*(65536+16384*(m:Int))/\ -(lead a k*(65536+16384*(m:Int)))<=stg a k i j:=by
 intro m
 induction m with
 | zero=>
  intro k hk
  have:k=j:=by omega
  subst this
  have p:=h.pos' k (by omega)
  have b1:=h.minor (k:=k+1) (by omega)
  have p1:=h.pos' (k+1) (by omega)
  have q:(65536:Int)<=lead a k*(65536+16384*((0:Nat):Int)):=by
   have:1*65536<=lead a k*65536:=qJ (by omega) (by decide)
   simpa using this
  rcases qW k i with hlt | hge
  ·obtain ⟨s1,s2⟩:=h.sized i k hi hlt
   omega
  ·have:k=i:=by omega
   subst this
   rw [<-zaw]
   omega
 | succ m ih=>
  intro k hk
  have p:=h.pos' k (by omega)
  have p1:=h.pos' (k+1) (by omega)
  have b1:=h.minor (k:=k+1) (by omega)
  obtain ⟨y1,y2⟩:=ih (k+1) (by omega)
  have hn:=h.ne (k:=k) (by omega)
  have e:=zbp hn i j
  obtain ⟨u1,u2⟩:=h.sized i k hi (by omega)
  obtain ⟨v1,v2⟩:=h.sized j k (by omega) (by omega)
  rw [zgl h.sym k (by omega) hn k j (by omega) (by omega) (by omega) (by omega)] at e
  have:=back (by omega) (by omega) (by omega) e y1 y2 u1 u2 v1 v2
  have c:(65536+16384*(m:Int)+16384)=65536+16384*((m+1:Nat):Int):=by omega
  rw [c] at this
  exact this
theorem Red.entry {n:Nat} {a:Nat->Row} (h:Red n a) {i j:Nat} (hi:i<n) (hj:j<n):a i j<=180224/\ -180224<=a i j:=by
 have key:∀i j,i<n->j<=i->a i j<=180224/\ -180224<=a i j:=by
  intro i j hi hj
  have:=h.stage hi hj j 0 (by omega)
  rw [zdl,zax] at this
  have h8:=h.n8
  omega
 rcases Nat.le_total j i with h1 | h1
 ·exact key i j hi h1
 ·rw [h.sym i j hi hj];exact key j i hj h1
theorem qzb {d e x y u v C:Int} (hd:1<=d) (he:1<=e) (he2:e<=65536) (h:d*y=e*x-u*v) (hx1:x<=d*C) (hx2: -(d*C)<=x) (hu1:2*u<=e) (hu2: -(2*u)<=e) (hv1:2*v<=e) (hv2: -(2*v)<=e):
  y<=e*(C+16384)/\ -(e*(C+16384))<=y:=by
 have m:=zny (x:=2*u) (y:=2*v) hu1 (by omega) hv1 (by omega)
 have e4:2*u*(2*v)=4*(u*v):=by grind
 rw [e4] at m
 have k1:e*x<=e*(d*C):=qQ hx1 (by omega)
 have k2:e*(-(d*C))<=e*x:=qQ hx2 (by omega)
 have k3:e*e<=e*(d*65536):=qQ (by omega) (by omega)
 have c1:d*y<=d*(e*(C+16384)):=by
  have:d*(e*(C+16384))=e*(d*C)+e*d*16384:=by grind
  have t:e*(d*65536)=4*(e*d*16384):=by grind
  omega
 have c2:d*(-(e*(C+16384)))<=d*y:=by
  have:d*(-(e*(C+16384)))=e*(-(d*C))-e*d*16384:=by grind
  have t:e*(d*65536)=4*(e*d*16384):=by grind
  omega
 exact ⟨qY c1 (by omega),qY c2 (by omega)⟩
end Go.Det
namespace Go.Proofs.YtpflahgcdgdkjaaGreatDoor
open Int renaming natAbs_ediv_le_natAbs -> qN
open Nat renaming le_refl -> qK, lt_or_ge -> qW, mul_le_mul_left -> qP, lt_of_le_of_lt -> qR, le_trans -> xJ, mul_le_mul -> xG, sub_self -> xL, lt_irrefl -> yQ, zero_le -> yB
open List renaming getD_eq_getElem?_getD -> qZ, getElem?_eq_getElem -> qB, getElem?_append_right -> qI, length_append -> qS, getElem?_append_left -> qT, getElem?_eq_none -> xZ, getElem?_map -> yJ, length_set -> yE
open Option renaming bind_some -> qU, bind_eq_some_iff -> qD
open Option.some renaming injEq -> qL
open Go Go.AL Go.Det
structure Shp (n:Nat) (M:List (List Int)):Prop where
 len:M.length=n
 row:∀i,i<n->(M.getD i []).length=n
theorem zhg {α:Type} {l:List α} {i j:Nat} {x d:α} (hi:i<l.length):(l.set i x).getD j d=if j=i then x else l.getD j d:=by
 rw [qZ]
 by_cases h:j=i
 ·subst h;rw [List.getElem?_set_self hi,if_pos rfl];rfl
 ·rw [List.getElem?_set_ne (fun e=>h e.symm),if_neg h,qZ]
theorem Shp.set {n:Nat} {M:List (List Int)} (h:Shp n M) {i j:Nat} {z:Int} (hi:i<n):Shp n (setM M i j z):=by
 refine ⟨by rw [zcl];exact h.len,fun i' hi'=>?_⟩
 unfold setM
 rw [zhg (by rw [h.len];exact hi)]
 split
 ·rw [yE];exact h.row i hi
 ·exact h.row i' hi'
theorem Shp.ent_set {n:Nat} {M:List (List Int)} (h:Shp n M) {i j:Nat} {z:Int} (hi:i<n) (hj:j<n) (i' l:Nat):ent (setM M i j z) i' l=if i'=i/\l=j then z else ent M i' l:=by
 unfold ent setM
 rw [zhg (by rw [h.len];exact hi)]
 by_cases h1:i'=i
 ·subst h1
  rw [if_pos rfl,zhg (by rw [h.row i' hi];exact hj)]
  by_cases h2:l=j
  ·rw [if_pos h2,if_pos ⟨rfl,h2⟩]
  ·rw [if_neg h2,if_neg (fun e=>h2 e.2)]
 ·rw [if_neg h1,if_neg (fun e=>h1 e.1)]
theorem zzo {B n k i:Nat} {last:Int} (hki:k<i) (hi:i<n):∀(m j:Nat) (M fin:List (List Int)),Shp n M->k<j->j+m<=n->elJ B k i last m j M=some fin->
  Shp n fin/\∀i' l,ent fin i' l=if i'=i/\j<=l/\l<j+m then (ent M k k*ent M i l-ent M i k*ent M k l)/last else ent M i' l:=by
 intro m
 induction m with
 | zero=>
  intro j M fin h _ _ he
  simp only [elJ,qL] at he
  subst he
  refine ⟨h,fun i' l=>?_⟩
  rw [if_neg (by omega)]
 | succ m ih=>
  intro j M fin h hj hm he
  simp only [elJ,qD] at he
  obtain ⟨z,hz,he⟩:=he
  obtain ⟨_,_,_,_,_,hz,_⟩:=ztz hz
  obtain ⟨h1,h2⟩:=ih (j+1) _ _ (h.set hi) (by omega) (by omega) he
  refine ⟨h1,fun i' l=>?_⟩
  have es:=fun i' l=>h.ent_set (i:=i) (j:=j) (z:=z) hi (by omega) i' l
  rw [h2 i' l,es k k,es i l,es i k,es k l,es i' l]
  by_cases c1:i'=i/\j+1<=l/\l<j+1+m
  ·rw [if_pos c1,if_neg (by omega),if_neg (by omega),if_neg (by omega),if_neg (by omega),if_pos (by omega)]
  ·rw [if_neg c1]
   by_cases c2:i'=i/\l=j
   ·rw [if_pos c2,if_pos (by omega),c2.2];exact hz
   ·rw [if_neg c2,if_neg (by omega)]
theorem zzp {B n k:Nat} {last:Int}:∀(m i:Nat) (M fin:List (List Int)),Shp n M->k<i->i+m=n->elI B n k last m i M=some fin->
  Shp n fin/\∀i' l,ent fin i' l=if i<=i'/\i'<n/\k+1<=l/\l<n then (ent M k k*ent M i' l-ent M i' k*ent M k l)/last else ent M i' l:=by
 intro m
 induction m with
 | zero=>
  intro i M fin h _ _ he
  simp only [elI,qL] at he
  subst he
  refine ⟨h,fun i' l=>?_⟩
  rw [if_neg (by omega)]
 | succ m ih=>
  intro i M fin h hi hm he
  simp only [elI,qD] at he
  obtain ⟨M1,hM1,he⟩:=he
  obtain ⟨h1,h2⟩:=zzo hi (by omega) (n-(k+1)) (k+1) M M1 h (by omega) (by omega) hM1
  obtain ⟨h3,h4⟩:=ih (i+1) M1 fin h1 (by omega) (by omega) he
  refine ⟨h3,fun i' l=>?_⟩
  rw [h4 i' l,h2 k k,h2 i' l,h2 i' k,h2 k l]
  by_cases c1:i+1<=i'/\i'<n/\k+1<=l/\l<n
  ·rw [if_pos c1,if_neg (by omega),if_neg (by omega),if_neg (by omega),if_neg (by omega),if_pos (by omega)]
  ·rw [if_neg c1]
   by_cases c2:i'=i/\k+1<=l/\l<k+1+(n-(k+1))
   ·rw [if_pos c2,if_pos (by omega),c2.1]
   ·rw [if_neg c2,if_neg (by omega)]
def rowF (M:List (List Int)):Nat->Row:=fun i j=>ent M i j
theorem qhw {B n:Nat} {N:List (List Int)} (hp:∀t,t<n->lead (rowF N) t≠0):∀(m k:Nat) (M:List (List Int)) (last d:Int),k+m=n->Shp n M->(∀i j,k<=i->i<n->k<=j->j<n->ent M i j=stg (rowF N) k i j)->
  last=lead (rowF N) k->detG B n m k M last false=some d->d=lead (rowF N) n:=by
 intro m
 induction m with
 | zero=>
  intro k M last d hk _ _ hl h
  simp only [detG,qL] at h
  have:k=n:=by omega
  subst this
  simp at h
  rw [<-h,hl]
 | succ m ih=>
  intro k M last d hk hs he hl h
  have hkk:ent M k k=lead (rowF N) (k+1):=by rw [he k k (qK _) (by omega) (qK _) (by omega),<-zaw]
  obtain ⟨m',hm'⟩:∃m',n-k=m'+1:=⟨n-k-1,by omega⟩
  by_cases h0:ent M k k=0
  ·
   have hkn:k+1=n:=by
    rcases qW (k+1) n with hlt | hge
    ·exact absurd (hkk.symm.trans h0) (hp (k+1) hlt)
    ·omega
   have hm0:m'=0:=by omega
   have hpv:piv M k (n-k) k=n:=by
    rw [hm',hm0]
    simp only [piv]
    rw [if_pos h0];exact hkn
   simp only [detG] at h
   rw [if_pos hpv,qL] at h
   rw [<-h,<-hkn,<-hkk,h0]
  ·have hpv:piv M k (n-k) k=k:=by
    rw [hm']
    simp only [piv]
    rw [if_neg h0]
   simp only [detG,hpv] at h
   rw [if_neg (by omega),if_neg (yQ _),if_neg (yQ _),qD] at h
   obtain ⟨M2,hM2,h⟩:=h
   obtain ⟨s1,s2⟩:=zzp (n-(k+1)) (k+1) M M2 hs (by omega) (by omega) hM2
   have e2:ent M2 k k=lead (rowF N) (k+1):=by rw [s2,if_neg (by omega)];exact hkk
   refine ih (k+1) M2 _ d (by omega) s1 (fun i j hi hin hj hjn=>?_) e2 h
   rw [s2,if_pos ⟨hi,hin,hj,hjn⟩,hkk,hl,he i j (by omega) hin (by omega) hjn,he i k (by omega) hin (qK _) (by omega),he k j (qK _) (by omega) (by omega) hjn]
   have r:=zbp (a:=rowF N) (k:=k) (fun t ht=>hp t (by omega)) i j
   rw [<-r,Int.mul_ediv_cancel_left _ (hp k (by omega))]
theorem zhh {B n:Nat} {N:List (List Int)} (hs:Shp n N) (hp:∀t,t<n->lead (rowF N) t≠0) {d:Int} (h:detO B N=some d):d=lead (rowF N) n:=by
 unfold detO at h
 rw [hs.len] at h
 exact qhw hp n 0 N 1 d (by omega) hs (fun i j _ _ _ _=>(zdl (rowF N) i j).symm) rfl h
theorem zuj:∀(cs:List Nat) (R R':List Row),R.length=R'.length->(∀i,i<R.length->∀c∈cs,(R.getD i (fun _=>0)) c=(R'.getD i (fun _=>0)) c)->det cs R=det cs R':=by
 intro cs
 induction cs with
 | nil=>intro R R' hl _;cases R<;>cases R'<;>simp at hl<;>rfl
 | cons c cs ih=>
  intro R R' hl h
  have key:∀(L L' p p':List Row),L.length=L'.length->p.length=p'.length->(∀i,i<L.length->∀x∈c::cs,(L.getD i (fun _=>0)) x=(L'.getD i (fun _=>0)) x)->
    (∀i,i<p.length->∀x∈c::cs,(p.getD i (fun _=>0)) x=(p'.getD i (fun _=>0)) x)->zbu (det cs) c p L=zbu (det cs) c p' L':=by
   intro L
   induction L with
   | nil=>intro L' p p' h1 _ _ _;cases L' with | nil=>rfl | cons _ _=>simp at h1
   | cons v L ihL=>
    intro L' p p' h1 h2 h3 h4
    cases L' with
    | nil=>simp at h1
    | cons v' L'=>
     have hv:∀x∈c::cs,v x=v' x:=fun x hx=>by simpa using h3 0 (by simp) x hx
     have hL:∀i,i<L.length->∀x∈c::cs,(L.getD i (fun _=>0)) x=(L'.getD i (fun _=>0)) x:=fun i hi x hx=>by simpa using h3 (i+1) (by simpa using hi) x hx
     have hll:L.length=L'.length:=by simpa using h1
     simp only [zbu]
     have app:∀(A A' X X':List Row),A.length=A'.length->(∀i,i<A.length->∀x∈c::cs,(A.getD i (fun _=>0)) x=(A'.getD i (fun _=>0)) x)->(∀i,i<X.length->∀x∈c::cs,(X.getD i (fun _=>0)) x=(X'.getD i (fun _=>0)) x)->
       ∀i,i<(A++X).length->∀x∈c::cs,((A++X).getD i (fun _=>0)) x=((A'++X').getD i (fun _=>0)) x:=by
      intro A A' X X' hA k1 k2 i hi x hx
      rw [qZ,qZ]
      rcases qW i A.length with hlt | hge
      ·rw [qT hlt,qT (by omega),<-qZ,<-qZ]
       exact k1 i hlt x hx
      ·rw [qI hge,qI (by omega),hA,<-qZ,<-qZ]
       refine k2 (i-A'.length) ?_ x hx
       rw [qS] at hi;omega
     have e1:det cs (p++L)=det cs (p'++L'):=ih _ _ (by simp [h2,hll]) (fun i hi x hx=>app p p' L L' h2 h4 hL i hi x (List.mem_cons_of_mem _ hx))
     have e2:=ihL L' (p++[v]) (p'++[v']) hll (by simp [h2]) hL (app p p' [v] [v'] h2 h4 (fun i hi x hx=>by
      have:i=0:=by simpa using hi
      subst this
      exact hv x hx))
     rw [e1,e2,hll,hv c (by simp)]
  exact key R R' [] [] hl rfl h (fun i hi=>by simp at hi)
theorem qvd {M:List (List Int)} {rs cs:List Nat} {s t:Nat} (hs:s<rs.length) (ht:t<cs.length):ent (selM M rs cs) s t=ent M (rs.getD s 0) (cs.getD t 0):=by
 simp only [ent,selM,selR,qZ,yJ,qB hs,qB ht,Option.map_some,Option.getD_some]
theorem zuk {j i t:Nat} (h:t<j):(List.range j++[i]).getD t 0=t:=by
 rw [qZ,qT (by simpa using h),List.getElem?_range h];rfl
theorem zpq {j i:Nat}:(List.range j++[i]).getD j 0=i:=by
 rw [qZ,qI (by simp)];simp
theorem zwz {M:List (List Int)} {i j s t:Nat} (hs:s<=j) (ht:t<=j):ent (lamM M i j) s t=ent M (if s=j then i else s) t:=by
 unfold lamM
 rw [qvd (by simp;omega) (by simp;omega)]
 have e:(List.range j++[j]).getD t 0=t:=by
  rcases qW t j with h | h
  ·exact zuk h
  ·have:t=j:=by omega
   rw [this];exact zpq
 rw [e]
 split
 ·rename_i h;rw [h,zpq]
 ·rw [zuk (by omega)]
theorem zxa (M:List (List Int)) (i j:Nat):Shp (j+1) (lamM M i j):=by
 refine ⟨by simp [lamM,selM],fun t ht=>?_⟩
 simp only [lamM,selM,qZ,yJ]
 rw [qB (by simpa using ht)]
 simp [selR]
theorem qol {M:List (List Int)} {i j t:Nat} (ht:t<=j):lead (rowF (lamM M i j)) t=lead (rowF M) t:=by
 unfold lead
 refine zuj _ _ _ (by rw [zbr,zbr]) (fun s hs c hc=>?_)
 rw [zbr] at hs
 have:=znx hc
 rw [zhf _ hs,zhf _ hs]
 show ent (lamM M i j) s c=ent M s c
 rw [zwz (by omega) (by omega),if_neg (by omega)]
theorem qom {M:List (List Int)} {i j:Nat}:lead (rowF (lamM M i j)) (j+1)=stg (rowF M) j i j:=by
 unfold lead stg bord
 refine zuj _ _ _ (by rw [zbr,qS,zbr];rfl) (fun s hs c hc=>?_)
 rw [zbr] at hs
 have hc:c<=j:=by
  rcases List.mem_cons.1 hc with e | e
  ·omega
  ·have:=znx e;omega
 rw [zhf _ hs]
 show ent (lamM M i j) s c=_
 rw [zwz (by omega) hc,qZ]
 rcases qW s j with h | h
 ·rw [if_neg (by omega),qT (by rw [zbr];exact h),<-qZ,zhf _ h];rfl
 ·have:s=j:=by omega
  subst this
  rw [if_pos rfl,qI (by rw [zbr];exact qK _),zbr,xL];rfl
theorem zjz {B i j:Nat} {M:List (List Int)} (hp:∀t,t<=j->lead (rowF M) t≠0) {d:Int} (h:detO B (lamM M i j)=some d):d=stg (rowF M) j i j:=by
 rw [<-qom]
 exact zhh (zxa M i j) (fun t ht=>by rw [qol (by omega)];exact hp t (by omega)) h
theorem qon (M:List (List Int)) (k:Nat):minK M k=lamM M k k:=rfl
theorem zul {B:Nat} {M:List (List Int)}:∀{n:Nat} {ds:List Int},zdj B M n=some ds->∀k,k<n->detO B (minK M k)=some (ds.getD k 0):=by
 intro n
 induction n with
 | zero=>intro ds _ k hk;omega
 | succ n ih=>
  intro ds h k hk
  have hpre:=znq (m:=1) h
  have hl:=zcy h
  rcases qW k n with hlt | hge
  ·have:=ih hpre k hlt
   rw [this,qZ,qZ,List.getElem?_take_of_lt hlt]
  ·have:k=n:=by omega
   subst this
   simp only [zdj,qD,qL] at h
   obtain ⟨l,h1,h⟩:=h
   have hl1:=zcy h1
   obtain ⟨d,h2,d',h3,h⟩:=h
   obtain ⟨rfl,_⟩:=zce h3
   subst h
   rw [qZ,qI (by omega),hl1,xL]
   simpa using h2
theorem qhx {B n:Nat} {M:List (List Int)} {ds:List Int} (h:zdj B M n=some ds):∀k,k<=n->(∀t,t<k->0<ds.getD t 0)->(∀t,t<=k->0<lead (rowF M) t)/\∀t,t<k->ds.getD t 0=lead (rowF M) (t+1):=by
 intro k
 induction k with
 | zero=>intro _ _;exact ⟨fun t ht=>(by
  have e:t=0:=Nat.le_zero.1 ht
  rw [e,zax]
  decide),fun t ht=>absurd ht (by omega)⟩
 | succ k ih=>
  intro hk hp
  obtain ⟨h1,h2⟩:=ih (by omega) (fun t ht=>hp t (by omega))
  have e:ds.getD k 0=lead (rowF M) (k+1):=by
   have:=zjz (i:=k) (j:=k) (fun t ht=>by have:=h1 t ht;omega) (zul h k (by omega))
   rw [this,zaw]
  refine ⟨fun t ht=>?_,fun t ht=>?_⟩
  ·rcases qW t (k+1) with hlt | hge
   ·exact h1 t (by omega)
   ·have:t=k+1:=by omega
    rw [this,<-e];exact hp k (by omega)
  ·rcases qW t k with hlt | hge
   ·exact h2 t hlt
   ·have:t=k:=by omega
    rw [this];exact e
theorem zrx {B n:Nat} {M:List (List Int)} {ds:List Int} (h:zdj B M n=some ds) (hp:∀t,t<=n->0<lead (rowF M) t):∀k,k<n->ds.getD k 0=lead (rowF M) (k+1):=by
 intro k hk
 have:=zjz (i:=k) (j:=k) (fun t ht=>by have:=hp t (by omega);omega) (zul h k hk)
 rw [this,zaw]
theorem znz {ds:List Int}:(ds.all fun d=>decide (0<d))=true↔∀t,t<ds.length->0<ds.getD t 0:=by
 rw [List.all_eq_true]
 constructor
 ·intro h t ht
  rw [qZ,qB ht]
  exact of_decide_eq_true (h _ (List.getElem_mem ht))
 ·intro h d hd
  obtain ⟨t,ht,rfl⟩:=List.mem_iff_getElem.1 hd
  have:=h t ht
  rw [qZ,qB ht] at this
  exact decide_eq_true this
def szP (M:List (List Int)) (i j:Nat):Prop:=2*stg (rowF M) j i j<=lead (rowF M) (j+1)/\ -(2*stg (rowF M) j i j)<=lead (rowF M) (j+1)
def lvP (M:List (List Int)) (i:Nat):Prop:=3*(lead (rowF M) i*lead (rowF M) i)<=4*(lead (rowF M) (i-1)*lead (rowF M) (i+1)+stg (rowF M) (i-1) i (i-1)*stg (rowF M) (i-1) i (i-1))
section
variable {B n:Nat} {M:List (List Int)} {ds:List Int}
theorem zfu (h:zdj B M n=some ds) (hp:∀t,t<=n->0<lead (rowF M) t) {k:Nat} (hk:k<=n):zcd ds k=lead (rowF M) k:=by
 unfold zcd
 split
 ·rename_i e;rw [e,zax]
 ·rw [zrx h hp (k-1) (by omega)];congr 1;omega
theorem zum (h:zdj B M n=some ds) (hp:∀t,t<=n->0<lead (rowF M) t) {i j:Nat} (hj:j<n) {b:Bool} (hb:zju B M ds i j=some b):b=true↔szP M i j:=by
 unfold zju at hb
 simp only [qD,qL] at hb
 obtain ⟨l,hl,x,hx,rfl⟩:=hb
 have e:=zjz (fun t ht=>by have:=hp t (by omega);omega) (zft hl).1
 rw [decide_eq_true_eq,zfu h hp (by omega),e]
 unfold szP
 omega
theorem qhy (h:zdj B M n=some ds) (hp:∀t,t<=n->0<lead (rowF M) t) {i:Nat} (h0:0<i) (hi:i<n) {b:Bool} (hb:lovO B M ds i=some b):b=true↔lvP M i:=by
 unfold lovO at hb
 simp only [qD,qL] at hb
 obtain ⟨l,hl,p,hp1,q,hq,s,hs,x,hx,r,hr,y,hy,rfl⟩:=hb
 have e:=zjz (fun t ht=>by have:=hp t (by omega);omega) (zft hl).1
 obtain ⟨rfl,_⟩:=zce hp1
 obtain ⟨rfl,_⟩:=zce hq
 obtain ⟨rfl,_⟩:=zce hs
 obtain ⟨rfl,_⟩:=zce hx
 obtain ⟨rfl,_⟩:=zce hr
 obtain ⟨rfl,_⟩:=zce hy
 rw [decide_eq_true_eq,zfu h hp (by omega),zfu h hp (by omega),zfu h hp (by omega),e]
 exact Iff.rfl
theorem qoo (h:zdj B M n=some ds) (hp:∀t,t<=n->0<lead (rowF M) t) {i:Nat}:∀(m j:Nat) {b:Bool},j+m<=n->redJ B M ds i m j=some b->(b=true↔∀j',j<=j'->j'<j+m->szP M i j'):=by
 intro m
 induction m with
 | zero=>
  intro j b _ hb
  simp only [redJ,qL] at hb
  exact ⟨fun _ j' h1 h2=>absurd h2 (by omega),fun _=>hb.symm⟩
 | succ m ih=>
  intro j b hn hb
  simp only [redJ,qD] at hb
  obtain ⟨b1,h1,h2⟩:=hb
  have k1:=zum h hp (by omega) h1
  cases b1 with
  | false=>
   simp at h2
   subst h2
   refine ⟨fun e=>by simp at e,fun e=>?_⟩
   have:=k1.2 (e j (qK _) (by omega))
   simp at this
  | true=>
   simp only [if_true] at h2
   have k2:=ih (j+1) (by omega) h2
   rw [k2]
   constructor
   ·intro e j' g1 g2
    rcases qW j j' with hlt | hge
    ·exact e j' (by omega) (by omega)
    ·have:j'=j:=by omega
     rw [this];exact k1.1 rfl
   ·intro e j' g1 g2;exact e j' (by omega) (by omega)
theorem zzq (h:zdj B M n=some ds) (hp:∀t,t<=n->0<lead (rowF M) t):∀(m i:Nat) {b:Bool},i+m=n->redI B M ds m i=some b->(b=true↔∀i',i<=i'->i'<n->(∀j,j<i'->szP M i' j)/\(0<i'->lvP M i')):=by
 intro m
 induction m with
 | zero=>
  intro i b hi hb
  simp only [redI,qL] at hb
  exact ⟨fun _ i' h1 h2=>absurd h2 (by omega),fun _=>hb.symm⟩
 | succ m ih=>
  intro i b hi hb
  simp only [redI,qD] at hb
  obtain ⟨b1,h1,h2⟩:=hb
  have k1:=qoo h hp i 0 (by omega) h1
  cases b1 with
  | false=>
   simp at h2
   subst h2
   refine ⟨fun e=>by simp at e,fun e=>?_⟩
   have:=k1.2 (fun j' _ h2=>(e i (qK _) (by omega)).1 j' (by omega))
   simp at this
  | true=>
   have k1':∀j,j<i->szP M i j:=fun j hj=>k1.1 rfl j (yB _) (by omega)
   rw [if_neg (by decide)] at h2
   have fin:∀{b:Bool},(0<i->lvP M i)->redI B M ds m (i+1)=some b->(b=true↔∀i',i<=i'->i'<n->(∀j,j<i'->szP M i' j)/\(0<i'->lvP M i')):=by
    intro b hl h3
    rw [ih (i+1) (by omega) h3]
    constructor
    ·intro e i' g1 g2
     rcases qW i i' with hlt | hge
     ·exact e i' (by omega) g2
     ·have:i'=i:=by omega
      rw [this];exact ⟨k1',hl⟩
    ·intro e i' g1 g2;exact e i' (by omega) g2
   by_cases h0:i=0
   ·rw [if_pos h0] at h2
    exact fin (fun h=>absurd h (by omega)) h2
   ·rw [if_neg h0,qD] at h2
    obtain ⟨b2,h3,h4⟩:=h2
    have k2:=qhy h hp (by omega) (by omega) h3
    cases b2 with
    | true=>exact fin (fun _=>k2.1 rfl) (by simpa using h4)
    | false=>
     simp at h4
     subst h4
     refine ⟨fun e=>by simp at e,fun e=>?_⟩
     have:=k2.2 ((e i (qK _) (by omega)).2 (by omega))
     simp at this
theorem zme (hs:Shp n M):symB M=true↔∀i j,i<n->j<n->rowF M i j=rowF M j i:=by
 rw [znr,hs.len]
 constructor
 ·intro h i j hi hj
  rcases qW j i with h1 | h1
  ·exact h i hi j h1
  ·rcases qW i j with h2 | h2
   ·exact (h j hj i h2).symm
   ·have:i=j:=by omega
    rw [this]
 ·intro h i hi j hj;exact h i j hi (by omega)
theorem qve (hs:Shp n M) (h1:1<=n) (h8:n<=8) (h:zdj B M n=some ds) {d0:Int} (hd:detO B M=some d0):
  (valZ M ds=0/\d0<=10000/\∃b,redI B M ds n 0=some b/\b=true)->Red n (rowF M):=by
 rintro ⟨hv,hd0,b,hb,hbt⟩
 have hsy:symB M=true:=by
  unfold valZ at hv
  cases e:symB M with
  | true=>rfl
  | false=>rw [e] at hv;simp at hv
 have hdf:defB M ds=true:=by
  unfold valZ at hv
  rw [hsy] at hv
  cases e:defB M ds with
  | true=>rfl
  | false=>rw [e] at hv;simp at hv
 unfold defB at hdf
 rw [hsy,Bool.true_and,znz,zcy h] at hdf
 obtain ⟨hp,_⟩:=qhx h n (qK _) hdf
 have hr:=(zzq h hp n 0 (by omega) hb).1 hbt
 have hdet:d0=lead (rowF M) n:=zhh hs (fun t ht=>by have:=hp t (by omega);omega) hd
 exact ⟨h1,h8,(zme hs).1 hsy,fun k hk=>hp (k+1) (by omega),by omega,fun i j hi hj=>(hr i (yB _) hi).1 j hj,fun i h0 hi=>(hr i (yB _) hi).2 h0⟩
theorem qvf (hs:Shp n M) (h:zdj B M n=some ds) {d0:Int} (hd:detO B M=some d0) (hr:Red n (rowF M)):
  valZ M ds=0/\d0<=10000/\∀b,redI B M ds n 0=some b->b=true:=by
 have hp:=hr.pos'
 have hsy:=(zme hs).2 hr.sym
 have hdf:defB M ds=true:=by
  unfold defB
  rw [hsy,Bool.true_and,znz,zcy h]
  intro t ht
  rw [zrx h hp t ht]
  exact hr.pos t ht
 have hdet:d0=lead (rowF M) n:=zhh hs (fun t ht=>by have:=hp t (by omega);omega) hd
 refine ⟨?_,by rw [hdet];exact hr.small,fun b hb=>?_⟩
 ·unfold valZ;rw [hsy,hdf];rfl
 ·exact (zzq h hp n 0 (by omega) hb).2 (fun i' _ hi=>⟨fun j hj=>hr.sized i' j hi hj,fun h0=>hr.lov i' h0 hi⟩)
end
def Bnd (A:Nat) (M:List (List Int)):Prop:= ∀i j,(ent M i j).natAbs<=A
theorem qvg (x y:Int):(x/y).natAbs<=x.natAbs:=qN x y
theorem zdm {x y:Int} {a b:Nat} (hx:x.natAbs<=a) (hy:y.natAbs<=b):(x*y).natAbs<=a*b:=by
 rw [Int.natAbs_mul];exact xG hx hy
theorem zka {B:Nat} {z:Int} (h:z.natAbs<B):ck B z=some z:=by unfold ck;rw [if_pos h]
section
variable {B n A:Nat}
theorem qzc {k i:Nat} {last:Int} (hki:k<i) (hi:i<n) (hl:last≠0) (hlA:last.natAbs<=A) (hB:2*(A*A)<B) (hA:A<B):∀(m j:Nat) (M:List (List Int)),Shp n M->k<j->j+m<=n->
  (∀i' l,(ent M i' l).natAbs<=2*(A*A))->(∀l,(ent M k l).natAbs<=A)->(∀i',(ent M i' k).natAbs<=A)->(∀l,j<=l->(ent M i l).natAbs<=A)->∃fin,elJ B k i last m j M=some fin/\Shp n fin/\∀i' l,(ent fin i' l).natAbs<=2*(A*A):=by
 intro m
 induction m with
 | zero=>intro j M h _ _ h1 _ _ _;exact ⟨M,rfl,h,h1⟩
 | succ m ih=>
  intro j M h hj hm h1 h2 h3 h4
  have p:=zdm (h2 k) (h4 j (qK _))
  have q:=zdm (h3 i) (h2 j)
  have s:(ent M k k*ent M i j-ent M i k*ent M k j).natAbs<=2*(A*A):=by omega
  have t:=qvg (ent M k k*ent M i j-ent M i k*ent M k j) last
  have hn:newE B M k i j last=some ((ent M k k*ent M i j-ent M i k*ent M k j)/last):=by
   unfold newE
   rw [if_neg hl,zka (by omega),zka (by omega),zka (by omega)]
   simp only [qU]
   rw [zka (by omega)]
   simp only [qU]
   rw [zka (by omega)]
  have es:=fun i' l=>h.ent_set (i:=i) (j:=j) (z:=(ent M k k*ent M i j-ent M i k*ent M k j)/last) hi (by omega) i' l
  simp only [elJ,hn,qU]
  refine ih (j+1) _ (h.set hi) (by omega) (by omega) (fun i' l=>?_) (fun l=>?_) (fun i'=>?_) (fun l hl=>?_)
  ·rw [es];split
   ·omega
   ·exact h1 i' l
  ·rw [es,if_neg (by omega)];exact h2 l
  ·rw [es,if_neg (by omega)];exact h3 i'
  ·rw [es,if_neg (by omega)];exact h4 l (by omega)
theorem qzd {k:Nat} {last:Int} (hl:last≠0) (hlA:last.natAbs<=A) (hB:2*(A*A)<B) (hA:A<B):∀(m i:Nat) (M:List (List Int)),Shp n M->k<i->i+m=n->
  (∀i' l,(ent M i' l).natAbs<=2*(A*A))->(∀l,(ent M k l).natAbs<=A)->(∀i',(ent M i' k).natAbs<=A)->(∀i' l,i<=i'->(ent M i' l).natAbs<=A)->∃fin,elI B n k last m i M=some fin/\Shp n fin/\∀i' l,(ent fin i' l).natAbs<=2*(A*A):=by
 intro m
 induction m with
 | zero=>intro i M h _ _ h1 _ _ _;exact ⟨M,rfl,h,h1⟩
 | succ m ih=>
  intro i M h hi hm h1 h2 h3 h4
  obtain ⟨M1,e1,s1,b1⟩:=qzc hi (by omega) hl hlA hB hA (n-(k+1)) (k+1) M h (by omega) (by omega) h1 h2 h3 (fun l _=>h4 i l (qK _))
  obtain ⟨_,f1⟩:=zzo hi (by omega) (n-(k+1)) (k+1) M M1 h (by omega) (by omega) e1
  simp only [elI,e1,qU]
  refine ih (i+1) M1 s1 (by omega) (by omega) b1 (fun l=>?_) (fun i'=>?_) (fun i' l hi'=>?_)
  ·rw [f1,if_neg (by omega)];exact h2 l
  ·rw [f1,if_neg (by omega)];exact h3 i'
  ·rw [f1,if_neg (by omega)];exact h4 i' l (by omega)
def bndS (A:Nat):Nat->Nat
 | 0=>A
 | k+1=>2*(bndS A k*bndS A k)
theorem zkb {M:List (List Int)} {p k:Nat} (h:Shp n M) (hp:p<n) (hk:k<n):Shp n (zdc M p k)/\∀i l,ent (zdc M p k) i l=ent M (if i=k then p else if i=p then k else i) l:=by
 have g:∀i,(zdc M p k).getD i []=M.getD (if i=k then p else if i=p then k else i) []:=by
  intro i
  unfold zdc
  rw [zhg (by rw [yE,h.len];exact hk)]
  split
  ·rfl
  ·rw [zhg (by rw [h.len];exact hp)]
   split<;>rfl
 refine ⟨⟨by simp [zdc,h.len],fun i hi=>?_⟩,fun i l=>by unfold ent;rw [g]⟩
 rw [g]
 refine h.row _ ?_
 split
 ·exact hp
 ·split<;>assumption
theorem qvh {A0:Nat} (hA0:1<=A0) (hB:∀k,k<=n->2*(bndS A0 k*bndS A0 k)<B):∀(m k:Nat) (M:List (List Int)) (last:Int) (neg:Bool),k+m=n->Shp n M->Bnd (bndS A0 k) M->last≠0->last.natAbs<=bndS A0 k->
  ∃d,detG B n m k M last neg=some d/\d.natAbs<=bndS A0 n:=by
 have pos:∀k,1<=bndS A0 k:=by
  intro k
  induction k with
  | zero=>exact hA0
  | succ k ih=>have:=xG ih ih;simp only [bndS];omega
 have mono:∀k,bndS A0 k<=bndS A0 (k+1):=by
  intro k
  have:=qP (bndS A0 k) (pos k)
  simp only [bndS];omega
 have monoN:∀m k,bndS A0 k<=bndS A0 (k+m):=by
  intro m
  induction m with
  | zero=>intro k;exact qK _
  | succ m ih=>intro k;exact xJ (ih k) (mono (k+m))
 intro m
 induction m with
 | zero=>
  intro k M last neg hk _ _ _ hl
  have:k=n:=by omega
  subst this
  cases neg
  ·exact ⟨last,by simp [detG],hl⟩
  ·exact ⟨-last,by simp [detG],by omega⟩
 | succ m ih=>
  intro k M last neg hk hs hb hl0 hl
  simp only [detG]
  by_cases hpn:piv M k (n-k) k=n
  ·rw [if_pos hpn];exact ⟨0,rfl,by simp⟩
  ·rw [if_neg hpn]
   have hpl:=qrh (M:=M) (k:=k) (m:=n-k) (p:=k)
   have hpne:=qyt (M:=M) (k:=k) (m:=n-k) (p:=k) (by omega)
   generalize hpe:piv M k (n-k) k=p at*
   obtain ⟨hs',hb',hne⟩:Shp n (if k<p then zdc M p k else M)/\Bnd (bndS A0 k) (if k<p then zdc M p k else M)/\ent (if k<p then zdc M p k else M) k k≠0:=by
    by_cases hkp:k<p
    ·rw [if_pos hkp]
     obtain ⟨g1,g2⟩:=zkb hs (p:=p) (k:=k) (by omega) (by omega)
     exact ⟨g1,fun i j=>by rw [g2];exact hb _ _,by rw [g2,if_pos rfl];exact hpne⟩
    ·rw [if_neg hkp]
     have:p=k:=by omega
     subst this
     exact ⟨hs,hb,hpne⟩
   generalize (if k<p then zdc M p k else M)=M1 at*
   have hB1:=hB k (by omega)
   have hA1:bndS A0 k<=2*(bndS A0 k*bndS A0 k):=mono k
   obtain ⟨M2,e2,s2,b2⟩:=qzd hl0 hl hB1 (by omega) (n-(k+1)) (k+1) M1 hs' (by omega) (by omega) (fun i l=>xJ (hb' i l) hA1) (fun l=>hb' k l) (fun i=>hb' i k) (fun i l _=>hb' i l)
   obtain ⟨_,f2⟩:=zzp (n-(k+1)) (k+1) M1 M2 hs' (by omega) (by omega) e2
   have ek:ent M2 k k=ent M1 k k:=by rw [f2,if_neg (by omega)]
   rw [e2,qU]
   exact ih (k+1) M2 _ _ (by omega) s2 b2 (by rw [ek];exact hne) (by rw [ek];exact xJ (hb' k k) (mono k))
theorem zry {A0:Nat} {M:List (List Int)} (hA0:1<=A0) (hB:∀k,k<=n->2*(bndS A0 k*bndS A0 k)<B) (hs:Shp n M) (hb:Bnd A0 M):∃d,detO B M=some d/\d.natAbs<=bndS A0 n:=by
 unfold detO
 rw [hs.len]
 exact qvh hA0 hB n 0 M 1 false (by omega) hs hb (by decide) hA0
theorem zkc {A0:Nat} (hA0:1<=A0):∀k,1<=bndS A0 k:=by
 intro k
 induction k with
 | zero=>exact hA0
 | succ k ih=>have:=xG ih ih;simp only [bndS];omega
theorem qhz {A0:Nat} (hA0:1<=A0):∀m k,bndS A0 k<=bndS A0 (k+m):=by
 intro m
 induction m with
 | zero=>intro k;exact qK _
 | succ m ih=>
  intro k
  have:=qP (bndS A0 (k+m)) (zkc hA0 (k+m))
  refine xJ (ih k) ?_
  show _<=2*(bndS A0 (k+m)*bndS A0 (k+m))
  omega
structure FitN (N B A0:Nat):Prop where
 one:1<=A0
 fit:8*(bndS A0 N*bndS A0 N)<B
theorem FitN.all {N A0:Nat} (h:FitN N B A0) {k:Nat} (hk:k<=N):bndS A0 k<=bndS A0 N/\2*(bndS A0 k*bndS A0 k)<B:=by
 have m:=qhz h.one (N-k) k
 have e:k+(N-k)=N:=by omega
 rw [e] at m
 have:=xG m m
 have:=h.fit
 exact ⟨m,by omega⟩
theorem FitN.lt {N A0:Nat} (h:FitN N B A0):bndS A0 N<B:=by
 have:=qP (bndS A0 N) (zkc h.one N)
 have:=h.fit
 omega
theorem qvi {A0:Nat} {M:List (List Int)} (hb:Bnd A0 M) (i j:Nat):Bnd A0 (lamM M i j):=by
 intro s t
 rcases qW j s with h | h
 ·have:ent (lamM M i j) s t=0:=by
   unfold ent
   have:(lamM M i j).getD s []=[]:=by
    rw [qZ,xZ (by simp [lamM,selM];omega)];rfl
   rw [this];rfl
  rw [this];simp
 ·rcases qW j t with h2 | h2
  ·have:ent (lamM M i j) s t=0:=by
    have hl:=(zxa M i j).row s (by omega)
    unfold ent
    rw [qZ,xZ (by omega)];rfl
   rw [this];simp
  ·rw [zwz h h2];exact hb _ _
theorem qrl {N A0:Nat} {M:List (List Int)} (hF:FitN N B A0) (hb:Bnd A0 M) {i j:Nat} (hj:j<N):∃d,detO B (lamM M i j)=some d/\d.natAbs<=bndS A0 N:=by
 obtain ⟨d,h1,h2⟩:=zry (B:=B) hF.one (fun k hk=>(hF.all (k:=k) (by omega)).2) (zxa M i j) (qvi hb i j)
 exact ⟨d,h1,xJ h2 (hF.all (k:=j+1) (by omega)).1⟩
theorem zmf {N A0:Nat} {M:List (List Int)} (hF:FitN N B A0) (hb:Bnd A0 M):∀k,k<=N->∃ds,zdj B M k=some ds/\∀z∈ds,z.natAbs<=bndS A0 N:=by
 intro k
 induction k with
 | zero=>intro _;exact ⟨[],rfl,fun z h=>by simp at h⟩
 | succ k ih=>
  intro hk
  obtain ⟨l,h1,h2⟩:=ih (by omega)
  obtain ⟨d,h3,h4⟩:=qrl hF hb (i:=k) (j:=k) (by omega)
  refine ⟨l++[d],?_,fun z hz=>?_⟩
  ·simp only [zdj,h1,qU,qon,h3]
   rw [zka (qR h4 hF.lt)];rfl
  ·rcases List.mem_append.1 hz with e | e
   ·exact h2 z e
   ·have:z=d:=by simpa using e
    rw [this];exact h4
theorem zhi {N A0:Nat} (hF:FitN N B A0) {ds:List Int} (h:∀z∈ds,z.natAbs<=bndS A0 N) (k:Nat):(zcd ds k).natAbs<=bndS A0 N:=by
 unfold zcd
 split
 ·exact zkc hF.one N
 ·rw [qZ]
  cases e:ds[k-1]? with
  | none=>simp
  | some z=>exact h z (List.mem_of_getElem? e)
theorem zxb {N A0:Nat} {M:List (List Int)} (hF:FitN N B A0) (hb:Bnd A0 M) {i j:Nat} (hj:j<N):∃l,lamO B M i j=some l/\l.natAbs<=bndS A0 N:=by
 obtain ⟨d,h3,h4⟩:=qrl hF hb (i:=i) (j:=j) hj
 refine ⟨d,?_,h4⟩
 unfold lamO
 rw [h3,qU,zka (qR h4 hF.lt)]
theorem zun {N A0:Nat} {M:List (List Int)} {ds:List Int} (hF:FitN N B A0) (hb:Bnd A0 M) {i j:Nat} (hj:j<N):∃b,zju B M ds i j=some b:=by
 obtain ⟨l,h1,h2⟩:=zxb hF hb (i:=i) (j:=j) hj
 have:=hF.fit
 have:=qP (bndS A0 N) (zkc hF.one N)
 unfold zju
 rw [h1,qU,zka (by omega)]
 exact ⟨_,rfl⟩
theorem qia {N A0:Nat} {M:List (List Int)} {ds:List Int} (hF:FitN N B A0) (hb:Bnd A0 M) (hd:∀z∈ds,z.natAbs<=bndS A0 N) {i:Nat} (hi:i-1<N):∃b,lovO B M ds i=some b:=by
 obtain ⟨l,h1,h2⟩:=zxb hF hb (i:=i) (j:=i-1) hi
 have hf:=hF.fit
 have p:=zdm (zhi hF hd (i-1)) (zhi hF hd (i+1))
 have q:=zdm h2 h2
 have r:=zdm (zhi hF hd i) (zhi hF hd i)
 unfold lovO
 rw [h1,qU,zka (by omega),qU,zka (by omega),qU,zka (by omega),qU,zka (by omega),qU,zka (by omega),qU,zka (by omega)]
 exact ⟨_,rfl⟩
theorem qvj {N A0:Nat} {M:List (List Int)} {ds:List Int} (hF:FitN N B A0) (hb:Bnd A0 M) {i:Nat}:∀m j,j+m<=N->∃b,redJ B M ds i m j=some b:=by
 intro m
 induction m with
 | zero=>intro j _;exact ⟨true,rfl⟩
 | succ m ih=>
  intro j hj
  obtain ⟨b,h⟩:=zun (ds:=ds) hF hb (i:=i) (j:=j) (by omega)
  simp only [redJ,h,qU]
  cases b
  ·exact ⟨false,rfl⟩
  ·exact ih (j+1) (by omega)
theorem qvk {N A0:Nat} {M:List (List Int)} {ds:List Int} (hF:FitN N B A0) (hb:Bnd A0 M) (hd:∀z∈ds,z.natAbs<=bndS A0 N):∀m i,i+m<=N->∃b,redI B M ds m i=some b:=by
 intro m
 induction m with
 | zero=>intro i _;exact ⟨true,rfl⟩
 | succ m ih=>
  intro i hi
  obtain ⟨b,h⟩:=qvj (ds:=ds) hF hb (i:=i) i 0 (by omega)
  simp only [redI,h,qU]
  cases b
  ·exact ⟨false,rfl⟩
  ·rw [if_neg (by decide)]
   by_cases h0:i=0
   ·rw [if_pos h0];exact ih (i+1) (by omega)
   ·rw [if_neg h0]
    obtain ⟨b2,h2⟩:=qia hF hb hd (i:=i) (by omega)
    rw [h2,qU]
    cases b2
    ·exact ⟨false,rfl⟩
    ·exact ih (i+1) (by omega)
end
end Go.Proofs.YtpflahgcdgdkjaaGreatDoor
namespace Go.Det
open Int renaming mul_le_mul_of_nonneg_left -> qQ, mul_le_mul_of_nonneg_right -> qJ, mul_nonneg -> qV, le_of_mul_le_mul_left -> qY, eq_of_mul_eq_mul_left -> qA, add_zero -> qM, mul_comm -> xX, mul_nonneg_of_nonpos_of_nonpos -> xK, mul_pos -> xB, le_trans -> xM, le_refl -> xR, pow_succ -> yK
open Nat renaming le_refl -> qK, lt_or_ge -> qW, add_sub_cancel -> xW, lt_of_not_le -> yV, le_of_not_lt -> yY
theorem zrz {a:Nat->Row} {k j c:Nat} (hj:j<k):stg a k j c=0:=by
 unfold stg bord
 have hm:a j∈zct a k:=by simp only [zct,List.mem_map,List.mem_range];exact ⟨j,hj,rfl⟩
 exact zzl (qhs _) (qht _) (L2:=[]) hm
def addG (a:Nat->Row) (i j:Nat) (c:Int):Nat->Row:=fun s t=>a s t+(if s=i then c*a j t else 0)+(if t=i then c*a s j else 0)+(if s=i/\t=i then c*c*a j j else 0)
theorem qib {a:Nat->Row} {i j:Nat} {c:Int} (hji:j<i) (hp:∀t,t<=i->lead a t≠0):∀k,k<=i->(∀t,t<=k->lead (addG a i j c) t=lead a t)/\
  ∀s t,stg (addG a i j c) k s t=stg a k s t+(if s=i then c*stg a k j t else 0)+(if t=i then c*stg a k s j else 0)+(if s=i/\t=i then c*c*stg a k j j else 0):=by
 intro k
 induction k with
 | zero=>
  intro _
  refine ⟨fun t ht=>?_,fun s t=>?_⟩
  ·have:t=0:=Nat.le_zero.1 ht
   subst this;rfl
  ·simp only [zdl];rfl
 | succ k ih=>
  intro hk
  obtain ⟨h1,h2⟩:=ih (by omega)
  have hki:k≠i:=by omega
  have hl:lead (addG a i j c) (k+1)=lead a (k+1):=by
   rw [zaw,h2,if_neg hki,if_neg hki,if_neg (fun e=>hki e.1),zaw];omega
  refine ⟨fun t ht=>?_,fun s t=>?_⟩
  ·rcases qW t (k+1) with e | e
   ·exact h1 t (by omega)
   ·have:t=k+1:=by omega
    rw [this];exact hl
  ·have hne:∀t,t<=k->lead (addG a i j c) t≠0:=fun t ht=>by rw [h1 t ht];exact hp t (by omega)
   have hne0:∀t,t<=k->lead a t≠0:=fun t ht=>hp t (by omega)
   have e:=zbp hne s t
   rw [h1 k (qK _),hl,h2 s t,h2 s k,h2 k t] at e
   simp only [hki,and_false,false_and,if_false,qM] at e
   have r1:=zbp hne0 s t
   have r2:=zbp hne0 j t
   have r3:=zbp hne0 s j
   have r4:=zbp hne0 j j
   refine qA (hp k (by omega)) ?_
   rw [e]
   by_cases hs:s=i
   ·by_cases ht:t=i
    ·subst hs ht
     simp only [and_self,if_true]
     grind
    ·simp only [hs,ht,if_true,if_false,and_false]
     subst hs
     grind
   ·by_cases ht:t=i
    ·simp only [hs,ht,if_true,if_false,false_and]
     subst ht
     grind
    ·simp only [hs,ht,if_false,false_and]
     grind
theorem zzr {a:Nat->Row} {i j n:Nat} {c:Int} (hji:j<i) (hp:∀t,t<=n->lead a t≠0) (hin:i<=n):∀m,i+m<=n->(∀t,t<=i+m->lead (addG a i j c) t=lead a t)/\∀s t,stg (addG a i j c) (i+m) s t=stg a (i+m) s t:=by
 intro m
 induction m with
 | zero=>
  intro _
  obtain ⟨h1,h2⟩:=qib (c:=c) hji (fun t ht=>hp t (by omega)) i (qK _)
  refine ⟨h1,fun s t=>?_⟩
  have z1:∀t,stg a i j t=0:=fun t=>zrz hji
  have z2:∀s,stg a i s j=0:=fun s=>zrw (fun t ht=>hp t (by omega)) s j hji
  rw [Nat.add_zero,h2,z1,z1,z2]
  simp
 | succ m ih=>
  intro hm
  obtain ⟨h1,h2⟩:=ih (by omega)
  have hl:lead (addG a i j c) (i+m+1)=lead a (i+m+1):=by rw [zaw,h2,zaw]
  refine ⟨fun t ht=>?_,fun s t=>?_⟩
  ·rcases qW t (i+m+1) with e | e
   ·exact h1 t (by omega)
   ·have:t=i+m+1:=by omega
    rw [this];exact hl
  ·have hne:∀t,t<=i+m->lead (addG a i j c) t≠0:=fun t ht=>by rw [h1 t ht];exact hp t (by omega)
   have hne0:∀t,t<=i+m->lead a t≠0:=fun t ht=>hp t (by omega)
   have e:=zbp hne s t
   rw [h1 _ (qK _),hl,h2,h2,h2,<-zbp hne0 s t] at e
   exact qA (hne0 _ (qK _)) e
theorem zkd {a:Nat->Row} {i j n:Nat} {c:Int} (hji:j<i) (hin:i<n) (hp:∀t,t<=n->lead a t≠0) {t:Nat} (ht:t<=n):lead (addG a i j c) t=lead a t:=by
 have:=(zzr (c:=c) hji hp (by omega) (n-i) (by omega)).1 t (by omega)
 exact this
theorem qvl {a:Nat->Row} {i j n:Nat} {c:Int} (hji:j<i) (hin:i<n) (hp:∀t,t<=n->lead a t≠0) {s t:Nat} (hts:t<s) (hs:s<n):
  stg (addG a i j c) t s t=stg a t s t+if s=i then (if t<=j then c*stg a t j t else 0) else 0:=by
 rcases qW t i with hlt | hge
 ·rw [(qib (c:=c) hji (fun t ht=>hp t (by omega)) t (by omega)).2 s t]
  rw [if_neg (show ¬t=i by omega),if_neg (show ¬(s=i/\t=i) by omega)]
  by_cases e:s=i
  ·rw [if_pos e,if_pos e]
   by_cases h:t<=j
   ·rw [if_pos h];omega
   ·rw [if_neg h,zrz (show j<t by omega)];simp
  ·rw [if_neg e,if_neg e];omega
 ·obtain ⟨m,rfl⟩:∃m,t=i+m:=⟨t-i,by omega⟩
  rw [(zzr (c:=c) hji hp (by omega) m (by omega)).2 s (i+m),if_neg (by omega)];omega
def sw (p:Nat) (s:Nat):Nat:=if s=p then p+1 else if s=p+1 then p else s
theorem qcu {p s:Nat} (h1:s≠p) (h2:s≠p+1):sw p s=s:=by unfold sw;rw [if_neg h1,if_neg h2]
theorem sw_p {p:Nat}:sw p p=p+1:=by unfold sw;rw [if_pos rfl]
theorem sw_q {p:Nat}:sw p (p+1)=p:=by unfold sw;rw [if_neg (by omega),if_pos rfl]
def swG (a:Nat->Row) (p:Nat):Nat->Row:=fun s t=>a (sw p s) (sw p t)
theorem qic {a:Nat->Row} {p:Nat} (hp:∀t,t<=p->lead a t≠0):∀k,k<=p->(∀t,t<=k->lead (swG a p) t=lead a t)/\∀s t,stg (swG a p) k s t=stg a k (sw p s) (sw p t):=by
 intro k
 induction k with
 | zero=>
  intro _
  refine ⟨fun t ht=>?_,fun s t=>by simp only [zdl];rfl⟩
  have:t=0:=Nat.le_zero.1 ht
  subst this;rfl
 | succ k ih=>
  intro hk
  obtain ⟨h1,h2⟩:=ih (by omega)
  have hkk:sw p k=k:=qcu (by omega) (by omega)
  have hl:lead (swG a p) (k+1)=lead a (k+1):=by rw [zaw,h2,hkk,zaw]
  refine ⟨fun t ht=>?_,fun s t=>?_⟩
  ·rcases qW t (k+1) with e | e
   ·exact h1 t (by omega)
   ·have:t=k+1:=by omega
    rw [this];exact hl
  ·have hne:∀t,t<=k->lead (swG a p) t≠0:=fun t ht=>by rw [h1 t ht];exact hp t (by omega)
   have hne0:∀t,t<=k->lead a t≠0:=fun t ht=>hp t (by omega)
   have e:=zbp hne s t
   rw [h1 k (qK _),hl,h2,h2,h2,hkk,<-zbp hne0] at e
   exact qA (hp k (by omega)) e
theorem qze {a:Nat->Row} {n p:Nat} (hs:∀i j,i<n->j<n->a i j=a j i) (hpn:p+1<n) (hp:∀t,t<=p+1->lead a t≠0):
  lead a (p+1)*lead (swG a p) (p+1)=lead a p*lead a (p+2)+stg a p (p+1) p*stg a p (p+1) p:=by
 have h2:=(qic (fun t ht=>hp t (by omega)) p (qK _)).2
 have r:=zbp (a:=a) (k:=p) (fun t ht=>hp t (by omega)) (p+1) (p+1)
 have sy:=zgl hs p (by omega) (fun t ht=>hp t (by omega)) p (p+1) (by omega) hpn (qK _) (by omega)
 rw [zaw (swG a p) p,h2,sw_p,zaw a (p+1)]
 rw [sy] at r
 omega
theorem dd (d U V W Z:Int):d*d*(U*V-W*Z)=d*U*(d*V)-d*W*(d*Z):=by grind
theorem jbi (a11 a12 a21 a22 a1t a2t as1 as2 ast:Int):(a11*a22-a21*a12)*(a11*ast-as1*a1t)-(a11*as2-as1*a12)*(a11*a2t-a21*a1t)=a11*(a11*(a22*ast-as2*a2t)-a12*(a21*ast-as1*a2t)+a1t*(a21*as2-as1*a22)):=by grind
theorem jbj (a11 a12 a21 a22 a1t a2t as1 as2 ast:Int):(a11*a22-a21*a12)*(a22*ast-as2*a2t)-(a22*as1-as2*a21)*(a22*a1t-a12*a2t)=a22*(a11*(a22*ast-as2*a2t)-a12*(a21*ast-as1*a2t)+a1t*(a21*as2-as1*a22)):=by grind
theorem mlc (u d x:Int):u*(d*d*x)=d*d*(u*x):=by grind
theorem qvm {a:Nat->Row} {n p:Nat} (hs:∀i j,i<n->j<n->a i j=a j i) (hpn:p+1<n) (hp:∀t,t<=n->lead a t≠0) (hm:lead (swG a p) (p+1)≠0):
  ∀m,p+2+m<=n->(∀t,t<=p+2+m->t≠p+1->lead (swG a p) t=lead a t)/\∀s t,stg (swG a p) (p+2+m) s t=stg a (p+2+m) (sw p s) (sw p t):=by
 have ne0:∀{k},k<=n->∀t,t<=k->lead a t≠0:=fun hk t ht=>hp t (by omega)
 obtain ⟨l1,l2⟩:=qic (a:=a) (p:=p) (ne0 (by omega)) p (qK _)
 have np:∀t,t<=p->lead (swG a p) t≠0:=fun t ht=>by rw [l1 t ht];exact hp t (by omega)
 have np1:∀t,t<=p+1->lead (swG a p) t≠0:=fun t ht=>by
  rcases qW t (p+1) with e | e
  ·exact np t (by omega)
  ·have:t=p+1:=by omega
   rw [this];exact hm
 have e1:lead (swG a p) (p+1)=stg a p (p+1) (p+1):=by rw [zaw,l2,sw_p]
 have dp:lead a (p+1)=stg a p p p:=zaw a p
 have A:∀s t,lead a p*stg a (p+1) s t=stg a p p p*stg a p s t-stg a p s p*stg a p p t:=fun s t=>by rw [<-dp];exact zbp (ne0 (by omega)) s t
 have B:∀s t,lead a p*stg (swG a p) (p+1) s t=stg a p (p+1) (p+1)*stg a p (sw p s) (sw p t)-stg a p (sw p s) (p+1)*stg a p (p+1) (sw p t):=fun s t=>by
  have:=zbp np s t
  rw [l1 p (qK _),e1,l2,l2,l2,sw_p] at this
  exact this
 have q2:lead (swG a p) (p+2)=lead a (p+2):=by
  rw [zaw (swG a p) (p+1),zaw a (p+1)]
  refine qA (hp p (by omega)) ?_
  rw [A,B,sw_q]
  grind
 intro m
 induction m with
 | zero=>
  intro _
  refine ⟨fun t ht hne=>?_,fun s t=>?_⟩
  ·rcases qW t (p+1) with e | e
   ·exact l1 t (by omega)
   ·have:t=p+2:=by omega
    rw [this];exact q2
  ·have ra:=zbp (a:=a) (k:=p+1) (ne0 (by omega)) (sw p s) (sw p t)
   have rb:=zbp np1 s t
   rw [q2,e1] at rb
   rw [dp] at ra
   have x1:=A (sw p s) (sw p t)
   have x2:=A (sw p s) (p+1)
   have x3:=A (p+1) (sw p t)
   have x4:=A (p+1) (p+1)
   have y1:=B s t
   have y2:=B s (p+1)
   have y3:=B (p+1) t
   rw [sw_q] at y2 y3
   have hd2:=zaw a (p+1)
   rw [hd2] at ra rb
   have key:lead a p*lead a p*stg (swG a p) (p+2) s t=lead a p*lead a p*stg a (p+2) (sw p s) (sw p t):=by
    have ka:stg a p p p*(lead a p*lead a p*stg a (p+1+1) (sw p s) (sw p t))=stg a p p p*(stg a p p p*(stg a p (p+1) (p+1)*stg a p (sw p s) (sw p t)-stg a p (sw p s) (p+1)*stg a p (p+1) (sw p t))-stg a p p (p+1)*(stg a p (p+1) p*stg a p (sw p s) (sw p t)-stg a p (sw p s) p*stg a p (p+1) (sw p t))+stg a p p (sw p t)*(stg a p (p+1) p*stg a p (sw p s) (p+1)-stg a p (sw p s) p*stg a p (p+1) (p+1))):=by
     rw [mlc,ra,dd,x1,x2,x3,x4,jbi]
    have kb:stg a p (p+1) (p+1)*(lead a p*lead a p*stg (swG a p) (p+1+1) s t)=stg a p (p+1) (p+1)*(stg a p p p*(stg a p (p+1) (p+1)*stg a p (sw p s) (sw p t)-stg a p (sw p s) (p+1)*stg a p (p+1) (sw p t))-stg a p p (p+1)*(stg a p (p+1) p*stg a p (sw p s) (sw p t)-stg a p (sw p s) p*stg a p (p+1) (sw p t))+stg a p p (sw p t)*(stg a p (p+1) p*stg a p (sw p s) (p+1)-stg a p (sw p s) p*stg a p (p+1) (p+1))):=by
     rw [mlc,rb,dd,x4,y1,y2,y3,jbj]
    have n1:stg a p p p≠0:=by rw [<-dp];exact hp (p+1) (by omega)
    have n2:stg a p (p+1) (p+1)≠0:=by rw [<-e1];exact hm
    exact (qA n2 kb).trans (qA n1 ka).symm
   have h0:=hp p (by omega)
   exact qA (Int.mul_ne_zero h0 h0) key
 | succ m ih=>
  intro hm'
  obtain ⟨h1,h2⟩:=ih (by omega)
  have hk:sw p (p+2+m)=p+2+m:=qcu (by omega) (by omega)
  have hl:lead (swG a p) (p+2+m+1)=lead a (p+2+m+1):=by rw [zaw,h2,hk,zaw]
  refine ⟨fun t ht hne=>?_,fun s t=>?_⟩
  ·rcases qW t (p+2+m+1) with e | e
   ·exact h1 t (by omega) hne
   ·have:t=p+2+m+1:=by omega
    rw [this];exact hl
  ·have hne:∀t,t<=p+2+m->lead (swG a p) t≠0:=fun t ht=>by
    rcases qW t (p+2) with e | e
    ·exact np1 t (by omega)
    ·rw [h1 t ht (by omega)];exact hp t (by omega)
   have e:=zbp hne s t
   rw [h1 _ (qK _) (by omega),hl,h2,h2,h2,hk,<-zbp (ne0 (by omega))] at e
   exact qA (hp _ (by omega)) e
theorem qvn {a:Nat->Row} {n p:Nat} (hs:∀i j,i<n->j<n->a i j=a j i) (hpn:p+1<n) (hp:∀t,t<=n->0<lead a t) (hlov:¬3*(lead a (p+1)*lead a (p+1))<=4*(lead a p*lead a (p+2)+stg a p (p+1) p*stg a p (p+1) p)):
  (∀t,t<=n->t≠p+1->lead (swG a p) t=lead a t)/\0<lead (swG a p) (p+1)/\lead (swG a p) (p+1)<lead a (p+1):=by
 have hne:∀t,t<=n->lead a t≠0:=fun t ht=>by have:=hp t ht;omega
 have mid:=qze hs hpn (fun t ht=>hne t (by omega))
 have p0:=hp p (by omega)
 have p1:=hp (p+1) (by omega)
 have p2:=hp (p+2) (by omega)
 have m1:=xB p0 p2
 have m2:0<=stg a p (p+1) p*stg a p (p+1) p:=by
  rcases Int.le_total 0 (stg a p (p+1) p) with h | h
  ·exact qV h h
  ·exact xK h h
 have pm:0<lead (swG a p) (p+1):=by
  have:0<lead a (p+1)*lead (swG a p) (p+1):=by omega
  rcases (by omega:lead (swG a p) (p+1)<=0\/0<lead (swG a p) (p+1)) with h | h
  ·have:=qQ h (show 0<=lead a (p+1) by omega)
   omega
  ·exact h
 refine ⟨fun t ht hne2=>?_,pm,?_⟩
 ·rcases qW t (p+2) with e | e
  ·exact (qic (fun t ht=>hne t (by omega)) p (qK _)).1 t (by omega)
  ·exact (qvm hs hpn hne (by omega) (n-(p+2)) (by omega)).1 t (by omega) hne2
 ·have h1:lead a (p+1)*lead (swG a p) (p+1)<lead a (p+1)*lead a (p+1):=by
   have:=xB p1 p1
   omega
  exact Int.lt_of_mul_lt_mul_left h1 (by omega)
structure Pos (n:Nat) (D:Int) (a:Nat->Row):Prop where
 sym:∀i j,i<n->j<n->a i j=a j i
 pos:∀k,k<=n->0<lead a k
 le:∀k,k<=n->lead a k<=D
section
variable {n:Nat} {D:Int} {a:Nat->Row}
theorem Pos.ne (h:Pos n D a) {k:Nat} (hk:k<=n):∀t,t<=k->lead a t≠0:=fun t ht=>by have:=h.pos t (by omega);omega
theorem Pos.sq (h:Pos n D a) {s k:Nat} (hs:s<n) (hk:k<s):lead a k*stg a (k+1) s s=lead a (k+1)*stg a k s s-stg a k s k*stg a k s k:=by
 have e:=zbp (h.ne (k:=k) (by omega)) s s
 rw [zgl h.sym k (by omega) (h.ne (by omega)) k s (by omega) hs (qK _) (by omega)] at e
 exact e
theorem zea (x:Int):0<=x*x:=by
 rcases Int.le_total 0 x with h | h
 ·exact qV h h
 ·exact xK h h
theorem qcv {x y:Int} (hx:0<x) (h:0<x*y):0<y:=by
 rcases (by omega:y<=0\/0<y) with h2 | h2
 ·have:=qQ h2 (show 0<=x by omega)
  omega
 ·exact h2
theorem Pos.diag (h:Pos n D a) {s:Nat} (hs:s<n):∀m k,k+m=s->0<stg a k s s:=by
 intro m
 induction m with
 | zero=>
  intro k hk
  have:k=s:=by omega
  subst this
  rw [<-zaw];exact h.pos _ (by omega)
 | succ m ih=>
  intro k hk
  have e:=h.sq hs (show k<s by omega)
  have h1:=ih (k+1) (by omega)
  have h2:=xB (h.pos k (by omega)) h1
  have h3:=zea (stg a k s k)
  exact qcv (h.pos (k+1) (by omega)) (by omega)
theorem Pos.down (h:Pos n D a) {s:Nat} (hs:s<n):∀k,k<=s->stg a k s s<=lead a k*a s s:=by
 intro k
 induction k with
 | zero=>intro _;rw [zdl,zax];omega
 | succ k ih=>
  intro hk
  have e:=h.sq hs (show k<s by omega)
  have h3:=zea (stg a k s k)
  have h1:=qQ (ih (by omega)) (show 0<=lead a (k+1) by have:=h.pos (k+1) (by omega);omega)
  have h2:lead a k*stg a (k+1) s s<=lead a k*(lead a (k+1)*a s s):=by
   have:lead a (k+1)*(lead a k*a s s)=lead a k*(lead a (k+1)*a s s):=by grind
   omega
  exact qY h2 (h.pos k (by omega))
theorem Pos.lam_sq (h:Pos n D a) {s k:Nat} (hs:s<n) (hk:k<s):stg a k s k*stg a k s k<=lead a (k+1)*(lead a k*a s s):=by
 have e:=h.sq hs hk
 have h1:=xB (h.pos k (by omega)) (h.diag hs (s-(k+1)) (k+1) (by omega))
 have h2:=qQ (h.down hs k (by omega)) (show 0<=lead a (k+1) by have:=h.pos (k+1) (by omega);omega)
 omega
theorem zhj {x m:Int} (hm:0<=m) (h:x*x<=m*m):x<=m/\ -m<=x:=by
 constructor
 ·rcases (by omega:x<=m\/m<x) with h1 | h1
  ·exact h1
  ·have h2:=qQ (show m+1<=x by omega) (show 0<=x by omega)
   have h3:=qJ (show m+1<=x by omega) (show 0<=m+1 by omega)
   have e1:(m+1)*(m+1)=m*m+2*m+1:=by grind
   have e2:x*(m+1)=(m+1)*x:=xX _ _
   omega
 ·rcases (by omega: -m<=x\/x< -m) with h1 | h1
  ·exact h1
  ·have h2:=qQ (show m+1<= -x by omega) (show 0<= -x by omega)
   have h3:=qJ (show m+1<= -x by omega) (show 0<=m+1 by omega)
   have e1:(m+1)*(m+1)=m*m+2*m+1:=by grind
   have e2: -x*(m+1)=(m+1)* -x:=xX _ _
   have e3: -x* -x=x*x:=by grind
   omega
theorem Pos.one (h:Pos n D a):1<=D:=by have:=h.le 0 (by omega);rw [zax] at this;omega
theorem Pos.lam_le (h:Pos n D a) {s k:Nat} {K:Int} (hs:s<n) (hk:k<s) (hK:a s s<=K) (hK1:1<=K):stg a k s k<=lead a (k+1)*(K*D)/\ -(lead a (k+1)*(K*D))<=stg a k s k:=by
 have p1:=h.pos (k+1) (by omega)
 have p0:=h.pos k (by omega)
 have l0:=h.le k (by omega)
 have hD:=h.one
 have hKD:1<=K*D:=by have:=qQ hD (show 0<=K by omega);omega
 refine zhj (qV (by omega) (by omega)) ?_
 have q:=h.lam_sq hs hk
 have q1:lead a k*a s s<=D*K:=by
  have m1:=qQ hK (show 0<=lead a k by omega)
  have m2:=qJ l0 (show 0<=K by omega)
  omega
 have q2:=qQ q1 (show 0<=lead a (k+1) by omega)
 have c:D*K=K*D:=xX _ _
 have q3:lead a (k+1)*(K*D)<=(lead a (k+1)*(K*D))*(lead a (k+1)*(K*D)):=by
  have z:1<=lead a (k+1)*(K*D):=by have:=qQ hKD (show 0<=lead a (k+1) by omega);omega
  have:=qQ z (show 0<=lead a (k+1)*(K*D) by omega)
  omega
 rw [c] at q2
 omega
theorem Pos.norm_le (h:Pos n D a) {s:Nat} (hs:s<n) {m:Int} (hl:∀k,k<s->stg a k s k<=lead a (k+1)*m/\ -(lead a (k+1)*m)<=stg a k s k):∀c k,k+c=s->stg a k s s<=lead a k*(D+(c:Int)*(D*(m*m))):=by
 intro c
 induction c with
 | zero=>
  intro k hk
  have:k=s:=by omega
  subst this
  rw [<-zaw]
  have h1:=h.le (k+1) (by omega)
  have h0:=h.pos k (by omega)
  have:=qJ (show (1:Int)<=lead a k by omega) (show 0<=D by have:=h.one;omega)
  have e:lead a k*(D+((0:Nat):Int)*(D*(m*m)))=lead a k*D:=by simp
  omega
 | succ c ih=>
  intro k hk
  have e:=h.sq hs (show k<s by omega)
  have i1:=ih (k+1) (by omega)
  obtain ⟨l1,l2⟩:=hl k (by omega)
  have q:=qza l1 l2
  have p0:=h.pos k (by omega)
  have p1:=h.pos (k+1) (by omega)
  have d1:=h.le (k+1) (by omega)
  have m1:=qQ i1 (show 0<=lead a k by omega)
  have mm:=zea m
  have x1:lead a (k+1)*(lead a (k+1)*(m*m))<=lead a (k+1)*(lead a k*(D*(m*m))):=by
   refine qQ ?_ (by omega)
   have y1:=qJ d1 mm
   have y2:=qJ (show (1:Int)<=lead a k by omega) (qV (show 0<=D by omega) mm)
   omega
  have z:lead a (k+1)*stg a k s s<=lead a (k+1)*(lead a k*(D+((c+1:Nat):Int)*(D*(m*m)))):=by
   have e1:lead a (k+1)*m*(lead a (k+1)*m)=lead a (k+1)*(lead a (k+1)*(m*m)):=by grind
   have e2:lead a k*(lead a (k+1)*(D+(c:Int)*(D*(m*m))))=lead a (k+1)*(lead a k*(D+(c:Int)*(D*(m*m)))):=by grind
   have e3:lead a (k+1)*(lead a k*(D+((c+1:Nat):Int)*(D*(m*m))))=lead a (k+1)*(lead a k*(D+(c:Int)*(D*(m*m))))+lead a (k+1)*(lead a k*(D*(m*m))):=by
    have:((c+1:Nat):Int)=(c:Int)+1:=by omega
    rw [this];grind
   omega
  exact qY z p1
theorem Pos.norm (h:Pos n D a) {s:Nat} (hs:s<n) {m:Int} (hl:∀k,k<s->stg a k s k<=lead a (k+1)*m/\ -(lead a (k+1)*m)<=stg a k s k):a s s<=D+(s:Int)*(D*(m*m)):=by
 have:=h.norm_le hs hl s 0 (by omega)
 rw [zdl,zax] at this
 omega
theorem Pos.entry (h:Pos n D a) {s t:Nat} (hs:s<n) (ht:t<=s):∀m k,k+m=t->2*stg a k s t<=stg a k s s+stg a k t t/\ -(2*stg a k s t)<=stg a k s s+stg a k t t:=by
 intro m
 induction m with
 | zero=>
  intro k hk
  have hkt:k=t:=by omega
  subst hkt
  rcases qW k s with h1 | h1
  ·have e:=h.sq hs h1
   have p:=xB (h.pos k (by omega)) (h.diag hs (s-(k+1)) (k+1) (by omega))
   have d:=zaw a k
   rw [d] at e
   have p1:=h.diag hs (s-k) k (by omega)
   have p2:0<stg a k k k:=by rw [<-d];exact h.pos _ (by omega)
   have q:2*stg a k s k*(2*stg a k s k)<=(stg a k s s+stg a k k k)*(stg a k s s+stg a k k k):=by
    have w:=zea (stg a k s s-stg a k k k)
    have e1:(stg a k s s-stg a k k k)*(stg a k s s-stg a k k k)=(stg a k s s+stg a k k k)*(stg a k s s+stg a k k k)-4*(stg a k k k*stg a k s s):=by grind
    have e2:2*stg a k s k*(2*stg a k s k)=4*(stg a k s k*stg a k s k):=by grind
    omega
   have:=zhj (by omega) q
   omega
  ·have:k=s:=by omega
   subst this
   have:=h.diag hs 0 k (by omega)
   omega
 | succ m ih=>
  intro k hk
  obtain ⟨i1,i2⟩:=ih (k+1) (by omega)
  have e1:=h.sq hs (show k<s by omega)
  have e2:=h.sq (show t<n by omega) (show k<t by omega)
  have hn:=h.ne (k:=k) (by omega)
  have e3:=zbp hn s t
  rw [zgl h.sym k (by omega) hn k t (by omega) (by omega) (qK _) (by omega)] at e3
  have p0:=h.pos k (by omega)
  have p1:=h.pos (k+1) (by omega)
  have w1:=zea (stg a k s k-stg a k t k)
  have w2:=zea (stg a k s k+stg a k t k)
  have f1:(stg a k s k-stg a k t k)*(stg a k s k-stg a k t k)=stg a k s k*stg a k s k+stg a k t k*stg a k t k-2*(stg a k s k*stg a k t k):=by grind
  have f2:(stg a k s k+stg a k t k)*(stg a k s k+stg a k t k)=stg a k s k*stg a k s k+stg a k t k*stg a k t k+2*(stg a k s k*stg a k t k):=by grind
  have m1:=qQ i1 (show 0<=lead a k by omega)
  have m2:=qQ i2 (show 0<=lead a k by omega)
  have g1:lead a k*(2*stg a (k+1) s t)=2*(lead a k*stg a (k+1) s t):=by grind
  have g2:lead a k*(-(2*stg a (k+1) s t))= -(2*(lead a k*stg a (k+1) s t)):=by grind
  have g3:lead a k*(stg a (k+1) s s+stg a (k+1) t t)=lead a k*stg a (k+1) s s+lead a k*stg a (k+1) t t:=by grind
  have c1:lead a (k+1)*(2*stg a k s t)<=lead a (k+1)*(stg a k s s+stg a k t t):=by
   have h1:lead a (k+1)*(2*stg a k s t)=2*(lead a (k+1)*stg a k s t):=by grind
   have h2:lead a (k+1)*(stg a k s s+stg a k t t)=lead a (k+1)*stg a k s s+lead a (k+1)*stg a k t t:=by grind
   omega
  have c2:lead a (k+1)*(-(2*stg a k s t))<=lead a (k+1)*(stg a k s s+stg a k t t):=by
   have h1:lead a (k+1)*(-(2*stg a k s t))= -(2*(lead a (k+1)*stg a k s t)):=by grind
   have h2:lead a (k+1)*(stg a k s s+stg a k t t)=lead a (k+1)*stg a k s s+lead a (k+1)*stg a k t t:=by grind
   omega
  exact ⟨qY c1 p1,qY c2 p1⟩
theorem Pos.bound (h:Pos n D a) {K:Int} (hK:∀s,s<n->a s s<=K) {s t:Nat} (hs:s<n) (ht:t<n):a s t<=K/\ -K<=a s t:=by
 have key:∀s t,s<n->t<=s->a s t<=K/\ -K<=a s t:=by
  intro s t hs ht
  have:=h.entry hs ht t 0 (by omega)
  simp only [zdl] at this
  have:=hK s hs
  have:=hK t (by omega)
  omega
 rcases Nat.le_total t s with h1 | h1
 ·exact key s t hs h1
 ·rw [h.sym s t hs ht];exact key t s ht h1
end
def SZ (a:Nat->Row) (i j:Nat):Prop:=2*stg a j i j<=lead a (j+1)/\ -(2*stg a j i j)<=lead a (j+1)
def LV (a:Nat->Row) (i:Nat):Prop:=3*(lead a i*lead a i)<=4*(lead a (i-1)*lead a (i+1)+stg a (i-1) i (i-1)*stg a (i-1) i (i-1))
def OKr (a:Nat->Row) (i:Nat):Prop:=(∀j,j<i->SZ a i j)/\(0<i->LV a i)
structure CurA (n:Nat) (a:Nat->Row) (i j:Nat):Prop where
 hi:i<n
 hj:j<i
 pre:∀s,s<i->OKr a s
 up:∀l,j<l->l<i->SZ a i l
 no:¬SZ a i j
structure CurS (n:Nat) (a:Nat->Row) (i:Nat):Prop where
 hi:i<n
 h0:0<i
 pre:∀s,s<i->OKr a s
 up:∀l,l<i->SZ a i l
 no:¬LV a i
structure Good (n:Nat) (D K:Int) (a:Nat->Row):Prop where
 cA:∀i j,CurA n a i j->(∀s,s<n->s≠i->a s s<=K)/\∀l,l<=j->stg a l i l<=lead a (l+1)*(2^(i-1-j)*(K*D))/\ -(lead a (l+1)*(2^(i-1-j)*(K*D)))<=stg a l i l
 cS:∀i,CurS n a i->∀s,s<n->a s s<=K
 cE:(∀i,i<n->OKr a i)->∀s,s<n->a s s<=K
section
variable {n:Nat} {D K:Int} {a:Nat->Row}
theorem zsa (e:Nat):(1:Int)<=2^e:=by
 induction e with
 | zero=>decide
 | succ e ih=>rw [yK];omega
theorem zuo {e f:Nat} (h:e<=f):(2:Int)^e<=2^f:=by
 induction f with
 | zero=>have:e=0:=by omega
         subst this;exact xR _
 | succ f ih=>
  rcases qW e (f+1) with h1 | h1
  ·have:=ih (by omega)
   have:=zsa f
   rw [yK];omega
  ·have:e=f+1:=by omega
   rw [this];exact xR _
theorem zsb (h:Pos n D a) (hK:1<=K) (ha:∀s,s<n->a s s<=K):Good n D K a:=by
 refine ⟨fun i j c=>⟨fun s hs _=>ha s hs,fun l hl=>?_⟩,fun _ _=>ha,fun _=>ha⟩
 have:=h.lam_le c.hi (show l<i by have:=c.hj;omega) (ha i c.hi) hK
 have p:=h.pos (l+1) (by have:=c.hj;have:=c.hi;omega)
 have hKD:0<=K*D:=qV (by omega) (by have:=h.one;omega)
 have q:lead a (l+1)*(K*D)<=lead a (l+1)*(2^(i-1-j)*(K*D)):=by
  refine qQ ?_ (by omega)
  have:=qJ (zsa (i-1-j)) hKD
  omega
 omega
theorem qvo (h:Pos n D a) (h8:n<=8) (hKD:8*D<=K) {s:Nat} (hs:s<n) (hz:∀l,l<s->SZ a s l):a s s<=K:=by
 have:=h.norm hs (m:=1) (fun k hk=>by
  obtain ⟨z1,z2⟩:=hz k hk
  have:=h.pos (k+1) (by omega)
  omega)
 have e:(D:Int)*(1*1)=D:=by omega
 rw [e] at this
 have hD:=h.one
 have:(s:Int)*D<=7*D:=qJ (by omega) (by omega)
 omega
theorem qvp {i j:Nat} {c:Int} (h:Pos n D a) (hi:i<n) (hj:j<i):Pos n D (addG a i j c):=by
 have hn:=h.ne (k:=n) (qK _)
 refine ⟨fun s t hs ht=>?_,fun k hk=>by rw [zkd hj hi hn hk];exact h.pos k hk,fun k hk=>by rw [zkd hj hi hn hk];exact h.le k hk⟩
 unfold addG
 rw [h.sym s t hs ht,h.sym j t (by omega) ht,h.sym s j hs (by omega)]
 have e:(s=i/\t=i)↔(t=i/\s=i):=And.comm
 simp only [e]
 omega
theorem zzs {i j:Nat} {c:Int} (h:Pos n D a) (h8:n<=8) (hK:1<=K) (hKD:8*D<=K) (hc:CurA n a i j) (hg:Good n D K a) (hz:2*(stg a j i j+c*lead a (j+1))<=lead a (j+1)/\ -(2*(stg a j i j+c*lead a (j+1)))<=lead a (j+1)):
  (c<=2^(i-1-j)*(K*D)/\ -(2^(i-1-j)*(K*D))<=c)/\Pos n D (addG a i j c)/\Good n D K (addG a i j c)/\
   (∀i' j',CurA n (addG a i j c) i' j'->i<=i'/\(i'=i->j'<j))/\∀i',CurS n (addG a i j c) i'->i<=i':=by
 have hi:=hc.hi
 have hj:=hc.hj
 have hn:=h.ne (k:=n) (qK _)
 have hp':=qvp (c:=c) h hi hj
 obtain ⟨g1,g2⟩:=hg.cA i j hc
 have hM:1<=2^(i-1-j)*(K*D):=by
  have h1:=zsa (i-1-j)
  have h2:1<=K*D:=by have:=qQ h.one (show 0<=K by omega);omega
  have:=qQ h2 (show (0:Int)<=2^(i-1-j) by omega)
  omega
 have hcb:c<=2^(i-1-j)*(K*D)/\ -(2^(i-1-j)*(K*D))<=c:=by
  obtain ⟨b1,b2⟩:=g2 j (qK _)
  have p:=h.pos (j+1) (by omega)
  generalize 2^(i-1-j)*(K*D)=M at*
  generalize lead a (j+1)=d at*
  have t1:d*(2*c)<=d*(2*M+1):=by
   have e1:d*(2*c)=2*(c*d):=by grind
   have e2:d*(2*M+1)=2*(d*M)+d:=by grind
   omega
  have t2:d*(-(2*c))<=d*(2*M+1):=by
   have e1:d*(-(2*c))= -(2*(c*d)):=by grind
   have e2:d*(2*M+1)=2*(d*M)+d:=by grind
   omega
  have u1:=qY t1 p
  have u2:=qY t2 p
  omega
 have lam:∀s t,t<s->s<n->stg (addG a i j c) t s t=stg a t s t+if s=i then (if t<=j then c*stg a t j t else 0) else 0:=fun s t h1 h2=>qvl hj hi hn h1 h2
 have ld:∀t,t<=n->lead (addG a i j c) t=lead a t:=fun t ht=>zkd hj hi hn ht
 have szk:∀s l,l<s->s<n->s≠i->(SZ (addG a i j c) s l↔SZ a s l):=fun s l h1 h2 h3=>by
  unfold SZ
  rw [lam s l h1 h2,if_neg h3,ld _ (by omega),qM]
 have lvk:∀s,0<s->s<n->s≠i->(LV (addG a i j c) s↔LV a s):=fun s h1 h2 h3=>by
  unfold LV
  rw [lam s (s-1) (by omega) h2,if_neg h3,ld _ (by omega),ld _ (by omega),ld _ (by omega),qM]
 have dg:∀s,s≠i->(addG a i j c) s s=a s s:=fun s hs=>by
  unfold addG
  rw [if_neg hs,if_neg hs,if_neg (fun e=>hs e.1)];omega
 have low:∀i' j',CurA n (addG a i j c) i' j'->i<=i'/\(i'=i->j'<j):=by
  intro i' j' hc'
  refine ⟨yY fun hlt=>?_,fun e=>?_⟩
  ·have:=(hc.pre i' hlt).1 j' hc'.hj
   exact hc'.no ((szk i' j' hc'.hj hc'.hi (by omega)).2 this)
  ·subst e
   refine yV fun hle=>?_
   have hj':=hc'.hj
   apply hc'.no
   unfold SZ
   rw [lam i' j' hj' hi,if_pos rfl,ld _ (by omega)]
   rcases qW j j' with h1 | h1
   ·rw [if_neg (by omega),qM];exact hc.up j' h1 hj'
   ·have:j'=j:=by omega
    subst this
    rw [if_pos (qK _),<-zaw]
    exact hz
 have lowS:∀i',CurS n (addG a i j c) i'->i<=i':=by
  intro i' hc'
  refine yY fun hlt=>?_
  have:=(hc.pre i' hlt).2 hc'.h0
  exact hc'.no ((lvk i' hc'.h0 hc'.hi (by omega)).2 this)
 have done:(∀l,l<i->SZ (addG a i j c) i l)->∀s,s<n->(addG a i j c) s s<=K:=by
  intro hz' s hs
  by_cases e:s=i
  ·subst e;exact qvo hp' h8 hKD hs hz'
  ·rw [dg s e];exact g1 s hs e
 refine ⟨hcb,hp',⟨fun i' j' hc'=>?_,fun i' hc'=>?_,fun hall=>done (hall i hi).1⟩,low,lowS⟩
 ·obtain ⟨l1,l2⟩:=low i' j' hc'
  by_cases e:i'=i
  ·subst e
   have hlt:=l2 rfl
   refine ⟨fun s hs hne=>by rw [dg s hne];exact g1 s hs hne,fun l hl=>?_⟩
   obtain ⟨b1,b2⟩:=g2 l (by omega)
   obtain ⟨z1,z2⟩:=(hc.pre j hj).1 l (by omega)
   have p:=h.pos (l+1) (by omega)
   rw [lam i' l (by omega) hi,if_pos rfl,if_pos (by omega),ld _ (by omega)]
   have m:=zny hcb.1 hcb.2 z1 (by omega)
   have e2:c*(2*stg a l j l)=2*(c*stg a l j l):=by grind
   rw [e2] at m
   have pw:(2:Int)^(i'-1-j)*2<=2^(i'-1-j'):=by
    rw [<-yK];exact zuo (by omega)
   have hKD0:0<=K*D:=qV (by omega) (by have:=h.one;omega)
   have pw2:=qJ pw hKD0
   have pw3:=qQ pw2 (show 0<=lead a (l+1) by omega)
   have e3:lead a (l+1)*(2^(i'-1-j)*2*(K*D))=2*(lead a (l+1)*(2^(i'-1-j)*(K*D))):=by grind
   have e4:2^(i'-1-j)*(K*D)*lead a (l+1)=lead a (l+1)*(2^(i'-1-j)*(K*D)):=xX _ _
   have pp:=qV (show 0<=lead a (l+1) by omega) (show 0<=2^(i'-1-j)*(K*D) by omega)
   rw [e3] at pw3
   rw [e4] at m
   omega
  ·have hlt:i<i':=by omega
   have hall:=done (hc'.pre i hlt).1
   exact (zsb hp' hK hall).cA i' j' hc'
 ·have l1:=lowS i' hc'
  by_cases e:i'=i
  ·subst e;exact done hc'.up
  ·exact done (hc'.pre i (by omega)).1
theorem zxc {p s:Nat} (hp:p+1<n) (hs:s<n):sw p s<n:=by
 unfold sw
 split
 ·omega
 ·split<;>omega
theorem zxd {i:Nat} (h:Pos n D a) (hK:1<=K) (hc:CurS n a i) (hg:Good n D K a):Pos n D (swG a (i-1))/\Good n D K (swG a (i-1))/\(∀t,t<=n->t≠i->lead (swG a (i-1)) t=lead a t)/\lead (swG a (i-1)) i<lead a i:=by
 have hi:=hc.hi
 have h0:=hc.h0
 obtain ⟨p,rfl⟩:∃p,i=p+1:=⟨i-1,by omega⟩
 simp only [xW]
 have hno:=hc.no
 unfold LV at hno
 simp only [xW] at hno
 obtain ⟨s1,s2,s3⟩:=qvn h.sym hi h.pos hno
 have hP:Pos n D (swG a p):=by
  refine ⟨fun s t hs ht=>h.sym _ _ (zxc hi hs) (zxc hi ht),fun k hk=>?_,fun k hk=>?_⟩
  ·by_cases e:k=p+1
   ·rw [e];exact s2
   ·rw [s1 k hk e];exact h.pos k hk
  ·by_cases e:k=p+1
   ·rw [e];have:=h.le (p+1) (by omega);omega
   ·rw [s1 k hk e];exact h.le k hk
 exact ⟨hP,zsb hP hK (fun s hs=>hg.cS _ hc _ (zxc hi hs)),s1,s3⟩
def zje (a:Nat->Row):Nat->Nat
 | 0=>1
 | k+1=>zje a k*(lead a (k+1)).toNat
theorem zpr {b:Nat->Row}:∀k,(∀t,t<=k->lead b t=lead a t)->zje b k=zje a k:=by
 intro k
 induction k with
 | zero=>intro _;rfl
 | succ k ih=>intro h;simp only [zje];rw [ih (fun t ht=>h t (by omega)),h (k+1) (qK _)]
theorem qop:∀k,(∀t,t<=k->0<lead a t)->0<zje a k:=by
 intro k
 induction k with
 | zero=>intro _;exact Nat.one_pos
 | succ k ih=>
  intro h
  have:=h (k+1) (qK _)
  exact Nat.mul_pos (ih (fun t ht=>h t (by omega))) (by omega)
theorem qvq {b:Nat->Row} {i:Nat} (h0:0<i) (hl:lead b i<lead a i) (hb:0<lead b i):∀k,i<=k->(∀t,t<=k->t≠i->lead b t=lead a t)->(∀t,t<=k->0<lead a t)->zje b k<zje a k:=by
 intro k
 induction k with
 | zero=>intro h1;omega
 | succ k ih=>
  intro h1 h2 h3
  simp only [zje]
  by_cases e:i=k+1
  ·subst e
   rw [zpr k (fun t ht=>h2 t (by omega) (by omega))]
   have:=qop k (fun t ht=>h3 t (by omega))
   exact Nat.mul_lt_mul_of_pos_left (by omega) this
  ·rw [h2 (k+1) (qK _) (fun x=>e x.symm)]
   have:=h3 (k+1) (qK _)
   exact Nat.mul_lt_mul_of_pos_right (ih (by omega) (fun t ht hne=>h2 t (by omega) hne) (fun t ht=>h3 t (by omega))) (by omega)
def bigK (D K:Int):Int:=D+8*(D*((2^7*(K*D))*(2^7*(K*D))))
theorem qid (h:Pos n D a) (h8:n<=8) (hK:1<=K) (hg:Good n D K a) (hcase:(∃i j,CurA n a i j)\/(∃i,CurS n a i)\/∀i,i<n->OKr a i) {s:Nat} (hs:s<n):a s s<=bigK D K:=by
 have hD:=h.one
 have h1:1<=K*D:=by have:=qQ hD (show 0<=K by omega);omega
 have hm:K*D<=2^7*(K*D):=by omega
 have hmm:2^7*(K*D)<=(2^7*(K*D))*(2^7*(K*D)):=by
  have:=qQ (show 1<=2^7*(K*D) by omega) (show 0<=2^7*(K*D) by omega)
  omega
 have hK2:K<=K*D:=by have:=qQ hD (show 0<=K by omega);omega
 have hDm:(2^7*(K*D))*(2^7*(K*D))<=D*((2^7*(K*D))*(2^7*(K*D))):=by
  have:=qJ hD (show 0<=(2^7*(K*D))*(2^7*(K*D)) by omega)
  omega
 have hKB:K<=bigK D K:=by unfold bigK;omega
 rcases hcase with ⟨i,j,hc⟩ | ⟨i,hc⟩ | hall
 ·obtain ⟨g1,g2⟩:=hg.cA i j hc
  by_cases e:s=i
  ·subst e
   have:=h.norm hs (m:=2^7*(K*D)) (fun k hk=>by
    have p:=h.pos (k+1) (by omega)
    have q:lead a (k+1)<=lead a (k+1)*(2^7*(K*D)):=by
     have:=qQ (show 1<=2^7*(K*D) by omega) (show 0<=lead a (k+1) by omega)
     omega
    rcases qW j k with h2 | h2
    ·obtain ⟨z1,z2⟩:=hc.up k h2 hk
     omega
    ·obtain ⟨b1,b2⟩:=g2 k h2
     have w:(2:Int)^(s-1-j)<=2^7:=zuo (by omega)
     have w2:=qJ w (show 0<=K*D by omega)
     have w3:=qQ w2 (show 0<=lead a (k+1) by omega)
     omega)
   have f:(s:Int)*(D*((2^7*(K*D))*(2^7*(K*D))))<=8*(D*((2^7*(K*D))*(2^7*(K*D)))):=qJ (by omega) (by omega)
   unfold bigK
   omega
  ·exact xM (g1 s hs e) hKB
 ·exact xM (hg.cS i hc s hs) hKB
 ·exact xM (hg.cE hall s hs) hKB
end
theorem zei (f g:Nat->Int) (n:Nat):sumR (fun i=>f i+g i) n=sumR f n+sumR g n:=by
 induction n with
 | zero=>rfl
 | succ n ih=>simp only [sumR,ih];omega
theorem zda (c:Int) (f:Nat->Int) (n:Nat):sumR (fun i=>c*f i) n=c*sumR f n:=by
 induction n with
 | zero=>simp [sumR]
 | succ n ih=>simp only [sumR,ih];grind
theorem zid {f:Nat->Int} {n k:Nat} (hk:k<n) (h:∀t,t<n->t≠k->f t=0):sumR f n=f k:=by
 induction n with
 | zero=>omega
 | succ n ih=>
  simp only [sumR]
  by_cases e:k=n
  ·subst e
   rw [zez (fun t ht=>h t (by omega) (by omega))];omega
  ·rw [ih (by omega) (fun t ht hne=>h t (by omega) hne),h n (by omega) (fun x=>e x.symm)];omega
theorem zzt {f:Nat->Int} {n:Nat} {c:Int} (h:∀t,t<n->f t<=c/\ -c<=f t):sumR f n<=n*c/\ -(n*c)<=sumR f n:=by
 induction n with
 | zero=>simp [sumR]
 | succ n ih=>
  obtain ⟨h1,h2⟩:=ih (fun t ht=>h t (by omega))
  obtain ⟨h3,h4⟩:=h n (by omega)
  simp only [sumR]
  have e:((n+1:Nat):Int)*c=(n:Int)*c+c:=by rw [show ((n+1:Nat):Int)=(n:Int)+1 by omega];grind
  omega
def linK (a:Nat->Row) (n k s:Nat) (v:Nat->Int):Int:=sumR (fun t=>stg a k s t*v t) n
def quaK (a:Nat->Row) (n k:Nat) (v:Nat->Int):Int:=sumR (fun s=>linK a n k s v*v s) n
section
variable {n:Nat} {D:Int} {a:Nat->Row}
theorem qvr (h:Pos n D a) {k s:Nat} (hk:k<n) (v:Nat->Int):lead a k*linK a n (k+1) s v=lead a (k+1)*linK a n k s v-stg a k s k*linK a n k k v:=by
 unfold linK
 rw [<-zda,<-zda,<-zda]
 have e:sumR (fun i=>lead a k*(stg a (k+1) s i*v i)) n=sumR (fun i=>lead a (k+1)*(stg a k s i*v i)+(-1)*(stg a k s k*(stg a k k i*v i))) n:=by
  refine zas fun i _=>?_
  have r:=zbp (h.ne (k:=k) (by omega)) s i
  have:lead a k*(stg a (k+1) s i*v i)=(lead a k*stg a (k+1) s i)*v i:=by grind
  rw [this,r];grind
 rw [e,zei,zda (-1)]
 omega
theorem zxe (h:Pos n D a) {k:Nat} (hk:k<n) (v:Nat->Int):lead a k*quaK a n (k+1) v=lead a (k+1)*quaK a n k v-linK a n k k v*linK a n k k v:=by
 unfold quaK
 rw [<-zda,<-zda]
 have hl:linK a n k k v*linK a n k k v=sumR (fun s=>linK a n k k v*(stg a k s k*v s)) n:=by
  rw [zda]
  congr 1
  unfold linK
  refine zas fun s hs=>?_
  rcases qW s k with h1 | h1
  ·rw [zrz h1,zrw (h.ne (k:=k) (by omega)) k s h1]
  ·rw [zgl h.sym k hk (h.ne (by omega)) k s hk hs (qK _) h1]
 have e:sumR (fun i=>lead a k*(linK a n (k+1) i v*v i)) n=sumR (fun i=>lead a (k+1)*(linK a n k i v*v i)+(-1)*(linK a n k k v*(stg a k i k*v i))) n:=by
  refine zas fun i _=>?_
  have r:=qvr h (s:=i) hk v
  have:lead a k*(linK a n (k+1) i v*v i)=(lead a k*linK a n (k+1) i v)*v i:=by grind
  rw [this,r];grind
 rw [e,zei,zda (-1),hl]
 omega
theorem qvs (v:Nat->Int):quaK a n n v=0:=by
 unfold quaK
 refine zez fun s hs=>?_
 have:linK a n n s v=0:=by
  unfold linK
  exact zez fun t _=>by rw [zrz hs];simp
 rw [this];simp
theorem zie (h:Pos n D a) (v:Nat->Int):∀m k,k+m=n->0<=quaK a n k v:=by
 intro m
 induction m with
 | zero=>
  intro k hk
  have:k=n:=by omega
  subst this
  rw [qvs];exact xR _
 | succ m ih=>
  intro k hk
  have e:=zxe h (show k<n by omega) v
  have h1:=qV (show 0<=lead a k by have:=h.pos k (by omega);omega) (ih (k+1) (by omega))
  have h2:=zea (linK a n k k v)
  have h3:0<=lead a (k+1)*quaK a n k v:=by omega
  rcases (by omega:quaK a n k v<0\/0<=quaK a n k v) with h4 | h4
  ·have:=xB (h.pos (k+1) (by omega)) (show 0< -quaK a n k v by omega)
   have e2:lead a (k+1)* -quaK a n k v= -(lead a (k+1)*quaK a n k v):=by grind
   omega
  ·exact h4
theorem qoq (h:Pos n D a) (v:Nat->Int):∀k,k<=n->quaK a n k v<=lead a k*quaK a n 0 v:=by
 intro k
 induction k with
 | zero=>intro _;rw [zax];omega
 | succ k ih=>
  intro hk
  have e:=zxe h (show k<n by omega) v
  have h2:=zea (linK a n k k v)
  have h1:=qQ (ih (by omega)) (show 0<=lead a (k+1) by have:=h.pos (k+1) (by omega);omega)
  have h3:lead a k*quaK a n (k+1) v<=lead a k*(lead a (k+1)*quaK a n 0 v):=by
   have:lead a (k+1)*(lead a k*quaK a n 0 v)=lead a k*(lead a (k+1)*quaK a n 0 v):=by grind
   omega
  exact qY h3 (h.pos k (by omega))
theorem qie (h:Pos n D a) (v:Nat->Int) {Q:Int} (hQ:quaK a n 0 v<=Q) {k:Nat} (hk:k<n):linK a n k k v<=D*(Q+1)/\ -(D*(Q+1))<=linK a n k k v:=by
 have q0:=zie h v n 0 (by omega)
 have hD:=h.one
 refine zhj (qV (by omega) (by omega)) ?_
 have e:=zxe h hk v
 have h1:=qV (show 0<=lead a k by have:=h.pos k (by omega);omega) (zie h v (n-(k+1)) (k+1) (by omega))
 have p1:=h.pos (k+1) (by omega)
 have p0:=h.pos k (by omega)
 have l1:=h.le (k+1) (by omega)
 have l0:=h.le k (by omega)
 have m1:=qQ (qoq h v k (by omega)) (show 0<=lead a (k+1) by omega)
 have m2:lead a k*quaK a n 0 v<=D*Q:=by
  have x1:=qQ hQ (show 0<=lead a k by omega)
  have x2:=qJ l0 (show 0<=Q by omega)
  omega
 have m3:lead a (k+1)*(lead a k*quaK a n 0 v)<=D*(D*Q):=by
  have x1:=qQ m2 (show 0<=lead a (k+1) by omega)
  have x2:=qJ l1 (show 0<=D*Q from qV (by omega) (by omega))
  omega
 have m4:D*(D*Q)<=D*(Q+1)*(D*(Q+1)):=by
  have e1:D*(Q+1)*(D*(Q+1))=D*(D*Q)+D*D*(Q*Q+Q+1):=by grind
  have:=qV (qV (show 0<=D by omega) (show 0<=D by omega)) (show 0<=Q*Q+Q+1 by have:=zea Q;omega)
  omega
 omega
def vecB (D K Q:Int):Nat->Int
 | 0=>D*(Q+1)
 | m+1=>D*(Q+1)+8*(D*K*vecB D K Q m)
theorem zoa {K Q:Int} (hD:1<=D) (hK:0<=K) (hQ:0<=Q):∀m,0<=vecB D K Q m:=by
 intro m
 induction m with
 | zero=>exact qV (by omega) (by omega)
 | succ m ih=>
  have h1:=qV (show 0<=D by omega) (show 0<=Q+1 by omega)
  have h2:=qV (qV (show 0<=D by omega) hK) ih
  simp only [vecB];omega
theorem qif {K Q:Int} (hD:1<=D) (hK:1<=K) (hQ:0<=Q):∀m,vecB D K Q m<=vecB D K Q (m+1):=by
 intro m
 have h0:=zoa hD (show 0<=K by omega) hQ m
 have h1:=qV (show 0<=D by omega) (show 0<=Q+1 by omega)
 have h2:1<=D*K:=by have:=qQ hK (show 0<=D by omega);omega
 have h3:=qJ h2 h0
 simp only [vecB]
 omega
theorem qig {K Q:Int} (hD:1<=D) (hK:1<=K) (hQ:0<=Q):∀c m,vecB D K Q m<=vecB D K Q (m+c):=by
 intro c
 induction c with
 | zero=>intro m;exact xR _
 | succ c ih=>intro m;exact xM (ih m) (qif hD hK hQ (m+c))
theorem qih (h:Pos n D a) (h8:n<=8) {K:Int} (hK:1<=K) (ha:∀s,s<n->a s s<=K) (v:Nat->Int) {Q:Int} (hQ:quaK a n 0 v<=Q):∀m k,k+m+1=n->v k<=vecB D K Q m/\ -(vecB D K Q m)<=v k:=by
 have hD:=h.one
 have hQ0:0<=Q:=by have:=zie h v n 0 (by omega);omega
 intro m
 induction m using Nat.strongRecOn with
 | ind m ih=>
 intro k hk
 obtain ⟨b1,b2⟩:=qie h v hQ (show k<n by omega)
 have rest:∃x,linK a n k k v=lead a (k+1)*v k+x/\x<=(if m=0 then 0 else 8*(D*K*vecB D K Q (m-1)))/\ -(if m=0 then 0 else 8*(D*K*vecB D K Q (m-1)))<=x:=by
  refine ⟨sumR (fun t=>if t=k then 0 else stg a k k t*v t) n,?_,?_⟩
  ·have e:linK a n k k v=sumR (fun t=>(if t=k then stg a k k k*v k else 0)+(if t=k then 0 else stg a k k t*v t)) n:=by
    unfold linK
    refine zas fun t _=>?_
    split
    ·rename_i e;rw [e];omega
    ·omega
   rw [e,zei,zid (k:=k) (by omega) (fun t _ hne=>if_neg hne),if_pos rfl,zaw]
  ·by_cases hm:m=0
   ·rw [if_pos hm]
    have:sumR (fun t=>if t=k then 0 else stg a k k t*v t) n=0:=zez fun t ht=>by
     split
     ·rfl
     ·rw [zrw (h.ne (k:=k) (by omega)) k t (by omega)];simp
    rw [this];omega
   ·rw [if_neg hm]
    have hb:=zoa hD (show 0<=K by omega) hQ0 (m-1)
    have hDK:0<=D*K:=qV (by omega) (by omega)
    have:=zzt (f:=fun t=>if t=k then 0 else stg a k k t*v t) (n:=n) (c:=D*K*vecB D K Q (m-1)) (fun t ht=>by
     have hz:=qV hDK hb
     split
     ·omega
     ·rename_i hne
      rcases qW t k with h1 | h1
      ·rw [zrw (h.ne (k:=k) (by omega)) k t h1];omega
      ·obtain ⟨v1,v2⟩:=ih (n-1-t) (by omega) t (by omega)
       have vm:=qig hD hK hQ0 (m-1-(n-1-t)) (n-1-t)
       have em:n-1-t+(m-1-(n-1-t))=m-1:=by omega
       rw [em] at vm
       have en:=h.entry ht (show k<=t by omega) 0 k (by omega)
       have sy:=zgl h.sym k (by omega) (h.ne (by omega)) k t (by omega) ht (qK _) (by omega)
       have d1:=h.down ht k (by omega)
       have d2:=h.down (show k<n by omega) k (qK _)
       have p0:=h.pos k (by omega)
       have l0:=h.le k (by omega)
       have f:∀s,s<n->lead a k*a s s<=D*K:=fun s hs=>by
        have x1:=qQ (ha s hs) (show 0<=lead a k by omega)
        have x2:=qJ l0 (show 0<=K by omega)
        omega
       have f1:=f t ht
       have f2:=f k (by omega)
       rw [sy]
       exact zny (by omega) (by omega) (by omega) (by omega))
    have e8:(n:Int)*(D*K*vecB D K Q (m-1))<=8*(D*K*vecB D K Q (m-1)):=qJ (by omega) (qV hDK hb)
    omega
 obtain ⟨x,e,x1,x2⟩:=rest
 have p1:=h.pos (k+1) (by omega)
 have key:∀{w:Int},lead a (k+1)*v k<=w-> -w<=lead a (k+1)*v k->v k<=w/\ -w<=v k:=by
  intro w h1 h2
  rcases (by omega:v k<=0\/0<v k) with h3 | h3
  ·have:=qJ (show (1:Int)<=lead a (k+1) by omega) (show 0<= -v k by omega)
   have e2:lead a (k+1)* -v k= -(lead a (k+1)*v k):=by grind
   have:=qV (show 0<=lead a (k+1) by omega) (show 0<= -v k by omega)
   omega
  ·have:=qJ (show (1:Int)<=lead a (k+1) by omega) (show 0<=v k by omega)
   omega
 by_cases hm:m=0
 ·subst hm
  simp only [if_true] at x1 x2
  simp only [vecB]
  exact key (by omega) (by omega)
 ·obtain ⟨m',rfl⟩:∃m',m=m'+1:=⟨m-1,by omega⟩
  rw [if_neg (by omega)] at x1 x2
  simp only [xW] at x1 x2
  simp only [vecB]
  exact key (by omega) (by omega)
theorem qvt (h:Pos n D a) (h8:n<=8) {K:Int} (hK:1<=K) (ha:∀s,s<n->a s s<=K) (v:Nat->Int) {Q:Int} (hQ:quaK a n 0 v<=Q) {k:Nat} (hk:k<n):v k<=vecB D K Q 7/\ -(vecB D K Q 7)<=v k:=by
 have hQ0:0<=Q:=by have:=zie h v n 0 (by omega);omega
 obtain ⟨h1,h2⟩:=qih h h8 hK ha v hQ (n-1-k) k (by omega)
 have:=qig h.one hK hQ0 (7-(n-1-k)) (n-1-k)
 have e:n-1-k+(7-(n-1-k))=7:=by omega
 rw [e] at this
 omega
def zob (a:Nat->Row) (n:Nat) (T:Nat->Nat->Int):Nat->Row:=fun s t=>sumR (fun x=>sumR (fun y=>a x y*T y t) n*T x s) n
theorem qcw (T:Nat->Nat->Int) (s:Nat):zob a n T s s=quaK a n 0 (fun x=>T x s):=by
 unfold zob quaK linK
 refine zas fun x _=>?_
 congr 1
 exact zas fun y _=>by rw [zdl]
theorem qii (T:Nat->Nat->Int) (i j:Nat) (c:Int):zob a n (fun x s=>T x s+if s=i then c*T x j else 0)=addG (zob a n T) i j c:=by
 funext s t
 have col:∀x t,sumR (fun y=>a x y*(T y t+if t=i then c*T y j else 0)) n=sumR (fun y=>a x y*T y t) n+if t=i then c*sumR (fun y=>a x y*T y j) n else 0:=by
  intro x t
  split
  ·rw [<-zda,<-zei];exact zas fun y _=>by grind
  ·rw [qM];exact zas fun y _=>by rw [qM]
 show sumR (fun x=>sumR (fun y=>a x y*(T y t+if t=i then c*T y j else 0)) n*(T x s+if s=i then c*T x j else 0)) n=_
 have e1:sumR (fun x=>sumR (fun y=>a x y*(T y t+if t=i then c*T y j else 0)) n*(T x s+if s=i then c*T x j else 0)) n=
   sumR (fun x=>(sumR (fun y=>a x y*T y t) n+if t=i then c*sumR (fun y=>a x y*T y j) n else 0)*(T x s+if s=i then c*T x j else 0)) n:=
  zas fun x _=>by rw [col]
 rw [e1]
 unfold addG zob
 by_cases hs:s=i
 ·by_cases ht:t=i
  ·simp only [hs,ht,if_true,and_self]
   rw [<-zda,<-zda,<-zda,<-zei,<-zei,<-zei]
   exact zas fun x _=>by grind
  ·simp only [hs,ht,if_true,if_false,and_false,qM]
   rw [<-zda,<-zei]
   exact zas fun x _=>by grind
 ·by_cases ht:t=i
  ·simp only [hs,ht,if_true,if_false,false_and,qM]
   rw [<-zda,<-zei]
   exact zas fun x _=>by grind
  ·simp only [hs,ht,if_false,false_and,qM]
end
end Go.Det
namespace Go.Proofs.YtpflahgcdgdkjaaGreatDoor
open Int renaming mul_le_mul_of_nonneg_right -> qJ, add_zero -> qM, natAbs_ediv_le_natAbs -> qN, mul_comm -> xX, mul_assoc -> xU, mul_ediv_mul_of_pos_left -> xC, ediv_mul_cancel -> xS
open Nat renaming le_refl -> qK, lt_or_ge -> qW, add_sub_cancel -> xW
open List renaming getD_eq_getElem?_getD -> qZ, getElem?_eq_getElem -> qB, getElem?_eq_none -> xZ, ext_getElem -> yU
open Go Go.AL Go.Det
def mkM (n:Nat) (f:Nat->Nat->Int):List (List Int):=(List.range n).map fun i=>(List.range n).map fun j=>f i j
theorem zcg (n:Nat) (f:Nat->Nat->Int):Shp n (mkM n f):=by
 refine ⟨by simp [mkM],fun i hi=>?_⟩
 rw [qZ];simp [mkM,hi]
theorem zby {n:Nat} {f:Nat->Nat->Int} {i j:Nat} (hi:i<n) (hj:j<n):ent (mkM n f) i j=f i j:=by
 unfold ent
 simp [mkM,qZ,hi,hj]
theorem Shp.out {n:Nat} {M:List (List Int)} (h:Shp n M) {i j:Nat} (hij:n<=i\/n<=j):ent M i j=0:=by
 unfold ent
 rcases qW i n with h1 | h1
 ·rw [qZ,xZ (by rw [h.row i h1];omega)];rfl
 ·have:M.getD i []=[]:=by rw [qZ,xZ (by rw [h.len];exact h1)];rfl
  rw [this];rfl
theorem zsc {n:Nat} {M M':List (List Int)} (h:Shp n M) (h':Shp n M') (he:∀i j,i<n->j<n->ent M i j=ent M' i j):M=M':=by
 refine yU (h.len.trans h'.len.symm) fun i hi hi'=>?_
 have e1:M.getD i []=M[i]:=by rw [qZ,qB hi];rfl
 have e2:M'.getD i []=M'[i]:=by rw [qZ,qB hi'];rfl
 have hin:i<n:=by rw [<-h.len];exact hi
 have l1:=h.row i hin
 have l2:=h'.row i hin
 rw [e1] at l1
 rw [e2] at l2
 refine yU (l1.trans l2.symm) fun j hj hj'=>?_
 have:=he i j hin (by omega)
 unfold ent at this
 rw [e1,e2,qZ,qZ,qB hj,qB hj'] at this
 simpa using this
def mulM (n:Nat) (A B:List (List Int)):List (List Int):=mkM n fun i j=>sumR (fun k=>ent A i k*ent B k j) n
def trM (n:Nat) (A:List (List Int)):List (List Int):=mkM n fun i j=>ent A j i
def idM (n:Nat):List (List Int):=mkM n fun i j=>if i=j then 1 else 0
def cgM (n:Nat) (G U:List (List Int)):List (List Int):=mulM n (mulM n (trM n U) G) U
def addU (n i j:Nat) (c:Int):List (List Int):=setM (idM n) j i c
theorem zfa (n:Nat):Shp n (idM n):=zcg n _
theorem zsd (n:Nat) (A B:List (List Int)):Shp n (mulM n A B):=zcg n _
theorem zzu (n:Nat) (G U:List (List Int)):Shp n (cgM n G U):=zcg n _
theorem zoc {n i j:Nat} (hi:i<n) (hj:j<n):ent (idM n) i j=if i=j then 1 else 0:=zby hi hj
theorem zzv {n i j:Nat} {c:Int} (hj:j<n):Shp n (addU n i j c):=(zcg n _).set hj
theorem qor {n i j x s:Nat} {c:Int} (hij:i≠j) (hi:i<n) (hj:j<n) (hx:x<n) (hs:s<n):ent (addU n i j c) x s=(if x=s then 1 else 0)+(if s=i/\x=j then c else 0):=by
 unfold addU
 rw [(zfa n).ent_set hj hi]
 by_cases h:x=j/\s=i
 ·have h1:¬x=s:=by omega
  have h2:s=i/\x=j:=⟨h.2,h.1⟩
  rw [if_pos h,if_neg h1,if_pos h2];omega
 ·have h2:¬(s=i/\x=j):=fun e=>h ⟨e.2,e.1⟩
  rw [if_neg h,if_neg h2]
  rw [zoc hx hs];omega
theorem zse {n i j s:Nat} {c:Int} (hij:i≠j) (hi:i<n) (hj:j<n) (hs:s<n) (f:Nat->Int):sumR (fun x=>f x*ent (addU n i j c) x s) n=f s+if s=i then c*f j else 0:=by
 have e:sumR (fun x=>f x*ent (addU n i j c) x s) n=sumR (fun x=>(if x=s then f s else 0)+(if x=j then (if s=i then c*f j else 0) else 0)) n:=by
  refine zas fun x hx=>?_
  rw [qor hij hi hj hx hs]
  by_cases h1:x=s
  ·by_cases h2:s=i
   ·have h3:x≠j:=by omega
    rw [if_pos h1,if_neg (by omega),if_pos h1,if_neg h3,h1];omega
   ·rw [if_pos h1,if_neg (by omega),if_pos h1,if_neg h2,h1]
    split<;>omega
  ·by_cases h2:x=j
   ·by_cases h3:s=i
    ·rw [if_neg h1,if_pos ⟨h3,h2⟩,if_neg h1,if_pos h2,if_pos h3,h2];grind
    ·rw [if_neg h1,if_neg (by omega),if_neg h1,if_pos h2,if_neg h3];omega
   ·rw [if_neg h1,if_neg (by omega),if_neg h1,if_neg h2];omega
 rw [e,zei,zid hs (fun t _ hne=>if_neg hne),if_pos rfl,zid hj (fun t _ hne=>if_neg hne),if_pos rfl]
theorem qrm {n i j:Nat} {c:Int} {M:List (List Int)} (h:Shp n M) (hij:i≠j) (hi:i<n) (hj:j<n):rowF (cgM n M (addU n i j c))=addG (rowF M) i j c:=by
 funext s t
 show ent (cgM n M (addU n i j c)) s t=addG (rowF M) i j c s t
 by_cases hs:s<n
 ·by_cases ht:t<n
  ·unfold cgM mulM
   rw [zby hs ht]
   have e:sumR (fun k=>ent (mkM n fun i_1 j_1=>sumR (fun k=>ent (trM n (addU n i j c)) i_1 k*ent M k j_1) n) s k*ent (addU n i j c) k t) n=
     sumR (fun k=>(ent M s k+if s=i then c*ent M j k else 0)*ent (addU n i j c) k t) n:=by
    refine zas fun k hk=>?_
    rw [zby hs hk]
    congr 1
    have e2:sumR (fun x=>ent (trM n (addU n i j c)) s x*ent M x k) n=sumR (fun x=>ent M x k*ent (addU n i j c) x s) n:=by
     refine zas fun x hx=>?_
     unfold trM
     rw [zby hs hx,xX]
    rw [e2,zse hij hi hj hs]
   rw [e,zse hij hi hj ht]
   unfold addG rowF
   by_cases h1:s=i
   ·by_cases h2:t=i
    ·simp only [h1,h2,if_true,and_self];grind
    ·simp only [h1,h2,if_true,if_false,and_false,qM]
   ·by_cases h2:t=i
    ·simp only [h1,h2,if_true,if_false,false_and,qM]
    ·simp only [h1,h2,if_false,false_and,qM]
  ·rw [(zzu n _ _).out (.inr (by omega))]
   unfold addG rowF
   have z:∀x,ent M x t=0:=fun x=>h.out (.inr (by omega))
   rw [z,z,if_neg (show ¬t=i by omega),if_neg (show ¬(s=i/\t=i) by omega)]
   split<;>omega
 ·rw [(zzu n _ _).out (.inl (by omega))]
  unfold addG rowF
  have z:∀x,ent M s x=0:=fun x=>h.out (.inl (by omega))
  rw [z,z,if_neg (show ¬s=i by omega),if_neg (show ¬(s=i/\t=i) by omega)]
  split<;>omega
theorem qzf (p s:Nat):sw p (sw p s)=s:=by
 by_cases h1:s=p
 ·rw [h1,sw_p,sw_q]
 ·by_cases h2:s=p+1
  ·rw [h2,sw_q,sw_p]
  ·rw [qcu h1 h2,qcu h1 h2]
theorem qzg {p x s:Nat}:sw p x=s↔x=sw p s:=by
 constructor
 ·intro h;rw [<-h,qzf]
 ·intro h;rw [h,qzf]
theorem qvu {n p x s:Nat} (hp:p+1<n) (hx:x<n) (hs:s<n):ent (zdc (idM n) (p+1) p) x s=if x=sw p s then 1 else 0:=by
 rw [(zkb (zfa n) hp (by omega)).2]
 show ent (idM n) (sw p x) s=_
 rw [zoc (zxc hp hx) hs]
 by_cases h:sw p x=s
 ·rw [if_pos h,if_pos (qzg.1 h)]
 ·rw [if_neg h,if_neg (fun e=>h (qzg.2 e))]
theorem zxf {n p s:Nat} (hp:p+1<n) (hs:s<n) (f:Nat->Int):sumR (fun x=>f x*ent (zdc (idM n) (p+1) p) x s) n=f (sw p s):=by
 have e:sumR (fun x=>f x*ent (zdc (idM n) (p+1) p) x s) n=sumR (fun x=>if x=sw p s then f (sw p s) else 0) n:=by
  refine zas fun x hx=>?_
  rw [qvu hp hx hs]
  split
  ·rename_i e;rw [e];omega
  ·omega
 rw [e,zid (zxc hp hs) (fun t _ hne=>if_neg hne),if_pos rfl]
theorem qzh {n p:Nat} {M:List (List Int)} (h:Shp n M) (hp:p+1<n):rowF (cgM n M (zdc (idM n) (p+1) p))=swG (rowF M) p:=by
 funext s t
 show ent (cgM n M (zdc (idM n) (p+1) p)) s t=ent M (sw p s) (sw p t)
 by_cases hs:s<n
 ·by_cases ht:t<n
  ·unfold cgM mulM
   rw [zby hs ht]
   have e:sumR (fun k=>ent (mkM n fun i_1 j_1=>sumR (fun k=>ent (trM n (zdc (idM n) (p+1) p)) i_1 k*ent M k j_1) n) s k*ent (zdc (idM n) (p+1) p) k t) n=sumR (fun k=>ent M (sw p s) k*ent (zdc (idM n) (p+1) p) k t) n:=by
    refine zas fun k hk=>?_
    rw [zby hs hk]
    congr 1
    have e2:sumR (fun x=>ent (trM n (zdc (idM n) (p+1) p)) s x*ent M x k) n=sumR (fun x=>ent M x k*ent (zdc (idM n) (p+1) p) x s) n:=by
     refine zas fun x hx=>?_
     unfold trM
     rw [zby hs hx,xX]
    rw [e2,zxf hp hs]
   rw [e,zxf hp ht]
  ·have hne:sw p t=t:=qcu (by omega) (by omega)
   rw [(zzu n _ _).out (.inr (by omega)),hne,h.out (.inr (by omega))]
 ·have hne:sw p s=s:=qcu (by omega) (by omega)
  rw [(zzu n _ _).out (.inl (by omega)),hne,h.out (.inl (by omega))]
theorem mul_add {n i j x s:Nat} {c:Int} {T:List (List Int)} (hij:i≠j) (hi:i<n) (hj:j<n) (hx:x<n) (hs:s<n):ent (mulM n T (addU n i j c)) x s=ent T x s+if s=i then c*ent T x j else 0:=by
 unfold mulM
 rw [zby hx hs,zse hij hi hj hs]
theorem qrn {n p x s:Nat} {T:List (List Int)} (hp:p+1<n) (hx:x<n) (hs:s<n):ent (mulM n T (zdc (idM n) (p+1) p)) x s=ent T x (sw p s):=by
 unfold mulM
 rw [zby hx hs,zxf hp hs]
def MuOK (n:Nat) (a:Nat->Row) (k:Nat):Prop:=(∀i j,CurA n a i j->zje a n*100+(n-i)*10+j+1<=k)/\∀i,CurS n a i->zje a n*100+(n-i)*10<=k
theorem zzw {n:Nat} {a:Nat->Row} (h8:n<=8):MuOK n a (zje a n*100+99):=
 ⟨fun i j c=>by have:=c.hi;have:=c.hj;omega,fun i c=>by omega⟩
theorem qzi {n:Nat} {D K:Int} {a:Nat->Row} {i j:Nat} {c:Int} {k:Nat} (h:Pos n D a) (h8:n<=8) (hK:1<=K) (hKD:8*D<=K) (hc:CurA n a i j) (hg:Good n D K a) (hz:2*(stg a j i j+c*lead a (j+1))<=lead a (j+1)/\ -(2*(stg a j i j+c*lead a (j+1)))<=lead a (j+1))
  (hm:MuOK n a k):∃k',k'<k/\MuOK n (addG a i j c) k':=by
 obtain ⟨_,_,_,g1,g2⟩:=zzs h h8 hK hKD hc hg hz
 have hi:=hc.hi
 have hj:=hc.hj
 have hp:zje (addG a i j c) n=zje a n:=zpr n (fun t ht=>zkd hj hi (h.ne (qK _)) ht)
 have:=hm.1 i j hc
 refine ⟨zje a n*100+(n-i)*10+j,by omega,fun i' j' c'=>?_,fun i' c'=>?_⟩
 ·obtain ⟨l1,l2⟩:=g1 i' j' c'
  have:=c'.hi
  have:=c'.hj
  rw [hp]
  by_cases e:i'=i
  ·have:=l2 e
   subst e
   omega
  ·omega
 ·have:=g2 i' c'
  rw [hp]
  omega
theorem jbk {n:Nat} {D K:Int} {a:Nat->Row} {i:Nat} {k:Nat} (h:Pos n D a) (h8:n<=8) (hK:1<=K) (hc:CurS n a i) (hg:Good n D K a) (hm:MuOK n a k):∃k',k'<k/\MuOK n (swG a (i-1)) k':=by
 obtain ⟨gp,_,g1,g2⟩:=zxd h hK hc hg
 have hlt:=qvq (b:=swG a (i-1)) hc.h0 g2 (gp.pos i (by have:=hc.hi;omega)) n (by have:=hc.hi;omega) g1 h.pos
 have:=hm.2 i hc
 exact ⟨zje (swG a (i-1)) n*100+99,by omega,zzw h8⟩
def zfv (l d:Int):Int:=(2*l+d)/(2*d)
theorem qij {l d:Int} (hd:0<d):2*(l+ -(zfv l d)*d)<=d/\ -(2*(l+ -(zfv l d)*d))<=d:=by
 unfold zfv
 have h1:=Int.ediv_mul_le (2*l+d) (show 2*d≠0 by omega)
 have h2:=Int.lt_ediv_add_one_mul_self (2*l+d) (show 0<2*d by omega)
 generalize (2*l+d)/(2*d)=q at*
 have e1:q*(2*d)=2*(q*d):=by grind
 have e2:(q+1)*(2*d)=2*(q*d)+2*d:=by grind
 have e3: -q*d= -(q*d):=by grind
 omega
structure LState (n:Nat) (D K:Int) (M0 M T:List (List Int)):Prop where
 shM:Shp n M
 shT:Shp n T
 pos:Pos n D (rowF M)
 good:Good n D K (rowF M)
 rel:∀s t,s<n->t<n->ent M s t=zob (rowF M0) n (fun x y=>ent T x y) s t
theorem qvv {n:Nat} (a:Nat->Row) {s t:Nat} (hs:s<n) (ht:t<n):zob a n (fun x y=>ent (idM n) x y) s t=a s t:=by
 unfold zob
 have e:sumR (fun x=>sumR (fun y=>a x y*ent (idM n) y t) n*ent (idM n) x s) n=sumR (fun x=>if x=s then a s t else 0) n:=by
  refine zas fun x hx=>?_
  have e2:sumR (fun y=>a x y*ent (idM n) y t) n=a x t:=by
   have e3:sumR (fun y=>a x y*ent (idM n) y t) n=sumR (fun y=>if y=t then a x t else 0) n:=by
    refine zas fun y hy=>?_
    rw [zoc hy ht]
    split
    ·rename_i e;rw [e];omega
    ·omega
   rw [e3,zid ht (fun z _ hne=>if_neg hne),if_pos rfl]
  rw [e2,zoc hx hs]
  split
  ·rename_i e;rw [e];omega
  ·omega
 rw [e,zid hs (fun z _ hne=>if_neg hne),if_pos rfl]
theorem zpt {n:Nat} (a:Nat->Row) {T T':Nat->Nat->Int} {s t:Nat} (hs:∀x,x<n->T x s=T' x s) (ht:∀x,x<n->T x t=T' x t):zob a n T s t=zob a n T' s t:=by
 unfold zob
 refine zas fun x hx=>?_
 rw [hs x hx]
 congr 1
 exact zas fun y hy=>by rw [ht y hy]
section
variable {n:Nat} {D K:Int} {M0 M T:List (List Int)}
theorem LState.start (h1:Shp n M0) (hp:Pos n D (rowF M0)) (hK:1<=K) (ha:∀s,s<n->ent M0 s s<=K):LState n D K M0 M0 (idM n):=
 ⟨h1,zcg n _,hp,zsb hp hK ha,fun s t hs ht=>(qvv (rowF M0) hs ht).symm⟩
theorem LState.add {i j:Nat} (h:LState n D K M0 M T) (h8:n<=8) (hK:1<=K) (hKD:8*D<=K) (hc:CurA n (rowF M) i j):
  LState n D K M0 (cgM n M (addU n i j (-(zfv (stg (rowF M) j i j) (lead (rowF M) (j+1)))))) (mulM n T (addU n i j (-(zfv (stg (rowF M) j i j) (lead (rowF M) (j+1))))))/\
   ∀k,MuOK n (rowF M) k->∃k',k'<k/\MuOK n (rowF (cgM n M (addU n i j (-(zfv (stg (rowF M) j i j) (lead (rowF M) (j+1))))))) k':=by
 have hi:=hc.hi
 have hj:=hc.hj
 have hz:=qij (l:=stg (rowF M) j i j) (h.pos.pos (j+1) (by omega))
 generalize -(zfv (stg (rowF M) j i j) (lead (rowF M) (j+1)))=c at*
 have e:=qrm (c:=c) h.shM (show i≠j by omega) hi (show j<n by omega)
 obtain ⟨_,g1,g2,_,_⟩:=zzs h.pos h8 hK hKD hc h.good hz
 refine ⟨⟨zcg n _,zcg n _,by rw [e];exact g1,by rw [e];exact g2,fun s t hs ht=>?_⟩,fun k hk=>by rw [e];exact qzi h.pos h8 hK hKD hc h.good hz hk⟩
 have e2:ent (cgM n M (addU n i j c)) s t=addG (rowF M) i j c s t:=congrFun (congrFun e s) t
 rw [e2,zpt (rowF M0) (T':=fun x s=>ent T x s+if s=i then c*ent T x j else 0) (fun x hx=>mul_add (show i≠j by omega) hi (by omega) hx hs) (fun x hx=>mul_add (show i≠j by omega) hi (by omega) hx ht)]
 rw [qii (a:=rowF M0) (n:=n) (fun x s=>ent T x s) i j c]
 unfold addG
 have r:=h.rel
 rw [<-r s t hs ht,<-r j t (by omega) ht,<-r s j hs (by omega),<-r j j (by omega) (by omega)]
 rfl
theorem LState.sw {p:Nat} (h:LState n D K M0 M T) (h8:n<=8) (hK:1<=K) (hc:CurS n (rowF M) (p+1)):LState n D K M0 (cgM n M (zdc (idM n) (p+1) p)) (mulM n T (zdc (idM n) (p+1) p))/\
   ∀k,MuOK n (rowF M) k->∃k',k'<k/\MuOK n (rowF (cgM n M (zdc (idM n) (p+1) p))) k':=by
 have hi:=hc.hi
 have e:=qzh h.shM hi
 obtain ⟨g1,g2,_,_⟩:=zxd h.pos hK hc h.good
 simp only [xW] at g1 g2
 refine ⟨⟨zcg n _,zcg n _,by rw [e];exact g1,by rw [e];exact g2,fun s t hs ht=>?_⟩,fun k hk=>by
  rw [e]
  have:=jbk h.pos h8 hK hc h.good hk
  simpa using this⟩
 have e2:ent (cgM n M (zdc (idM n) (p+1) p)) s t=ent M (Det.sw p s) (Det.sw p t):=congrFun (congrFun e s) t
 rw [e2,zpt (rowF M0) (T':=fun x s=>ent T x (Det.sw p s)) (fun x hx=>qrn hi hx hs) (fun x hx=>qrn hi hx ht),h.rel _ _ (zxc hi hs) (zxc hi ht)]
 rfl
theorem LState.bound (h:LState n D K M0 M T) (h8:n<=8) (hK:1<=K) (hp:Pos n D (rowF M0)) (ha:∀s,s<n->ent M0 s s<=K) (hcase:(∃i j,CurA n (rowF M) i j)\/(∃i,CurS n (rowF M) i)\/∀i,i<n->OKr (rowF M) i):
  (∀s t,s<n->t<n->ent M s t<=bigK D K/\ -(bigK D K)<=ent M s t)/\∀s t,s<n->t<n->ent T s t<=vecB D K (bigK D K) 7/\ -(vecB D K (bigK D K) 7)<=ent T s t:=by
 have hn:=fun s hs=>qid (s:=s) h.pos h8 hK h.good hcase hs
 refine ⟨fun s t hs ht=>h.pos.bound hn hs ht,fun s t hs ht=>?_⟩
 refine qvt hp h8 hK ha (fun x=>ent T x t) ?_ hs
 rw [<-qcw (a:=rowF M0) (n:=n) (fun x y=>ent T x y) t,<-h.rel t t ht ht]
 exact hn t ht
end
def numR (n d:Int):Int:=n/(Int.gcd n d:Int)
def denR (n d:Int):Int:=d/(Int.gcd n d:Int)
theorem zod {n d:Int} (hd:0<d):0<(Int.gcd n d:Int):=by
 have:=Int.gcd_pos_of_ne_zero_right n (show d≠0 by omega)
 omega
theorem qik (n d:Int):numR n d*(Int.gcd n d:Int)=n:=xS (Int.gcd_dvd_left ..)
theorem zxg (n d:Int):denR n d*(Int.gcd n d:Int)=d:=xS (Int.gcd_dvd_right ..)
theorem zsf {n d:Int} (hd:0<d):0<denR n d:=by
 have h1:=zod (n:=n) hd
 have h2:=zxg n d
 rcases Int.lt_or_le 0 (denR n d) with h | h
 ·exact h
 ·have:=qJ h (show (0:Int)<=(Int.gcd n d:Int) by omega)
  omega
theorem qzj (n d:Int):(numR n d).natAbs<=n.natAbs:=qN _ _
theorem qzk (n d:Int):(denR n d).natAbs<=d.natAbs:=qN _ _
theorem qil {n d:Int} (hd:0<d):Int.gcd (numR n d) (denR n d)=1:=by
 have h1:=zod (n:=n) hd
 exact Int.gcd_ediv_gcd_ediv_gcd (by omega)
theorem qvw {n d:Int} (hd:0<d):numR (numR n d) (denR n d)=numR n d:=by
 show numR n d/(Int.gcd (numR n d) (denR n d):Int)=_
 rw [qil hd];exact Int.ediv_one _
theorem qvx {n d:Int} (hd:0<d):denR (numR n d) (denR n d)=denR n d:=by
 show denR n d/(Int.gcd (numR n d) (denR n d):Int)=_
 rw [qil hd];exact Int.ediv_one _
theorem qim {n d:Int} (hd:0<d):numR n d/denR n d=n/d:=by
 have h1:=zod (n:=n) hd
 have e1:=qik n d
 have e2:=zxg n d
 have e3:(numR n d*(Int.gcd n d:Int))/(denR n d*(Int.gcd n d:Int))=numR n d/denR n d:=xC _ _ h1
 rw [e1,e2] at e3
 exact e3.symm
theorem qos {l d:Int} (hd:0<d):(numR l d*2+1*denR l d)/(denR l d*2)=zfv l d:=by
 unfold zfv
 have h1:=zod (n:=l) hd
 have e1:=qik l d
 have e2:=zxg l d
 have e3:((numR l d*2+1*denR l d)*(Int.gcd l d:Int))/((denR l d*2)*(Int.gcd l d:Int))=(numR l d*2+1*denR l d)/(denR l d*2):=xC _ _ h1
 rw [<-e3]
 congr 1
 ·rw [Int.add_mul,Int.one_mul,e2,xU,xX 2,<-xU,e1];omega
 ·rw [xU,xX 2,<-xU,e2];omega
theorem qot:numR 1 2=1:=by decide
theorem qou:denR 1 2=2:=by decide
end Go.Proofs.YtpflahgcdgdkjaaGreatDoor
