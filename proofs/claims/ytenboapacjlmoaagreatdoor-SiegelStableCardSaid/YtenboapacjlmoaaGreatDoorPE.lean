/- A part of the proof. -/
import Derived.Test.YtenboapacjlmoaaGreatDoorPD
import Derived.Test.YtenboapacjlmoaaGreatDoorSS
import Derived.Test.YtenboapacjlmoaaGreatDoorPA
import Derived.KernelRfl
import Derived.Test.YtenboapacjlmoaaGreatDoorAL70
import Derived.Test.YtenboapacjlmoaaGreatDoorAL52
import Derived.Test.YtenboapacjlmoaaGreatDoorAL59
namespace Go.Proofs.YtenboapacjlmoaaGreatDoor
open Nat renaming reduceEqDiff → qQ, reduceAdd → qX, reduceLeDiff → qZ, le_refl → qW, eq_zero_or_pos → qN, zero_le → xP
open List renaming getD_cons_succ → qL
open Int renaming toNat_zero → xO
set_option linter.unusedSimpArgs false
set_option linter.unusedVariables false
open Go Go.AL Go.Proofs Go.Limb Go.Det
set_option maxRecDepth 100000
theorem stage_low {n k:Nat} {M:List (List Int)} (hs:∀i j,i<n→j<n→rowF M i j=rowF M j i) (hP:Part n (rowF M) k) (hk:k+1<n) (hsh:ShortP (n-k) (stageM n k M)):∀i,i<n-k→ -65536≤ent (stageM n k M) i 0∧ent (stageM n k M) i 0≤65536∧ -65536≤ent (stageM n k M) 0 i∧ent (stageM n k M) 0 i≤65536:=by
 intro i hi
 have e:ent (stageM n k M) 0 i=ent (stageM n k M) i 0:=by
  rw [stage_ent (by omega) hi,stage_ent hi (by omega)]
  exact stg_sym hs k (by omega) hP.ne _ _ (by omega) (by omega) (by omega) (by omega)
 rw [e]
 obtain ⟨h1,h2,h3⟩:=hsh
 rcases qN i with h0 | h0
 ·subst h0;omega
 ·have:=h3 i h0 hi
  omega
theorem next_bound {n k:Nat} {a:Nat→Det.Row} (n8:n≤8) (hs:∀i j,i<n→j<n→a i j=a j i) (hb:∀i j,i<n→j<n→a i j≤262144∧ -262144≤a i j) (hP:Part n a k) (hk:k+1<n) (h1:0<lead a (k+1)) (h2:lead a (k+1)<65536)
  (h3:∀i,i<n→k<i→2*stg a k i k≤lead a (k+1)∧ -(2*stg a k i k)≤lead a (k+1)) {i j:Nat} (hi:i<n) (hj:j<n) (hki:k<i) (hkj:k<j):stg a (k+1) i j≤34359738368∧ -34359738368≤stg a (k+1) i j:=by
 obtain ⟨x1,x2⟩:=Part.entry hs hb k (by omega) hP i j hi hj (by omega) (by omega)
 have hn:=hP.ne
 have e:=stg_rec hn i j
 obtain ⟨u1,u2⟩:=h3 i hi hki
 obtain ⟨v1,v2⟩:=h3 j hj hkj
 rw [stg_sym hs k (by omega) hn k j (by omega) hj (by omega) (by omega)] at e
 have p:=hP.pos' k (qW _)
 obtain ⟨y1,y2⟩:=forth (by omega) (by omega) (by omega) e x1 x2 u1 u2 v1 v2
 have c:lead a (k+1)*(262144+16384*(k:Int)+16384)≤65536*524288:=by
  have m1:lead a (k+1)*(262144+16384*(k:Int)+16384)≤65536*(262144+16384*(k:Int)+16384):=Int.mul_le_mul_of_nonneg_right (by omega) (by omega)
  omega
 omega
theorem lIsReduced {M:List (List Int)} {a:AV} (h:ImV M a) (h62:M.length<4611686018427387904) (hr62:∀i,i<M.length→(M.getD i []).length<4611686018427387904) {b:Bool} (hb:b=true↔SmallP M∧Red M.length (rowF M)):Ret Tryz.prog G 46 [a] [] (.bool b) []:=by
 have no:¬(SmallP M∧Red M.length (rowF M))→b=false:=by
  intro hn
  cases b with
  | false=>rfl
  | true=>exact absurd (hb.1 rfl) hn
 refine Ret_of mixed Tryz.func46 comp46 _ 118 res46 nt46 (by simp) (by simp) ?_
 by_cases hS:SmallP M
 rotate_left
 ·obtain rfl:=no (fun e=>hS e.1)
  have t1:=lSmall h h62 hr62 (b:=false) ⟨fun e=>by simp at e,fun e=>absurd e hS⟩
  obtain ⟨rows,c,rfl,hl,hr⟩:=h.val
  simp only [c46,r46_0,r46_1,SS,reduceCtorEq,reduceIte]
  refine callA_pure t1 ?_
  simp only [SS,forall_const,reduceIte,qQ]
  simp only [r46_2,SS]
  exact ⟨.inl trivial,_,rfl,.drop _ _ rfl (by intro i cs h;omega)⟩
 have t1:=lSmall h h62 hr62 (b:=true) ⟨fun _=>hS,fun _=>rfl⟩
 have hf0:=h.fit
 have himv:=h
 obtain ⟨rows,c,rfl,hl,hr⟩:=h.val
 obtain ⟨n1,n8,hsh,hent⟩:=hS
 generalize hn:M.length=n at*
 have hsym:∀i j,i<n→j<n→rowF M i j=rowF M j i:=fun i j hi hj=>(hent i j hi hj).1
 have hbnd:∀i j,i<n→j<n→rowF M i j≤262144∧ -262144≤rowF M i j:=fun i j hi hj=>by have:=hent i j hi hj;show ent M i j≤_∧_≤ent M i j;omega
 simp only [c46,r46_0,r46_1,SS,reduceCtorEq,reduceIte]
 refine callA_pure t1 ?_
 simp only [SS,forall_const,reduceIte,qQ]
 simp only [r46_3,r46_4,SS,reduceCtorEq,reduceIte,qQ]
 refine W_loop (fun q E H=>∃k sr sc,k+q+1=n∧Part n (rowF M) k∧ImV (stageM n k M) (.vec sr (n-k) sc)∧E 3= .vec sr (n-k) sc∧E 4= .int .i64 (lead (rowF M) k)∧H=[]) (n:=n-1)
  ⟨0,rows,c,by omega,Part.zero,by rw [stage_zero hsh];exact himv,by simp only [upd_app,argsE_app,qL,qQ,reduceIte,if_false];rfl,by simp only [upd_app,argsE_app,qL,qQ,reduceIte,if_false];rfl,rfl⟩ ?_
 rintro q E H ⟨k,sr,sc,hkq,hP,hV,e3,e4,rfl⟩
 refine wpC_sound mixed ?_
 have hsS:=stage_shp n k M
 obtain ⟨srw,src,hse,hsl,hsr⟩:=hV.val
 rw [hsS.len] at hse hsl hsr
 injection hse with hs1 hs2 hs3
 subst hs1 hs3
 obtain ⟨c0,hc0⟩:=hsr 0 (by omega)
 have l0:=hsS.row 0 (by omega)
 have g00:(i64z ((stageM n k M).getD 0 [])).getD 0 .junk= .int .i64 (ent (stageM n k M) 0 0):=i64z_getD _ 0 (by omega) _
 have e00:ent (stageM n k M) 0 0=lead (rowF M) (k+1):=by rw [stage_ent (by omega) (by omega),lead_stg];rfl
 simp only [l46_0,r46_5,SS,reduceCtorEq,reduceIte,qQ,e3]
 refine ⟨fun hgt=>?_,fun hle=>?_⟩
 ·obtain ⟨m,hm⟩:∃m,n-k=m+1:=⟨n-k-1,by omega⟩
  have hk1:k+1<n:=by omega
  have hbig:∀i j,i<n-k→j<n-k→ -34359738368≤ent (stageM n k M) i j∧ent (stageM n k M) i j≤34359738368:=by
   intro i j hi hj
   rw [stage_ent hi hj]
   have:=hP.entry35 n8 hsym hbnd (by omega) (i:=k+i) (j:=k+j) (by omega) (by omega) (by omega) (by omega)
   omega
  simp only [r46_6,r46_7,SS,forall_const,reduceIte,qQ,e3,hc0,hsl,l0,g00,i64z_len,xO]
  refine ⟨⟨by omega,by omega⟩,by omega,⟨by omega,by omega⟩,by omega,?_⟩
  by_cases hsp:ShortP (n-k) (stageM n k M)
  rotate_left
  ·have hbf:=no (fun e=>hsp (by
    obtain ⟨r1,r2,r3,_⟩:=e.2.part hk1
    refine ⟨by rw [e00];exact r1,by rw [e00];exact r2,fun i h0 hi=>?_⟩
    rw [e00,stage_ent hi (by omega)]
    exact r3 (k+i) (by omega) (by omega)))
   subst hbf
   have t2:=lShort hV hsS (by omega) (fun i hi=>by have:=hbig i 0 hi (by omega);omega) (b:=false) ⟨fun e=>by simp at e,fun e=>absurd e hsp⟩
   refine callA_pure t2 ?_
   simp only [SS,forall_const,reduceIte,qQ]
   simp only [r46_8,SS]
   exact ⟨.inl trivial,_,rfl,.drop _ _ rfl (by intro i cs h;omega)⟩
  have t2:=lShort hV hsS (by omega) (fun i hi=>by have:=hbig i 0 hi (by omega);omega) (b:=true) ⟨fun _=>hsp,fun _=>rfl⟩
  refine callA_pure t2 ?_
  simp only [SS,forall_const,reduceIte,qQ]
  have w1:IntKind.i64.wrap (((n-k:Nat):Int)-1)=(m:Nat):=by rw [show ((n-k:Nat):Int)-1=(m:Nat) by omega];exact w64 (by omega) (by omega)
  simp only [r46_9,SS,reduceIte,qQ,e3,w1,Int.toNat_natCast]
  refine ⟨by decide,⟨by omega,by omega,by omega,by omega⟩,?_⟩
  obtain ⟨sp1,sp2,sp3⟩:=hsp
  have hlow:=stage_low hsym hP hk1 ⟨sp1,sp2,sp3⟩
  have sz:∀i,i<n→k<i→2*stg (rowF M) k i k≤lead (rowF M) (k+1)∧ -(2*stg (rowF M) k i k)≤lead (rowF M) (k+1):=by
   intro i hi hki
   have:=sp3 (i-k) (by omega) (by omega)
   rw [e00,stage_ent (by omega) (by omega),show k+(i-k)=i by omega] at this
   exact this
  rw [e00] at sp1 sp2
  have hTs:Shp m (stageM n (k+1) M):=by
   have:=stage_shp n (k+1) M
   rw [show n-(k+1)=m by omega] at this
   exact this
  have hq:∀i j,i<m→j<m→Int.tdiv (lead (rowF M) (k+1)*ent (stageM n k M) (i+1) (j+1)-ent (stageM n k M) (i+1) 0*ent (stageM n k M) 0 (j+1)) (lead (rowF M) k)=ent (stageM n (k+1) M) i j:=by
   intro i j hi hj
   rw [stage_ent (by omega) (by omega),stage_ent (by omega) (by omega),stage_ent (by omega) (by omega),stage_ent (by omega) (by omega)]
   rw [show k+(i+1)=k+1+i by omega,show k+(j+1)=k+1+j by omega]
   exact stage_quo hP _ _
  have hF:StF m (stageM n k M) (stageM n (k+1) M) sr sc (lead (rowF M) (k+1)) (lead (rowF M) k):=by
   refine ⟨by omega,by rw [←hm];exact hsS,hTs,fun i hi=>?_,by omega,e00.symm,⟨sp1,sp2⟩,hP.ne k (qW _),fun i j hi hj=>hbig i j (by omega) (by omega),fun i hi=>hlow i (by omega),hq⟩
   obtain ⟨c',hc'⟩:=hsr i (by omega)
   rw [hsS.row i (by omega),hm] at hc'
   exact ⟨c',hc'⟩
  simp only [r46_10,SS,reduceIte,qQ]
  have hb0:[some (List.replicate m (AV.vec [] 0 (some 0)))]=bH m m []:=rfl
  rw [hb0]
  refine lStage_out hF (by simp only [upd_app,qQ,if_false,e3,hm]) (by simp only [upd_app,qQ,if_false,e4]) (by simp only [upd_app,qQ,reduceIte,if_false,e00]) (by simp only [upd_app,qQ,reduceIte,if_false]) (by simp only [upd_app,qQ,reduceIte,if_false]) (by simp only [upd_app,qQ,reduceIte,if_false]) ?_
  intro E' f3 f4 f5 f6
  obtain ⟨c1,hc1⟩:=hF.val 1 (by omega)
  have l1:=hF.shS.row 1 (by omega)
  have g10:(i64z ((stageM n k M).getD 1 [])).getD 0 .junk= .int .i64 (ent (stageM n k M) 1 0):=i64z_getD _ 0 (by omega) _
  have lT:=hTs.row 0 (by omega)
  have gT:(i64z ((stageM n (k+1) M).getD 0 [])).getD 0 .junk= .int .i64 (ent (stageM n (k+1) M) 0 0):=i64z_getD _ 0 (by omega) _
  have eT:ent (stageM n (k+1) M) 0 0=lead (rowF M) (k+2):=by rw [stage_ent (by omega) (by omega),lead_stg (rowF M) (k+1)]
  have eL:ent (stageM n k M) 1 0=stg (rowF M) k (k+1) k:=by rw [stage_ent (by omega) (by omega)];rfl
  have go:getB (bH m m (stageM n (k+1) M)) 0=some (outS m m m):=by rw [bH_outer,hTs.len]
  have gol:=outS_len (N:=m) (n:=m) (i:=m) (qW _)
  have gog:=outS_get (N:=m) (n:=m) (i:=m) (k:=0) (by omega)
  have gr:=bH_row (N:=m) (n:=m) (i:=0) (rows:=stageM n (k+1) M) (by rw [hTs.len];omega)
  have nb:=next_bound n8 hsym hbnd hP hk1 sp1 sp2 sz (i:=k+1) (j:=k+1) hk1 hk1 (by omega) (by omega)
  rw [←lead_stg] at nb
  have lk:=hP.lt' k (qW _)
  have lk0:=hP.pos' k (qW _)
  have sl:=sz (k+1) hk1 (by omega)
  have p1:=mul_abs64 (x:=lead (rowF M) k) (y:=lead (rowF M) (k+2)) (a:=65536) (b:=34359738368) (by omega) (by omega) nb.1 nb.2
  have p2:=mul_abs64 (x:=stg (rowF M) k (k+1) k) (y:=stg (rowF M) k (k+1) k) (a:=65536) (b:=65536) (by omega) (by omega) (by omega) (by omega)
  have p3:=mul_abs64 (x:=3*lead (rowF M) (k+1)) (y:=lead (rowF M) (k+1)) (a:=262144) (b:=65536) (by omega) (by omega) (by omega) (by omega)
  have w2:IntKind.i64.wrap (lead (rowF M) k*lead (rowF M) (k+2))=lead (rowF M) k*lead (rowF M) (k+2):=w64 (by omega) (by omega)
  have w3:IntKind.i64.wrap (stg (rowF M) k (k+1) k*stg (rowF M) k (k+1) k)=stg (rowF M) k (k+1) k*stg (rowF M) k (k+1) k:=w64 (by omega) (by omega)
  have w4:IntKind.i64.wrap (lead (rowF M) k*lead (rowF M) (k+2)+stg (rowF M) k (k+1) k*stg (rowF M) k (k+1) k)=lead (rowF M) k*lead (rowF M) (k+2)+stg (rowF M) k (k+1) k*stg (rowF M) k (k+1) k:=w64 (by omega) (by omega)
  have w5:IntKind.i64.wrap (4*(lead (rowF M) k*lead (rowF M) (k+2)+stg (rowF M) k (k+1) k*stg (rowF M) k (k+1) k))=4*(lead (rowF M) k*lead (rowF M) (k+2)+stg (rowF M) k (k+1) k*stg (rowF M) k (k+1) k):=w64 (by omega) (by omega)
  have w6:IntKind.i64.wrap (3*lead (rowF M) (k+1))=3*lead (rowF M) (k+1):=w64 (by omega) (by omega)
  have w7:IntKind.i64.wrap (3*lead (rowF M) (k+1)*lead (rowF M) (k+1))=3*lead (rowF M) (k+1)*lead (rowF M) (k+1):=w64 (by omega) (by omega)
  have hlenS:=hF.len
  simp only [SS,forall_const,reduceCtorEq,reduceIte,qX,qQ,qZ,r46_21,r46_22,f3,f4,f5,f6,hc1,hlenS,l1,g10,i64z_len,xO,Int.toNat_one,go,gol,gog,gr,lT,gT,eT,eL,w2,w3,w4,w5,w6,w7]
  have assoc:3*lead (rowF M) (k+1)*lead (rowF M) (k+1)=3*(lead (rowF M) (k+1)*lead (rowF M) (k+1)):=Int.mul_assoc _ _ _
  refine ⟨⟨by omega,by omega⟩,by omega,⟨by omega,by omega⟩,⟨by omega,by omega⟩,by omega,⟨by omega,by omega⟩,by omega,fun hno=>?_,fun hyes=>?_⟩
  ·have hbf:=no (fun e=>by
    obtain ⟨_,_,_,r4⟩:=e.2.part hk1
    omega)
   subst hbf
   simp only [r46_23,SS]
   exact ⟨.inl trivial,_,rfl,.drop _ _ rfl (by intro i cs h;omega)⟩
  ·obtain ⟨q,rfl⟩:∃q',q=q'+1:=⟨q-1,by omega⟩
   have hP':=hP.next sp1 sp2 sz (by omega)
   have hnk:n-(k+1)=m:=by omega
   have key3:∀E:Env,E 3= .sl 0 0 m 1 (some m)→frzE 0 3 (bH m m (stageM n (k+1) M)) E 3= .vec (rowsV m (stageM n (k+1) M)) (n-(k+1)) (some m):=by
    intro E h
    unfold frzE
    rw [h,if_neg (by simp [AV.under]),bH_frz hTs.len hTs.row,hnk]
    rfl
   have key4:∀(E:Env) (z:Int),E 4= .int .i64 z→frzE 0 3 (bH m m (stageM n (k+1) M)) E 4= .int .i64 z:=by
    intro E z h
    unfold frzE
    rw [h]
    rfl
   have hfit:∀i j,In64 (ent (stageM n (k+1) M) i j):=by
    intro i j
    by_cases hij:i<m∧j<m
    ·rw [stage_ent (by omega) (by omega)]
     have:=next_bound n8 hsym hbnd hP hk1 sp1 sp2 sz (i:=k+1+i) (j:=k+1+j) (by omega) (by omega) (by omega) (by omega)
     unfold In64;omega
    ·rw [hTs.out (by omega)]
     unfold In64;omega
   have hV':=imV_rows (N:=m) (n:=m) (c:=some m) hTs.len hTs.row hfit
   simp only [r46_24,SS,reduceIte,qQ,f5,f6]
   refine ⟨q,frzE 0 3 (bH m m (stageM n (k+1) M)) _,List.take 0 (bH m m (stageM n (k+1) M)),by omega,⟨k+1,rowsV m (stageM n (k+1) M),some m,by omega,hP',by rw [hnk];exact hV',key3 _ (by simp only [upd_app,qQ,reduceIte,if_false]),key4 _ _ (by simp only [upd_app,qQ,reduceIte,if_false]),rfl⟩,weak_frz 0 3 (qW _) (xP _) (fun i cs h=>absurd h (by omega))⟩
 ·have hkn:k+1=n:=by omega
  have eN:ent (stageM n k M) 0 0=lead (rowF M) n:=by rw [e00,hkn]
  have hfit0:=hV.fit 0 0
  simp only [r46_25,SS,forall_const,reduceIte,qQ,e3,hc0,hsl,l0,g00,i64z_len,xO,eN]
  have hkk:k=n-1:=by omega
  rw [hkk] at hP
  refine ⟨⟨by omega,by omega⟩,by omega,⟨by omega,by omega⟩,by omega,fun hpos=>⟨⟨by omega,by omega⟩,by omega,⟨by omega,by omega⟩,by omega,?_⟩,fun hneg=>?_⟩
  ·have hbv:b=decide (lead (rowF M) n≤10000):=by
    by_cases hd:lead (rowF M) n≤10000
    ·rw [decide_eq_true hd]
     exact hb.2 ⟨by unfold SmallP;rw [hn];exact ⟨n1,n8,hsh,hent⟩,hP.red n1 n8 hsym hpos hd⟩
    ·rw [decide_eq_false hd]
     exact no (fun e=>hd e.2.small)
   subst hbv
   exact ⟨.inl trivial,_,rfl,.drop _ _ rfl (by intro i cs h;omega)⟩
  ·have hbf:=no (fun e=>by have:=e.2.pos' n (qW _);omega)
   subst hbf
   have d0:decide (0<lead (rowF M) n)=false:=decide_eq_false hneg
   simp only [d0]
   exact ⟨.inl trivial,_,rfl,.drop _ _ rfl (by intro i cs h;omega)⟩
end Go.Proofs.YtenboapacjlmoaaGreatDoor
namespace Go.Proofs.YtenboapacjlmoaaGreatDoor
open Nat renaming lt_of_le_of_lt → qD, pow_le_pow_right → qP, pow_one → yE
set_option linter.unusedSimpArgs false
set_option linter.unusedVariables false
open Go Go.AL Go.Proofs Go.Det
set_option maxRecDepth 100000
theorem red_entry {n:Nat} {M:List (List Int)} (hS:Shp n M) (h:Red n (rowF M)) (i j:Nat):ent M i j≤180224∧ -180224≤ent M i j:=by
 by_cases hi:i<n∧j<n
 ·exact h.entry hi.1 hi.2
 ·rw [hS.out (by omega)];omega
theorem red_in64 {n:Nat} {M:List (List Int)} (hS:Shp n M) (h:Red n (rowF M)) (i j:Nat):In64 (ent M i j):=by
 have:=red_entry hS h i j
 unfold In64;omega
theorem red_small {n:Nat} {M:List (List Int)} (hS:Shp n M) (h:Red n (rowF M)):SmallP M:=by
 have hl:=hS.len
 refine ⟨by rw [hl];exact h.n1,by rw [hl];exact h.n8,by rw [hl];exact hS,fun i j hi hj=>?_⟩
 rw [hl] at hi hj
 have:=red_entry hS h i j
 exact ⟨h.sym i j hi hj,by omega,by omega⟩
theorem redIs {n:Nat} {M:List (List Int)} (hS:Shp n M) (h:Red n (rowF M)):Ret Tryz.prog G 46 [.vec (rowsV n M) n (some n)] [] (.bool true) []:=by
 have h8:=h.n8
 have hIm:ImV M (.vec (rowsV n M) n (some n)):=imV_rows hS.len hS.row (red_in64 hS h)
 refine lIsReduced hIm (by rw [hS.len];omega) (fun i hi=>by rw [hS.row i (by rw [hS.len] at hi;exact hi)];omega) ⟨fun _=>⟨red_small hS h,by rw [hS.len];exact h⟩,fun _=>rfl⟩
theorem sgCountsRed {n p e:Nat} {M:List (List Int)} (hS:Shp n M) (h:Red n (rowF M)) (hp:2≤p) (hp2:p≤9973) (hpr:Ret Tryz.prog G 47 [.int .i64 (p:Int)] [] (.bool true) []) (he:1≤e) (he2:e<2^40) (hpow:(p^e)^n≤2097152):
  ∃fin:List Nat,fin.length=p^e∧(∀t,fin.getD t 0=(Count.allV (p^e) n).countP fun y=>decide (Count.nrm (gN n M (p^e)) n y%(p^e)=t))∧
   Ret Tryz.prog G 6 [.vec (rowsV n M) n (some n),.int .i64 (p:Int),.int .i64 (e:Int)] [] (.tup [.vec (ints fin) (p^e) (some (p^e)),.int .i64 0]) []:=by
 have n1:=h.n1
 have n8:=h.n8
 have hm:2≤p^e:=by
  have:=qP (n:=p) (by omega) he
  rw [yE] at this;omega
 have hm2:p^e≤2097152:=Nat.le_trans (by have:=qP (n:=p^e) (by omega) n1;rwa [yE] at this) hpow
 obtain ⟨fin,h1,h2,h3⟩:=sgCountM hS (fun i j hi hj=>h.sym i j hi hj) (red_in64 hS h) ⟨n1,n8⟩ hm hm2 (qD hpow (by decide))
 have hIm:ImV M (.vec (rowsV n M) n (some n)):=imV_rows hS.len hS.row (red_in64 hS h)
 have hck:=sgCheck (redIs hS h) hIm.closed (p:=(p:Int)) (by omega) hpr
 refine ⟨fin,h1,h2,sgCounts hIm.closed hck (by omega) he he2 n1 (by omega) hpow h3 ?_⟩
 simp only [AV.closed]
end Go.Proofs.YtenboapacjlmoaaGreatDoor
namespace Go.Proofs.YtenboapacjlmoaaGreatDoor
open Nat renaming pow_pos → xS
open Int renaming eq_ofNat_of_zero_le → xY, emod_emod_of_dvd → xR, emod_nonneg → yI, natCast_mul → yL
set_option linter.unusedSimpArgs false
set_option linter.unusedVariables false
open Go Go.AL Go.Proofs
set_option maxRecDepth 100000
theorem gN_mod {n m c:Nat} {M:List (List Int)} (hm:0<m) (hc:0<c) {i j:Nat} (hi:i<n) (hj:j<n):Count.ent (gN n M (m*c)) i j%m=Count.ent (gN n M m) i j%m:=by
 rw [gN_ent,gN_ent]
 unfold modM
 rw [ent_mk hi hj,ent_mk hi hj]
 have hmc:0<m*c:=Nat.mul_pos hm hc
 have h1:=yI (ent M i j) (show ((m*c:Nat):Int)≠0 by omega)
 have h2:=yI (ent M i j) (show ((m:Nat):Int)≠0 by omega)
 have hd:((m:Nat):Int)∣((m*c:Nat):Int):=⟨(c:Int),by rw [yL]⟩
 have e:=xR (ent M i j) hd
 have e2:(ent M i j%((m:Nat):Int))%((m:Nat):Int)=ent M i j%((m:Nat):Int):=xR _ (Int.dvd_refl _)
 generalize ent M i j%((m*c:Nat):Int)=x at*
 generalize ent M i j%((m:Nat):Int)=y at*
 obtain ⟨a,rfl⟩:=xY h1
 obtain ⟨b,rfl⟩:=xY h2
 show a%m=b%m
 omega
theorem sum_total {n p e:Nat} {M:List (List Int)} (hp:0<p) {ca:List Nat} (ha:∀t,ca.getD t 0=(Count.allV (p^e) n).countP fun y=>decide (Count.nrm (gN n M (p^e)) n y%(p^e)=t)):
  Count.sumN (fun i=>ca.getD i 0) (p^e)=p^(e*n):=by
 rw [Count.total (xS hp) ha,Nat.pow_mul]
end Go.Proofs.YtenboapacjlmoaaGreatDoor
namespace Go.Count
open Nat renaming le_refl → qW, add_mul_mod_self_left → qV, pow_succ → qE, mul_assoc → qH, add_assoc → qM, eq_zero_or_pos → qN, mod_eq_of_lt → qO, pow_le_pow_right → qP, zero_mul → xQ, pow_add → xJ, mul_mod → xK, add_zero → xD, zero_add → xE, dvd_of_mod_eq_zero → xG, mod_lt → xH, mul_succ → xI, div_add_mod → xM, pow_pos → xS, mod_mod → xT, mod_mod_of_dvd → yW, pow_one → yE, mul_add → yG, mul_one → yH, pow_dvd_pow → yN
open List renaming getD_eq_getElem?_getD → qJ, getElem?_eq_getElem → qY, countP_eq_length_filter → qR, ext_getElem → xU, getElem?_set_ne → yQ, pairwise_map → yU, mem_map → yA, getElem_set → yC, getElem_mem → yD, mem_filter → yM
set_option linter.unusedSimpArgs false
set_option linter.unusedVariables false
theorem nodup_allV (M:Nat):∀n,(allV M n).Nodup:=by
 intro n
 induction n with
 | zero=>simp [allV]
 | succ n ih=>
  show List.Pairwise _ (List.flatMap _ _)
  rw [List.pairwise_flatMap]
  refine ⟨fun r _=>?_,?_⟩
  ·rw [yU]
   exact List.nodup_range.imp fun {a b} h e=>h (List.cons.inj e).1
  ·refine ih.imp fun {r s} h x hx y hy e=>?_
   simp only [yA,List.mem_range] at hx hy
   obtain ⟨a,_,rfl⟩:=hx
   obtain ⟨b,_,rfl⟩:=hy
   exact h (List.cons.inj e).2
theorem allV_mem {M:Nat}:∀{n:Nat} {y:List Nat},y.length=n→(∀a∈y,a<M)→y∈allV M n:=by
 intro n
 induction n with
 | zero=>intro y h _;rw [List.length_eq_zero_iff.1 h];simp [allV]
 | succ n ih=>
  intro y h ha
  cases y with
  | nil=>simp at h
  | cons a r=>
   simp only [allV,List.mem_flatMap,yA,List.mem_range]
   exact ⟨r,ih (by simpa using h) (fun b hb=>ha b (by simp [hb])),a,ha a (by simp),rfl⟩
theorem count_inj {l:List (List Nat)} (hl:l.Nodup) (P Q:List Nat→Bool) (φ:List Nat→List Nat) (h1:∀y∈l,P y=true→φ y∈l∧Q (φ y)=true) (h2:∀y∈l,∀z∈l,P y=true→P z=true→φ y=φ z→y=z):l.countP P≤l.countP Q:=by
 rw [qR,qR,←List.length_map φ]
 refine List.Nodup.length_le_of_subset ?_ ?_
 ·show List.Pairwise _ _
  rw [yU]
  refine List.Pairwise.imp_of_mem ?_ (hl.sublist (List.filter_sublist))
  intro y z hy hz hne e
  rw [yM] at hy hz
  exact hne (h2 y hy.1 z hz.1 hy.2 hz.2 e)
 ·intro x hx
  rw [yA] at hx
  obtain ⟨y,hy,rfl⟩:=hx
  rw [yM] at hy ⊢
  exact h1 y hy.1 hy.2
theorem set_get {x:List Nat} {j a b:Nat}:(x.set j a).set j b=x.set j b:=by rw [List.set_set]
theorem gx_plus {g:List (List Nat)} {n j i:Nat} {x:List Nat} (hx:x.length=n) (hj:j<n):∀t,gx g n (x.set j (x.getD j 0+t)) i=gx g n x i+t*ent g j i:=by
 intro t
 induction t with
 | zero=>
  rw [xD,xQ,xD]
  congr 1
  refine xU (by simp) fun k h1 h2=>?_
  rw [yC]
  split
  ·rename_i e;subst e;rw [qJ,qY h2];rfl
  ·rfl
 | succ t ih=>
  have:=gx_succ (g:=g) (n:=n) (i:=j) (j:=i) (x:=x.set j (x.getD j 0+t)) (by simp [hx]) hj
  rw [getD_set (by omega),if_pos rfl,set_get] at this
  rw [←qM,this,ih,Nat.succ_mul]
  omega
theorem nrm_plus {g:List (List Nat)} {n j:Nat} {x:List Nat} (hx:x.length=n) (hj:j<n) (hs:∀j k,j<n→k<n→ent g j k=ent g k j):∀t,nrm g n (x.set j (x.getD j 0+t))=nrm g n x+t*(2*gx g n x j)+t*t*ent g j j:=by
 intro t
 induction t with
 | zero=>
  have e:x.set j (x.getD j 0+0)=x:=by
   refine xU (by simp) fun k h1 h2=>?_
   rw [yC]
   split
   ·rename_i e;subst e;rw [qJ,qY h2];rfl
   ·rfl
  rw [e];omega
 | succ t ih=>
  have:=nrm_succ (g:=g) (n:=n) (i:=j) (x:=x.set j (x.getD j 0+t)) (by simp [hx]) hj hs
  rw [getD_set (by omega),if_pos rfl,set_get,gx_plus hx hj] at this
  rw [←qM,this,ih]
  generalize gx g n x j=a
  generalize ent g j j=b
  grind
theorem pick {p v n:Nat} (hinv:∀q,q%p≠0→∃u,q*u%p=1) (z:Nat→Nat) (h:∃j,j<n∧z j%p^(v+1)≠0):
  ∃s j q u,s≤v∧j<n∧(∀i,i<n→∃r,z i=p^s*r)∧z j=p^s*q∧q*u%p=1:=by
 induction v with
 | zero=>
  obtain ⟨j,hj,h0⟩:=h
  rw [xE,yE] at h0
  obtain ⟨u,hu⟩:=hinv _ h0
  exact ⟨0,j,z j,u,qW _,hj,fun i _=>⟨z i,by simp⟩,by simp,hu⟩
 | succ v ih=>
  by_cases hall:∃j,j<n∧z j%p^(v+1)≠0
  ·obtain ⟨s,j,q,u,h1,h2⟩:=ih hall
   exact ⟨s,j,q,u,by omega,h2⟩
  ·have hd:∀i,i<n→∃r,z i=p^(v+1)*r:=by
    intro i hi
    have:z i%p^(v+1)=0:=by
     rcases qN (z i%p^(v+1)) with e | e
     ·exact e
     ·exact absurd ⟨i,hi,by omega⟩ hall
    exact xG this
   obtain ⟨j,hj,h0⟩:=h
   obtain ⟨q,hq⟩:=hd j hj
   have hq0:q%p≠0:=by
    intro e
    obtain ⟨r,hr⟩:=xG e
    rw [hq,hr,←qH,←qE,Nat.mul_mod_right] at h0
    exact h0 rfl
   obtain ⟨u,hu⟩:=hinv _ hq0
   exact ⟨v+1,j,q,u,qW _,hj,hd,hq,hu⟩
structure Pick (p v n:Nat) (z:Nat→Nat) (d:Nat×Nat×Nat×Nat):Prop where
 le:d.1≤v
 lt:d.2.1<n
 all:∀i,i<n→∃r,z i=p^d.1*r
 at_:z d.2.1=p^d.1*d.2.2.1
 inv:d.2.2.1*d.2.2.2%p=1
noncomputable def choice (p v n:Nat) (z:Nat→Nat):Nat×Nat×Nat×Nat:=Classical.epsilon fun d=>Pick p v n z d
theorem choice_ok {p v n:Nat} (hinv:∀q,q%p≠0→∃u,q*u%p=1) {z:Nat→Nat} (h:∃j,j<n∧z j%p^(v+1)≠0):Pick p v n z (choice p v n z):=by
 obtain ⟨s,j,q,u,h1,h2,h3,h4,h5⟩:=pick hinv z h
 exact Classical.epsilon_spec (p:=fun d=>Pick p v n z d) ⟨(s,j,q,u),h1,h2,h3,h4,h5⟩
section
variable (g:List (List Nat)) (n p v k:Nat)
def wv (x:List Nat):Nat→Nat:=fun j=>if j<n then 2*gx g n x j%p^(v+1) else 0
noncomputable def ds (x:List Nat):Nat×Nat×Nat×Nat:=choice p v n (wv g n p v x)
noncomputable def hop (x:List Nat):List Nat:=x.set (ds g n p v x).2.1 ((x.getD (ds g n p v x).2.1 0+p^(k-(ds g n p v x).1)*(ds g n p v x).2.2.2)%p^(k+1))
end
theorem pow_split {p a b:Nat} (h:a≤b):p^b=p^a*p^(b-a):=by rw [←xJ];congr 1;omega
theorem mod_of_le {p a b x y:Nat} (h:a≤b) (e:x%p^b=y%p^b):x%p^a=y%p^a:=by
 rw [←yW x (yN p h),e,yW y (yN p h)]
theorem two_nrm (g:List (List Nat)) (n:Nat) (x:List Nat):2*nrm g n x=sumN (fun j=>2*gx g n x j*x.getD j 0) n:=by
 unfold nrm
 rw [Nat.mul_comm,←sumN_mul]
 exact sumN_congr fun j _=>by rw [Nat.mul_comm,qH]
section
variable {g:List (List Nat)} {n p v k m:Nat}
theorem some_entry (hk:2*v+1≤k) (hm:2*m%p^(v+1)≠0) {x:List Nat} (hx:nrm g n x%p^k=m%p^k):∃j,j<n∧wv g n p v x j%p^(v+1)≠0:=by
 by_cases h:∃j,j<n∧wv g n p v x j%p^(v+1)≠0
 ·exact h
 exfalso
 apply hm
 have e1:2*m%p^(v+1)=2*nrm g n x%p^(v+1):=by
  rw [xK,←mod_of_le (show v+1≤k by omega) hx,←xK]
 rw [e1,two_nrm]
 have e2:sumN (fun j=>2*gx g n x j*x.getD j 0) n%p^(v+1)=sumN (fun _=>0) n%p^(v+1):=by
  refine sumN_mod fun j hj=>?_
  have:wv g n p v x j%p^(v+1)=0:=by
   rcases qN (wv g n p v x j%p^(v+1)) with e | e
   ·exact e
   ·exact absurd ⟨j,hj,by omega⟩ h
  unfold wv at this
  rw [if_pos hj,xT] at this
  rw [xK,this,xQ]
 rw [e2,sumN_zero (fun _ _=>rfl),Nat.zero_mod]
theorem wv_congr {x y:List Nat} (h:∀j,j<n→2*gx g n x j%p^(v+1)=2*gx g n y j%p^(v+1)):wv g n p v x=wv g n p v y:=by
 funext j
 unfold wv
 split
 ·rename_i hj;exact h j hj
 ·rfl
theorem hop_alg {A B C Q q u p:Nat} (h:p*Q+1=q*u):A*u*(B*(p*C+q))=A*B+A*B*p*(u*C+Q):=by
 have:A*u*(B*(p*C+q))=A*B*(p*(u*C))+A*B*(q*u):=by grind
 rw [this,←h]
 grind
theorem hop_sq {A B u:Nat}:A*u*(A*u)*B=A*A*(u*u*B):=by grind
theorem hop_ok (hp:1<p) (hinv:∀q,q%p≠0→∃u,q*u%p=1) (hs:∀j k,j<n→k<n→ent g j k=ent g k j) (hk:2*v+1≤k) (hm:2*m%p^(v+1)≠0) {x:List Nat} (hl:x.length=n) (hlt:∀a∈x,a<p^(k+1)) (hx:nrm g n x%p^k=m%p^k):
  hop g n p v k x∈allV (p^(k+1)) n∧nrm g n (hop g n p v k x)%p^(k+1)=(nrm g n x+p^k)%p^(k+1)∧wv g n p v (hop g n p v k x)=wv g n p v x:=by
 have hP:=choice_ok hinv (some_entry hk hm hx)
 have hd:ds g n p v x=choice p v n (wv g n p v x):=rfl
 rw [←hd] at hP
 unfold hop
 generalize ds g n p v x=d at*
 obtain ⟨s,j,q,u⟩:=d
 have hsv:s≤v:=hP.le
 have hj:j<n:=hP.lt
 have hat:wv g n p v x j=p^s*q:=hP.at_
 have hqu:q*u%p=1:=hP.inv
 show x.set j ((x.getD j 0+p^(k-s)*u)%p^(k+1))∈_∧nrm g n (x.set j ((x.getD j 0+p^(k-s)*u)%p^(k+1)))%_=_∧wv g n p v (x.set j ((x.getD j 0+p^(k-s)*u)%p^(k+1)))=_
 have hM:0<p^(k+1):=xS (by omega)
 generalize ht:p^(k-s)*u=t
 have hcong:∀i,i<n→(x.set j ((x.getD j 0+t)%p^(k+1))).getD i 0%p^(k+1)=(x.set j (x.getD j 0+t)).getD i 0%p^(k+1):=by
  intro i hi
  rw [getD_set (by omega),getD_set (by omega)]
  split
  ·rw [xT]
  ·rfl
 refine ⟨allV_mem (by simp [hl]) fun a ha=>?_,?_,wv_congr fun i hi=>?_⟩
 ·rcases List.mem_or_eq_of_mem_set ha with e | e
  ·exact hlt a e
  ·rw [e];exact xH _ hM
 ·rw [nrm_mod hcong,nrm_plus hl hj hs]
  have hw:2*gx g n x j%p^(v+1)=p^s*q:=by
   unfold wv at hat
   rw [if_pos hj] at hat
   exact hat
  have hdm:=xM (2*gx g n x j) (p^(v+1))
  rw [hw] at hdm
  generalize 2*gx g n x j=w at*
  generalize w/p^(v+1)=e at*
  have e1:p^(v+1)=p^s*(p*p^(v-s)):=by rw [←Nat.pow_succ',←xJ];congr 1;omega
  have e2:w=p^s*(p*(p^(v-s)*e)+q):=by rw [←hdm,e1,yG,qH,qH]
  have hqdm:=xM (q*u) p
  rw [hqu] at hqdm
  have e3:t*w=p^k+p^(k+1)*(u*(p^(v-s)*e)+q*u/p):=by
   rw [←ht,e2]
   have e4:p^k=p^(k-s)*p^s:=by rw [←xJ];congr 1;omega
   rw [qE,e4]
   generalize p^(k-s)=A
   generalize p^s=B
   generalize p^(v-s)*e=C
   exact hop_alg hqdm
  have e5:t*t*ent g j j=p^(k+1)*(p^(2*(k-s)-(k+1))*(u*u*ent g j j)):=by
   rw [←qH,←xJ,show k+1+(2*(k-s)-(k+1))=(k-s)+(k-s) by omega,xJ,←ht]
   exact hop_sq
  rw [e3,e5]
  rw [qV,←qM,qV]
 ·
  have hg:gx g n (x.set j ((x.getD j 0+t)%p^(k+1))) i%p^(k+1)=gx g n (x.set j (x.getD j 0+t)) i%p^(k+1):=gx_mod hcong
  have hg2:=mod_of_le (show v+1≤k+1 by omega) hg
  rw [xK,hg2,←xK,gx_plus hl hj]
  have e1:t=p^(v+1)*(p^(k-s-(v+1))*u):=by
   rw [←ht,pow_split (show v+1≤k-s by omega),qH]
  rw [e1,yG,qH,Nat.mul_left_comm 2,qV]
theorem hop_back {x y:List Nat} (hx:x.length=n) (hy:y.length=n) (hxl:∀a∈x,a<p^(k+1)) (hyl:∀a∈y,a<p^(k+1)) (h1:wv g n p v (hop g n p v k x)=wv g n p v x) (h2:wv g n p v (hop g n p v k y)=wv g n p v y) (h:hop g n p v k x=hop g n p v k y):x=y:=by
 have ew:wv g n p v x=wv g n p v y:=by rw [←h1,h,h2]
 have ed:ds g n p v x=ds g n p v y:=by unfold ds;rw [ew]
 unfold hop at h
 rw [ed] at h
 generalize ds g n p v y=d at h
 obtain ⟨s,j,q,u⟩:=d
 have h:x.set j ((x.getD j 0+p^(k-s)*u)%p^(k+1))=y.set j ((y.getD j 0+p^(k-s)*u)%p^(k+1)):=h
 refine xU (hx.trans hy.symm) fun i hi1 hi2=>?_
 by_cases hij:i=j
 ·subst hij
  have:(x.set i ((x.getD i 0+p^(k-s)*u)%p^(k+1))).getD i 0=(y.set i ((y.getD i 0+p^(k-s)*u)%p^(k+1))).getD i 0:=congrArg (fun l=>l.getD i 0) h
  rw [getD_set hi1,getD_set hi2,if_pos rfl,if_pos rfl] at this
  have a1:=hxl _ (yD hi1)
  have a2:=hyl _ (yD hi2)
  rw [qJ,qJ,qY hi1,qY hi2] at this
  simp only [Option.getD_some] at this
  generalize p^(k-s)*u=t at this
  generalize p^(k+1)=M at*
  have:=(Nat.add_mod_eq_add_mod_right (M-t%M)) this
  have hM:0<M:=by omega
  have ht:t%M<M:=xH _ hM
  have key:∀a,a<M→(a+t+(M-t%M))%M=a:=by
   intro a ha
   have e:a+t+(M-t%M)=a+M*(t/M+1):=by
    have:=xM t M
    rw [yG,yH]
    omega
   rw [e,qV,qO ha]
  rw [key _ a1,key _ a2] at this
  exact this
 ·have:(x.set j ((x.getD j 0+p^(k-s)*u)%p^(k+1))).getD i 0=(y.set j ((y.getD j 0+p^(k-s)*u)%p^(k+1))).getD i 0:=congrArg (fun l=>l.getD i 0) h
  have l1:(x.set j ((x.getD j 0+p^(k-s)*u)%p^(k+1))).getD i 0=x.getD i 0:=by
   rw [qJ,yQ (fun e=>hij e.symm),qJ]
  have l2:(y.set j ((y.getD j 0+p^(k-s)*u)%p^(k+1))).getD i 0=y.getD i 0:=by
   rw [qJ,yQ (fun e=>hij e.symm),qJ]
  rw [l1,l2,qJ,qJ,qY hi1,qY hi2] at this
  exact this
theorem class_le (hp:1<p) (hinv:∀q,q%p≠0→∃u,q*u%p=1) (hs:∀j k,j<n→k<n→ent g j k=ent g k j) (hk:2*v+1≤k) (hm:2*m%p^(v+1)≠0) {t:Nat} (ht:t%p^k=m%p^k):
  (allV (p^(k+1)) n).countP (fun y=>decide (nrm g n y%p^(k+1)=t))≤(allV (p^(k+1)) n).countP (fun y=>decide (nrm g n y%p^(k+1)=(t+p^k)%p^(k+1))):=by
 have hok:∀y∈allV (p^(k+1)) n,decide (nrm g n y%p^(k+1)=t)=true→nrm g n y%p^k=m%p^k:=by
  intro y _ h
  have:=of_decide_eq_true h
  rw [←ht,←this,qE,Nat.mod_mul_right_mod]
 refine count_inj (nodup_allV _ _) _ _ (hop g n p v k) (fun y hy h=>?_) fun y hy z hz h1 h2 e=>?_
 ·obtain ⟨l1,l2⟩:=mem_allV hy
  obtain ⟨a,b,_⟩:=hop_ok hp hinv hs hk hm l1 l2 (hok y hy h)
  refine ⟨a,decide_eq_true ?_⟩
  rw [b,Nat.add_mod,of_decide_eq_true h,Nat.add_mod_mod]
 ·obtain ⟨l1,l2⟩:=mem_allV hy
  obtain ⟨m1,m2⟩:=mem_allV hz
  exact hop_back l1 m1 l2 m2 (hop_ok hp hinv hs hk hm l1 l2 (hok y hy h1)).2.2 (hop_ok hp hinv hs hk hm m1 m2 (hok z hz h2)).2.2 e
end
theorem sum_class (h:Nat→Nat) {M t:Nat} (ht:t<M):∀c,sumN (fun i=>if i%M=t then h i else 0) (M*c)=sumN (fun j=>h (t+M*j)) c:=by
 intro c
 induction c with
 | zero=>rfl
 | succ c ih=>
  have key:∀k,k≤M→sumN (fun i=>if i%M=t then h i else 0) (M*c+k)=sumN (fun j=>h (t+M*j)) c+if t<k then h (t+M*c) else 0:=by
   intro k
   induction k with
   | zero=>intro _;rw [xD,ih,if_neg (by omega)];rfl
   | succ k ihk=>
    intro hk
    rw [←qM]
    simp only [sumN]
    rw [ihk (by omega),Nat.mul_add_mod,qO (by omega)]
    by_cases h1:k=t
    ·subst h1
     rw [if_neg (by omega),if_pos rfl,if_pos (by omega),Nat.add_comm (M*c),xD]
    ·rw [if_neg h1]
     by_cases h2:t<k
     ·rw [if_pos h2,if_pos (by omega)];omega
     ·rw [if_neg h2,if_neg (by omega)]
  rw [xI,key M (qW _),if_pos ht]
  rfl
theorem stable {g g':List (List Nat)} {n p v k m:Nat} (hp:1<p) (hinv:∀q,q%p≠0→∃u,q*u%p=1) (hs:∀j k,j<n→k<n→ent g' j k=ent g' k j) (hk:2*v+1≤k) (hm:2*m%p^(v+1)≠0)
  (hg:∀i j,i<n→j<n→ent g' i j%p^k=ent g i j%p^k) {ca cb:List Nat}
  (ha:∀t,ca.getD t 0=(allV (p^k) n).countP fun y=>decide (nrm g n y%p^k=t)) (hb:∀t,cb.getD t 0=(allV (p^(k+1)) n).countP fun y=>decide (nrm g' n y%p^(k+1)=t)):
  p*cb.getD (m%p^(k+1)) 0=p^n*ca.getD (m%p^k) 0:=by
 have hM:0<p^k:=xS (by omega)
 have ht:m%p^k<p^k:=xH _ hM
 have e:=coarse (g:=g) (g':=g') (a:=[]) (b:=[]) (n:=n) (c:=p) hM (by omega) hg ha (by rw [←qE];exact hb) ht
 rw [sum_class (fun i=>cb.getD i 0) ht] at e
 rw [←e]
 have hle:∀t,t%p^k=m%p^k→cb.getD t 0≤cb.getD ((t+p^k)%p^(k+1)) 0:=by
  intro t h
  rw [hb,hb]
  exact class_le hp hinv hs hk hm h
 have hup:∀c j,j+c<p→cb.getD (m%p^k+p^k*j) 0≤cb.getD (m%p^k+p^k*(j+c)) 0:=by
  intro c
  induction c with
  | zero=>intro j _;exact qW _
  | succ c ih=>
   intro j hj
   refine Nat.le_trans (ih j (by omega)) ?_
   have:=hle (m%p^k+p^k*(j+c)) (by rw [qV,xT])
   have e1:m%p^k+p^k*(j+c)+p^k=m%p^k+p^k*(j+(c+1)):=by rw [←qM j,xI];omega
   have e2:m%p^k+p^k*(j+(c+1))<p^(k+1):=by
    have:p^k*(j+(c+1)+1)≤p^k*p:=Nat.mul_le_mul_left _ (by omega)
    rw [xI] at this
    rw [qE];omega
   rw [e1,qO e2] at this
   exact this
 have hround:cb.getD (m%p^k+p^k*(p-1)) 0≤cb.getD (m%p^k+p^k*0) 0:=by
  have:=hle (m%p^k+p^k*(p-1)) (by rw [qV,xT])
  have e1:m%p^k+p^k*(p-1)+p^k=m%p^k+p^(k+1):=by
   rw [qE,qM,←xI]
   congr 2
   omega
  have e2:(m%p^k+p^(k+1))%p^(k+1)=m%p^k:=by
   rw [Nat.add_mod_right,qO]
   exact Nat.lt_of_lt_of_le ht (qP (by omega) (by omega))
  rw [e1,e2] at this
  simpa using this
 have heq:∀j,j<p→cb.getD (m%p^k+p^k*j) 0=cb.getD (m%p^k+p^k*0) 0:=by
  intro j hj
  have h1:=hup j 0 (by omega)
  have h2:=hup (p-1-j) j (by omega)
  rw [xE] at h1
  rw [show j+(p-1-j)=p-1 by omega] at h2
  omega
 have hc:∃j,j<p∧m%p^(k+1)=m%p^k+p^k*j:=by
  refine ⟨m/p^k%p,xH _ (by omega),?_⟩
  rw [qE,Nat.mod_mul]
 obtain ⟨j0,hj0,ej⟩:=hc
 rw [ej,heq j0 hj0]
 have:sumN (fun j=>cb.getD (m%p^k+p^k*j) 0) p=sumN (fun _=>cb.getD (m%p^k+p^k*0) 0) p:=sumN_congr fun j hj=>heq j hj
 rw [this]
 have hconst:∀(c a:Nat),sumN (fun _=>a) c=c*a:=by
  intro c a
  induction c with
  | zero=>simp [sumN]
  | succ c ih=>simp only [sumN,ih,Nat.succ_mul]
 rw [hconst]
end Go.Count
namespace Go.Proofs.YtenboapacjlmoaaGreatDoor
open Nat renaming reduceEqDiff → qQ, reduceAdd → qX, reduceLeDiff → qZ, le_refl → qW, lt_of_le_of_lt → qD, pow_succ → qE, div_le_self → qG, div_one → qI, eq_zero_or_pos → qN, mul_ne_zero → qS, zero_mul → xQ, pos_of_ne_zero → xZ, gcd_dvd_right → xW, reduceSub → xV, gcd_dvd_left → xC, zero_add → xE, mod_lt → xH, gcd_comm → xL, zero_le → xP, pow_pos → xS, reduceMul → yK, mul_one → yH
open List renaming getElem?_cons_zero → qU, getElem?_cons_succ → qC, getD_cons_succ → qL, replicate_zero → qT, append_nil → xN, take_zero → yX, set_cons_succ → yV, set_cons_zero → yY, nil_append → yO
open Int renaming reduceLT → qK, reduceLE → qA, reduceSub → qB, reduceEq → xX, natCast_zero → xB, reduceNeg → yZ, reduceAdd → yJ, natCast_mul → yL
open Option renaming bind_some → xA
open Option.some renaming injEq → yB
set_option linter.unusedSimpArgs false
set_option linter.unusedVariables false
open Go Go.AL Go.Proofs
set_option maxRecDepth 100000
theorem inv235 {c:Nat} (hc:c=2∨c=3∨c=5):∀q,q%c≠0→∃u,q*u%c=1:=by
 intro q hq
 rcases hc with rfl | rfl | rfl
 ·exact ⟨1,by omega⟩
 ·rcases (by omega:q%3=1∨q%3=2) with h | h
  ·exact ⟨1,by omega⟩
  ·exact ⟨2,by omega⟩
 ·rcases (by omega:q%5=1∨q%5=2∨q%5=3∨q%5=4) with h | h | h | h
  ·exact ⟨1,by omega⟩
  ·exact ⟨3,by omega⟩
  ·exact ⟨2,by omega⟩
  ·exact ⟨4,by omega⟩
theorem stab {n c v k:Nat} {M:List (List Int)} (hsym:∀i j,i<n→j<n→ent M i j=ent M j i) (hc:c=2∨c=3∨c=5) (hm:2*k%c^(v+1)≠0) {ca cb:List Nat}
  (ha:∀t,ca.getD t 0=(Count.allV (c^(2*v+1)) n).countP fun y=>decide (Count.nrm (gN n M (c^(2*v+1))) n y%c^(2*v+1)=t))
  (hb:∀t,cb.getD t 0=(Count.allV (c^(2*v+2)) n).countP fun y=>decide (Count.nrm (gN n M (c^(2*v+2))) n y%c^(2*v+2)=t)):
  c*cb.getD (k%c^(2*v+2)) 0=c^n*ca.getD (k%c^(2*v+1)) 0:=by
 have hc1:1<c:=by omega
 have hpe:0<c^(2*v+1):=xS (by omega)
 refine Count.stable (g:=gN n M (c^(2*v+1))) (g':=gN n M (c^(2*v+2))) (n:=n) hc1 (inv235 hc) (fun j k hj hk=>?_) (qW (2*v+1)) hm (fun i j hi hj=>?_) ha hb
 ·rw [gN_ent,gN_ent]
  unfold modM
  rw [ent_mk hj hk,ent_mk hk hj,hsym j k hj hk]
 ·have:=gN_mod (n:=n) (M:=M) (m:=c^(2*v+1)) (c:=c) hpe (by omega) hi hj
  rwa [←qE] at this
def r69_0:List COp:=[oP 2 (.mov (.k (.vec [] 0 (some 0))))]
def r69_1:List COp:=[mV 3 0,oP 4 (.len false (.t 3)),oP 5 (.bin .gtr (.t 4) (kI 0)),mV 6 5,gU 7 6 true (.mov (.t 0)),gU 8 6 true (.mov (.t 0)),gU 9 6 true (.len false (.t 8)),gU 10 6 true (.bin .sub (.t 9) (kI 1)),gU 11 6 true (.idx 1 (.t 7) (.t 10)),gU 12 6 true (.load false 1 (.t 11)),gU 13 6 true (.bin .eql (.t 12) (.k (.int .u32 0))),oP 14 (.pick (.t 6) (.t 13) (.k (.bool false)))]
def r69_2:List COp:=[mV 15 0,mV 16 0,oP 17 (.len false (.t 16)),oP 18 (.bin .sub (.t 17) (kI 1)),oP 19 (.slice 1 (.t 15) none (some (.t 18)) none),mV 0 19]
def l69_0:CC:=(.seq (.seq (.reg r69_1 none) (.cond (.t 14) .skip (.exit 0))) (.block 1 (.reg r69_2 none)))
def r69_3:List COp:=[mV 20 0,mV 2 20]
def c69:CC:=(.seq (.reg r69_0 none) (.seq (.block 0 (.loop l69_0)) (.seq (.reg r69_3 none) .ret)))
theorem comp69:CmpC Tryz.prog G Tryz.f69=some c69:=by kernel_rfl
theorem res69:Tryz.f69.results.toList=[(.tmp 2)]:=by kernel_rfl
def r120_0:List COp:=[oP 2 (.mov (.k (.int .u64 0)))]
def r120_1:List COp:=[oP 3 (.mov (.k (.int .u64 0)))]
def r120_2:List COp:=[mV 6 0,oP 7 (.len false (.t 6)),oP 8 (.mov (kI 0))]
def r120_3:List COp:=[oP 9 (.bin .lss (.t 8) (.t 7))]
def r120_4:List COp:=[mV 10 8,oP 11 (.idx 1 (.t 6) (.t 8)),oP 12 (.load false 1 (.t 11)),mV 4 10,mV 5 12]
def r120_5:List COp:=[mV 13 3,mV 14 5,oP 15 (.conv .u64 (.t 14)),mV 16 4,oP 17 (.bin .mul (kI 32) (.t 16)),oP 18 (.bin .shl (.t 15) (.t 17)),oP 19 (.bin .or (.t 13) (.t 18)),mV 3 19]
def r120_6:List COp:=[oP 20 (.bin .add (.t 8) (kI 1)),mV 8 20]
def l120_0:CC:=(.seq (.reg r120_3 none) (.seq (.cond (.t 9) .skip (.exit 0)) (.seq (.block 1 (.seq (.reg r120_4 none) (.reg r120_5 none))) (.reg r120_6 none))))
def r120_7:List COp:=[mV 21 3,mV 2 21]
def c120:CC:=(.seq (.reg r120_0 none) (.seq (.reg r120_1 none) (.seq (.seq (.reg r120_2 none) (.block 0 (.loop l120_0))) (.seq (.reg r120_7 none) .ret))))
theorem comp120:CmpC Tryz.prog G Tryz.f120=some c120:=by kernel_rfl
theorem res120:Tryz.f120.results.toList=[(.tmp 2)]:=by kernel_rfl
def r56_0:List COp:=[oP 4 (.box (.k (.agg [(.bool false),(.vec [] 0 (some 0))])))]
def r56_1:List COp:=[mV 5 1,oP 6 (.len false (.t 5)),oP 7 (.bin .eql (.t 6) (kI 0))]
def r56_2:List COp:=[oP 8 (.build [(.bool false),(.vec [] 0 (some 0))] []),sT (.store 2 (.t 4) (.t 8))]
def r56_3:List COp:=[mV 9 0,mV 10 1,oP 11 (.build [(.bool false),(.vec [] 0 (some 0))] [(0,(1,(.t 9))),(1,(1,(.t 10)))]),sT (.store 2 (.t 4) (.t 11))]
def c56:CC:=(.seq (.reg r56_0 none) (.seq (.seq (.reg r56_1 none) (.cond (.t 7) (.seq (.reg r56_2 none) .ret) .skip)) (.seq (.reg r56_3 none) .ret)))
theorem comp56:CmpC Tryz.prog G Tryz.f56=some c56:=by kernel_rfl
theorem res56:Tryz.f56.results.toList=[(.cell 4 37)]:=by kernel_rfl
def r57_0:List COp:=[oP 2 (.mov (.k (.vec [] 0 (some 0))))]
def r57_1:List COp:=[mV 3 0,oP 4 (.conv .u32 (.t 3)),mV 5 0,oP 6 (.bin .shr (.t 5) (.k (.int .u64 32))),oP 7 (.conv .u32 (.t 6)),oP 8 (.bsl 2 1 [(.int .u32 0),(.int .u32 0)] [(0,(1,(.t 4))),(1,(1,(.t 7)))]),oP 9 (.call 69 [.t 8]),mV 2 9]
def c57:CC:=(.seq (.reg r57_0 none) (.seq (.reg r57_1 none) .ret))
theorem comp57:CmpC Tryz.prog G Tryz.f57=some c57:=by kernel_rfl
theorem res57:Tryz.f57.results.toList=[(.tmp 2)]:=by kernel_rfl
def r70_0:List COp:=[oP 4 (.mov (.k (.vec [] 0 (some 0))))]
def r70_1:List COp:=[mV 12 0,oP 13 (.len false (.t 12)),oP 14 (.bin .leq (.t 13) (kI 1)),mV 15 14,gU 16 15 true (.mov (.t 1)),gU 17 15 true (.len false (.t 16)),gU 18 15 true (.bin .leq (.t 17) (kI 1)),oP 19 (.pick (.t 15) (.t 18) (.k (.bool false)))]
def r70_2:List COp:=[mV 20 0,oP 21 (.call 120 [.t 20]),mV 22 1,oP 23 (.call 120 [.t 22]),oP 24 (.bin .mul (.t 21) (.t 23)),oP 25 (.call 57 [.t 24]),mV 4 25]
def r70_3:List COp:=[mV 26 0,oP 27 (.len false (.t 26)),mV 28 1,oP 29 (.len false (.t 28)),oP 30 (.bin .add (.t 27) (.t 29)),oP 31 (.mksl 1 4 [(.int .u32 0)] (.t 30) (.t 30)),mV 5 31]
def r70_4:List COp:=[mV 32 0,oP 33 (.len false (.t 32)),oP 34 (.mov (kI 0))]
def r70_5:List COp:=[oP 35 (.bin .lss (.t 34) (.t 33))]
def r70_6:List COp:=[mV 36 34,oP 37 (.idx 1 (.t 32) (.t 34)),oP 38 (.load false 1 (.t 37)),mV 6 36,mV 7 38]
def r70_7:List COp:=[mV 39 7,oP 40 (.bin .eql (.t 39) (.k (.int .u32 0)))]
def r70_8:List COp:=[mV 41 5,mV 42 6,mV 43 6,mV 44 1,oP 45 (.len false (.t 44)),oP 46 (.bin .add (.t 43) (.t 45)),oP 47 (.bin .add (.t 46) (kI 1)),oP 48 (.slice 1 (.t 41) (some (.t 42)) (some (.t 47)) none),mV 8 48]
def r70_9:List COp:=[oP 9 (.mov (.k (.int .u64 0)))]
def r70_10:List COp:=[mV 49 1,oP 50 (.len false (.t 49)),oP 51 (.mov (kI 0))]
def r70_11:List COp:=[oP 52 (.bin .lss (.t 51) (.t 50))]
def r70_12:List COp:=[mV 53 51,oP 54 (.idx 1 (.t 49) (.t 51)),oP 55 (.load false 1 (.t 54)),mV 10 53,mV 11 55]
def r70_13:List COp:=[mV 56 9,mV 57 7,oP 58 (.conv .u64 (.t 57)),mV 59 11,oP 60 (.conv .u64 (.t 59)),oP 61 (.bin .mul (.t 58) (.t 60)),mV 62 8,mV 63 10,oP 64 (.idx 1 (.t 62) (.t 63)),oP 65 (.load false 1 (.t 64)),oP 66 (.conv .u64 (.t 65)),oP 67 (.bin .add (.t 61) (.t 66)),oP 68 (.bin .add (.t 56) (.t 67)),mV 9 68]
def r70_14:List COp:=[mV 69 8,mV 70 10,mV 71 9,oP 72 (.conv .u32 (.t 71)),oP 73 (.idx 1 (.t 69) (.t 70)),sT (.store 1 (.t 73) (.t 72))]
def r70_15:List COp:=[mV 74 9,oP 75 (.bin .shr (.t 74) (.k (.int .u64 32))),mV 9 75]
def r70_16:List COp:=[oP 76 (.bin .add (.t 51) (kI 1)),mV 51 76]
def l70_1:CC:=(.seq (.reg r70_11 none) (.seq (.cond (.t 52) .skip (.exit 2)) (.seq (.block 3 (.seq (.reg r70_12 none) (.seq (.reg r70_13 none) (.seq (.reg r70_14 none) (.reg r70_15 none))))) (.reg r70_16 none))))
def r70_17:List COp:=[mV 77 8,mV 78 1,oP 79 (.len false (.t 78)),mV 80 9,oP 81 (.conv .u32 (.t 80)),oP 82 (.idx 1 (.t 77) (.t 79)),sT (.store 1 (.t 82) (.t 81))]
def r70_18:List COp:=[oP 83 (.bin .add (.t 34) (kI 1)),mV 34 83]
def l70_0:CC:=(.seq (.reg r70_5 none) (.seq (.cond (.t 35) .skip (.exit 0)) (.seq (.block 1 (.seq (.reg r70_6 none) (.seq (.seq (.reg r70_7 none) (.cond (.t 40) (.exit 1) .skip)) (.seq (.reg r70_8 none) (.seq (.reg r70_9 none) (.seq (.seq (.reg r70_10 none) (.block 2 (.loop l70_1))) (.reg r70_17 none))))))) (.reg r70_18 none))))
def r70_19:List COp:=[mV 84 5,oP 85 (.call 69 [.t 84]),mV 4 85]
def c70:CC:=(.seq (.reg r70_0 none) (.seq (.seq (.reg r70_1 none) (.cond (.t 19) (.seq (.reg r70_2 none) .ret) .skip)) (.seq (.reg r70_3 none) (.seq (.seq (.reg r70_4 none) (.block 0 (.loop l70_0))) (.seq (.reg r70_19 none) .ret)))))
theorem comp70:CmpC Tryz.prog G Tryz.f70=some c70:=by kernel_rfl
theorem res70:Tryz.f70.results.toList=[(.tmp 4)]:=by kernel_rfl
def r31_0:List COp:=[oP 2 (.box (.t 0)),oP 3 (.box (.t 1)),oP 4 (.box (.k (.agg [(.bool false),(.vec [] 0 (some 0))])))]
def r31_1:List COp:=[oP 5 (.fld 0 (.t 2)),oP 6 (.load false 1 (.t 5)),oP 7 (.fld 0 (.t 3)),oP 8 (.load false 1 (.t 7)),oP 9 (.beq true (.t 6) (.t 8)),oP 10 (.fld 1 (.t 2)),oP 11 (.load false 1 (.t 10)),oP 12 (.call 69 [.t 11]),oP 13 (.fld 1 (.t 3)),oP 14 (.load false 1 (.t 13)),oP 15 (.call 69 [.t 14]),oP 16 (.call 70 [.t 12,.t 15]),oP 17 (.call 56 [.t 9,.t 16]),sT (.store 2 (.t 4) (.t 17))]
def c31:CC:=(.seq (.reg r31_0 none) (.seq (.reg r31_1 (some [(1,3),(1,6),(3,6),(1,7),(3,7),(1,9),(3,9),(6,9),(7,9),(1,10),(3,10),(1,11),(3,11)])) .ret))
theorem comp31:CmpC Tryz.prog G Tryz.f31=some c31:=by kernel_rfl
theorem res31:Tryz.f31.results.toList=[(.cell 4 37)]:=by kernel_rfl
def r22_0:List COp:=[oP 2 (.box (.k (.agg [(.bool false),(.vec [] 0 (some 0))])))]
def r22_1:List COp:=[mV 3 0,oP 4 (.bin .lss (.t 3) (kI 0))]
def r22_2:List COp:=[mV 5 0,oP 6 (.conv .u64 (.t 5)),oP 7 (.un .neg (.t 6)),oP 8 (.call 57 [.t 7]),oP 9 (.call 56 [(.k (.bool true)),.t 8]),sT (.store 2 (.t 2) (.t 9))]
def r22_3:List COp:=[mV 10 0,oP 11 (.conv .u64 (.t 10)),oP 12 (.call 57 [.t 11]),oP 13 (.call 56 [(.k (.bool false)),.t 12]),sT (.store 2 (.t 2) (.t 13))]
def c22:CC:=(.seq (.reg r22_0 none) (.seq (.seq (.reg r22_1 none) (.cond (.t 4) (.seq (.reg r22_2 none) .ret) .skip)) (.seq (.reg r22_3 none) .ret)))
theorem comp22:CmpC Tryz.prog G Tryz.f22=some c22:=by kernel_rfl
theorem res22:Tryz.f22.results.toList=[(.cell 2 37)]:=by kernel_rfl
def r52_0:List COp:=[oP 1 (.box (.t 0)),oP 2 (.mov (kI 0))]
def r52_1:List COp:=[oP 4 (.fld 1 (.t 1)),oP 5 (.load false 1 (.t 4)),oP 6 (.call 69 [.t 5]),oP 7 (.len false (.t 6)),oP 8 (.bin .eql (.t 7) (kI 0)),mV 3 8]
def r52_2:List COp:=[oP 2 (.mov (kI 0))]
def r52_3:List COp:=[oP 10 (.fld 0 (.t 1)),oP 11 (.load false 1 (.t 10)),mV 9 11]
def r52_4:List COp:=[oP 2 (.mov (.k (.int .i64 (-1))))]
def r52_5:List COp:=[oP 2 (.mov (kI 1))]
def c52:CC:=(.seq (.reg r52_0 none) (.seq (.block 0 (.seq (.reg r52_1 none) (.cond (.t 3) (.seq (.reg r52_2 none) .ret) (.seq (.reg r52_3 none) (.cond (.t 9) (.seq (.reg r52_4 none) .ret) .skip))))) (.seq (.reg r52_5 none) .ret)))
theorem comp52:CmpC Tryz.prog G Tryz.f52=some c52:=by kernel_rfl
theorem res52:Tryz.f52.results.toList=[(.tmp 2)]:=by kernel_rfl
def r68_0:List COp:=[oP 4 (.mov (kI 0))]
def r68_1:List COp:=[mV 7 0,oP 8 (.len false (.t 7)),mV 9 1,oP 10 (.len false (.t 9)),oP 11 (.bin .lss (.t 8) (.t 10)),mV 6 11]
def r68_2:List COp:=[oP 4 (.mov (.k (.int .i64 (-1))))]
def r68_3:List COp:=[mV 13 0,oP 14 (.len false (.t 13)),mV 15 1,oP 16 (.len false (.t 15)),oP 17 (.bin .gtr (.t 14) (.t 16)),mV 12 17]
def r68_4:List COp:=[oP 4 (.mov (kI 1))]
def r68_5:List COp:=[mV 18 0,oP 19 (.len false (.t 18)),oP 20 (.bin .sub (.t 19) (kI 1)),mV 5 20]
def r68_6:List COp:=[mV 21 5,oP 22 (.bin .geq (.t 21) (kI 0))]
def r68_7:List COp:=[mV 26 0,mV 27 5,oP 28 (.idx 1 (.t 26) (.t 27)),oP 29 (.load false 1 (.t 28)),mV 30 1,mV 31 5,oP 32 (.idx 1 (.t 30) (.t 31)),oP 33 (.load false 1 (.t 32)),oP 34 (.bin .lss (.t 29) (.t 33)),mV 25 34]
def r68_8:List COp:=[oP 4 (.mov (.k (.int .i64 (-1))))]
def r68_9:List COp:=[mV 36 0,mV 37 5,oP 38 (.idx 1 (.t 36) (.t 37)),oP 39 (.load false 1 (.t 38)),mV 40 1,mV 41 5,oP 42 (.idx 1 (.t 40) (.t 41)),oP 43 (.load false 1 (.t 42)),oP 44 (.bin .gtr (.t 39) (.t 43)),mV 35 44]
def r68_10:List COp:=[oP 4 (.mov (kI 1))]
def r68_11:List COp:=[mV 23 5,oP 24 (.bin .sub (.t 23) (kI 1)),mV 5 24]
def l68_0:CC:=(.seq (.seq (.reg r68_6 none) (.cond (.t 22) .skip (.exit 1))) (.seq (.block 2 (.block 3 (.seq (.reg r68_7 (some [(3,7)])) (.cond (.t 25) (.seq (.reg r68_8 none) .ret) (.seq (.reg r68_9 (some [(3,7)])) (.cond (.t 35) (.seq (.reg r68_10 none) .ret) .skip)))))) (.reg r68_11 none)))
def r68_12:List COp:=[oP 4 (.mov (kI 0))]
def c68:CC:=(.seq (.reg r68_0 none) (.seq (.block 0 (.seq (.reg r68_1 none) (.cond (.t 6) (.seq (.reg r68_2 none) .ret) (.seq (.reg r68_3 none) (.cond (.t 12) (.seq (.reg r68_4 none) .ret) .skip))))) (.seq (.seq (.reg r68_5 none) (.block 1 (.loop l68_0))) (.seq (.reg r68_12 none) .ret))))
theorem comp68:CmpC Tryz.prog G Tryz.f68=some c68:=by kernel_rfl
theorem res68:Tryz.f68.results.toList=[(.tmp 4)]:=by kernel_rfl
def r30_0:List COp:=[oP 2 (.box (.t 0)),oP 3 (.box (.t 1)),oP 4 (.mov (kI 0))]
def r30_1:List COp:=[oP 7 (.load true 2 (.t 2)),oP 8 (.call 52 [.t 7]),oP 9 (.load true 2 (.t 3)),oP 10 (.call 52 [.t 9]),mV 5 8,mV 6 10]
def r30_2:List COp:=[mV 12 5,mV 13 6,oP 14 (.bin .lss (.t 12) (.t 13)),mV 11 14]
def r30_3:List COp:=[oP 4 (.mov (.k (.int .i64 (-1))))]
def r30_4:List COp:=[mV 16 5,mV 17 6,oP 18 (.bin .gtr (.t 16) (.t 17)),mV 15 18]
def r30_5:List COp:=[oP 4 (.mov (kI 1))]
def r30_6:List COp:=[mV 19 5,oP 20 (.fld 1 (.t 2)),oP 21 (.load false 1 (.t 20)),oP 22 (.call 69 [.t 21]),oP 23 (.fld 1 (.t 3)),oP 24 (.load false 1 (.t 23)),oP 25 (.call 69 [.t 24]),oP 26 (.call 68 [.t 22,.t 25]),oP 27 (.bin .mul (.t 19) (.t 26)),mV 4 27]
def c30:CC:=(.seq (.reg r30_0 none) (.seq (.reg r30_1 (some [(0,2),(1,2)])) (.seq (.block 0 (.seq (.reg r30_2 none) (.cond (.t 11) (.seq (.reg r30_3 none) .ret) (.seq (.reg r30_4 none) (.cond (.t 15) (.seq (.reg r30_5 none) .ret) .skip))))) (.seq (.reg r30_6 (some [(2,5),(3,5)])) .ret))))
theorem comp30:CmpC Tryz.prog G Tryz.f30=some c30:=by kernel_rfl
theorem res30:Tryz.f30.results.toList=[(.tmp 4)]:=by kernel_rfl
def r53_0:List COp:=[oP 1 (.box (.t 0)),oP 2 (.box (.k (.agg [(.bool false),(.vec [] 0 (some 0))])))]
def r53_1:List COp:=[oP 3 (.fld 0 (.t 1)),oP 4 (.load false 1 (.t 3)),oP 5 (.fld 1 (.t 1)),oP 6 (.load false 1 (.t 5)),oP 7 (.call 69 [.t 6]),oP 8 (.call 108 [.t 7]),oP 9 (.call 56 [.t 4,.t 8]),sT (.store 2 (.t 2) (.t 9))]
def c53:CC:=(.seq (.reg r53_0 none) (.seq (.reg r53_1 (some [(1,3),(1,4),(1,5)])) .ret))
theorem comp53:CmpC Tryz.prog G Tryz.f53=some c53:=by kernel_rfl
theorem res53:Tryz.f53.results.toList=[(.cell 2 37)]:=by kernel_rfl
def r109_0:List COp:=[oP 4 (.mov (.k (.vec [] 0 (some 0)))),oP 5 (.mov (.k (.vec [] 0 (some 0))))]
def r109_1:List COp:=[mV 14 0,mV 15 1,oP 16 (.call 68 [.t 14,.t 15]),oP 17 (.bin .lss (.t 16) (kI 0)),mV 13 17]
def r109_2:List COp:=[mV 18 0,oP 19 (.call 108 [.t 18]),oP 4 (.mov (.k (.vec [] 0 (some 0)))),mV 5 19]
def r109_3:List COp:=[mV 21 0,oP 22 (.len false (.t 21)),oP 23 (.bin .leq (.t 22) (kI 2)),mV 20 23]
def r109_4:List COp:=[mV 24 0,oP 25 (.call 120 [.t 24]),mV 26 1,oP 27 (.call 120 [.t 26]),mV 6 25,mV 7 27]
def r109_5:List COp:=[mV 28 6,mV 29 7,oP 30 (.bin .quo (.t 28) (.t 29)),oP 31 (.call 57 [.t 30]),mV 32 6,mV 33 7,oP 34 (.bin .rem (.t 32) (.t 33)),oP 35 (.call 57 [.t 34]),mV 4 31,mV 5 35]
def r109_6:List COp:=[mV 37 1,oP 38 (.len false (.t 37)),oP 39 (.bin .eql (.t 38) (kI 1)),mV 36 39]
def r109_7:List COp:=[mV 40 0,oP 41 (.call 108 [.t 40]),mV 4 41]
def r109_8:List COp:=[mV 42 4,mV 43 1,oP 44 (.idx 1 (.t 43) (kI 0)),oP 45 (.load false 1 (.t 44)),oP 46 (.call 152 [.t 42,.t 45]),mV 8 46]
def r109_9:List COp:=[mV 47 4,oP 48 (.call 69 [.t 47]),mV 49 8,oP 50 (.conv .u64 (.t 49)),oP 51 (.call 57 [.t 50]),mV 4 48,mV 5 51]
def r109_10:List COp:=[mV 52 1,mV 53 1,oP 54 (.len false (.t 53)),oP 55 (.bin .sub (.t 54) (kI 1)),oP 56 (.idx 1 (.t 52) (.t 55)),oP 57 (.load false 1 (.t 56)),oP 58 (.call 154 [.t 57]),mV 9 58]
def r109_11:List COp:=[mV 59 1,mV 60 9,oP 61 (.call 155 [.t 59,.t 60]),mV 62 1,oP 63 (.len false (.t 62)),oP 64 (.slice 1 (.t 61) none (some (.t 63)) none),mV 10 64]
def r109_12:List COp:=[mV 65 0,mV 66 9,oP 67 (.call 155 [.t 65,.t 66]),mV 11 67]
def r109_13:List COp:=[mV 68 0,oP 69 (.len false (.t 68)),mV 70 1,oP 71 (.len false (.t 70)),oP 72 (.bin .sub (.t 69) (.t 71)),oP 73 (.bin .add (.t 72) (kI 1)),oP 74 (.mksl 1 4 [(.int .u32 0)] (.t 73) (.t 73)),mV 4 74]
def r109_14:List COp:=[mV 75 0,oP 76 (.len false (.t 75)),mV 77 1,oP 78 (.len false (.t 77)),oP 79 (.bin .sub (.t 76) (.t 78)),mV 12 79]
def r109_15:List COp:=[mV 80 12,oP 81 (.bin .geq (.t 80) (kI 0))]
def r109_16:List COp:=[mV 84 4,mV 85 12,mV 86 11,mV 87 12,mV 88 12,mV 89 1,oP 90 (.len false (.t 89)),oP 91 (.bin .add (.t 88) (.t 90)),oP 92 (.bin .add (.t 91) (kI 1)),oP 93 (.slice 1 (.t 86) (some (.t 87)) (some (.t 92)) none),mV 94 10,oP 95 (.call 156 [.t 93,.t 94]),oP 96 (.idx 1 (.t 84) (.t 85)),sT (.store 1 (.t 96) (.t 95))]
def r109_17:List COp:=[mV 82 12,oP 83 (.bin .sub (.t 82) (kI 1)),mV 12 83]
def l109_0:CC:=(.seq (.seq (.reg r109_15 none) (.cond (.t 81) .skip (.exit 1))) (.seq (.block 2 (.reg r109_16 none)) (.reg r109_17 none)))
def r109_18:List COp:=[mV 97 11,mV 98 9,oP 99 (.call 157 [.t 97,.t 98])]
def r109_19:List COp:=[mV 100 4,oP 101 (.call 69 [.t 100]),mV 102 11,oP 103 (.call 69 [.t 102]),mV 4 101,mV 5 103]
def c109:CC:=(.seq (.reg r109_0 none) (.seq (.block 0 (.seq (.reg r109_1 none) (.cond (.t 13) (.seq (.reg r109_2 none) .ret) (.seq (.reg r109_3 none) (.cond (.t 20) (.seq (.reg r109_4 none) (.seq (.reg r109_5 (some [])) .ret)) (.seq (.reg r109_6 none) (.cond (.t 36) (.seq (.reg r109_7 none) (.seq (.reg r109_8 none) (.seq (.reg r109_9 none) .ret))) .skip))))))) (.seq (.reg r109_10 none) (.seq (.reg r109_11 none) (.seq (.reg r109_12 none) (.seq (.reg r109_13 none) (.seq (.seq (.reg r109_14 none) (.block 1 (.loop l109_0))) (.seq (.reg r109_18 none) (.seq (.reg r109_19 none) .ret)))))))))
theorem comp109:CmpC Tryz.prog G Tryz.f109=some c109:=by kernel_rfl
theorem res109:Tryz.f109.results.toList=[(.tmp 4),(.tmp 5)]:=by kernel_rfl
def r55_0:List COp:=[oP 2 (.box (.t 0)),oP 3 (.box (.t 1)),oP 4 (.box (.k (.agg [(.bool false),(.vec [] 0 (some 0))]))),oP 5 (.box (.k (.agg [(.bool false),(.vec [] 0 (some 0))]))),oP 6 (.mov (.k (.bool false)))]
def r55_1:List COp:=[oP 11 (.fld 1 (.t 3)),oP 12 (.load false 1 (.t 11)),oP 13 (.call 69 [.t 12]),mV 7 13]
def r55_2:List COp:=[mV 14 7,oP 15 (.len false (.t 14)),oP 16 (.bin .eql (.t 15) (kI 0))]
def r55_3:List COp:=[oP 17 (.build [(.bool false),(.vec [] 0 (some 0))] []),oP 18 (.build [(.bool false),(.vec [] 0 (some 0))] []),sT (.store 2 (.t 4) (.t 17)),sT (.store 2 (.t 5) (.t 18)),oP 6 (.mov (.k (.bool false)))]
def r55_4:List COp:=[oP 20 (.fld 1 (.t 2)),oP 21 (.load false 1 (.t 20)),oP 22 (.call 69 [.t 21]),mV 23 7,oP 24 (.call 109 [.t 22,.t 23]),mV 19 24,oP 25 (.ext (.t 19) 0),oP 26 (.ext (.t 19) 1),mV 8 25,mV 9 26]
def r55_5:List COp:=[oP 27 (.fld 0 (.t 3)),oP 28 (.load false 1 (.t 27)),mV 10 28]
def r55_6:List COp:=[oP 30 (.fld 0 (.t 2)),oP 31 (.load false 1 (.t 30)),mV 32 31,gU 33 32 true (.mov (.t 9)),gU 34 32 true (.len false (.t 33)),gU 35 32 true (.bin .gtr (.t 34) (kI 0)),oP 36 (.pick (.t 32) (.t 35) (.k (.bool false))),mV 29 36]
def r55_7:List COp:=[oP 38 (.fld 0 (.t 2)),oP 39 (.load false 1 (.t 38)),mV 37 39]
def r55_8:List COp:=[mV 40 8,oP 41 (.bsl 1 1 [(.int .u32 0)] [(0,(1,(.k (.int .u32 1))))]),oP 42 (.call 110 [.t 40,.t 41]),mV 8 42]
def r55_9:List COp:=[mV 43 7,mV 44 9,oP 45 (.call 111 [.t 43,.t 44]),mV 9 45]
def r55_10:List COp:=[mV 46 10,oP 47 (.un .not (.t 46)),mV 10 47]
def r55_11:List COp:=[mV 48 10,mV 49 8,oP 50 (.call 56 [.t 48,.t 49]),mV 51 9,oP 52 (.call 56 [(.k (.bool false)),.t 51]),sT (.store 2 (.t 4) (.t 50)),sT (.store 2 (.t 5) (.t 52)),oP 6 (.mov (.k (.bool true)))]
def c55:CC:=(.seq (.reg r55_0 none) (.seq (.reg r55_1 none) (.seq (.seq (.reg r55_2 none) (.cond (.t 16) (.seq (.reg r55_3 none) .ret) .skip)) (.seq (.reg r55_4 none) (.seq (.reg r55_5 none) (.seq (.block 0 (.seq (.block 2 (.seq (.block 1 (.seq (.seq (.seq (.reg r55_6 none) (.cond (.t 29) (.exit 1) .skip)) (.seq (.reg r55_7 none) (.cond (.t 37) (.exit 2) .skip))) (.exit 0))) (.seq (.reg r55_8 none) (.reg r55_9 none)))) (.seq (.reg r55_10 none) (.exit 0)))) (.seq (.reg r55_11 none) .ret)))))))
theorem comp55:CmpC Tryz.prog G Tryz.f55=some c55:=by kernel_rfl
theorem res55:Tryz.f55.results.toList=[(.cell 4 37),(.cell 5 37),(.tmp 6)]:=by kernel_rfl
def r108_0:List COp:=[oP 2 (.mov (.k (.vec [] 0 (some 0))))]
def r108_1:List COp:=[mV 3 0,oP 4 (.snil false (.t 3))]
def r108_2:List COp:=[oP 2 (.mov (.k (.vec [] 0 (some 0))))]
def r108_3:List COp:=[oP 5 (.bsl 0 1 [] []),mV 6 0,oP 7 (.append 1 4 (.t 5) (.t 6)),mV 2 7]
def c108:CC:=(.seq (.reg r108_0 none) (.seq (.seq (.reg r108_1 none) (.cond (.t 4) (.seq (.reg r108_2 none) .ret) .skip)) (.seq (.reg r108_3 none) .ret)))
theorem comp108:CmpC Tryz.prog G Tryz.f108=some c108:=by kernel_rfl
theorem res108:Tryz.f108.results.toList=[(.tmp 2)]:=by kernel_rfl
theorem nt108:Tryz.f108.ntmps=8:=by kernel_rfl
theorem clone0 (cs:List AV) (c:Option Nat):Ret Tryz.prog G 108 [.vec cs 0 c] [] (.vec [] 0 (some 0)) []:=by
 refine Ret_of mixed Tryz.func108 comp108 _ 8 res108 nt108 (by simp) (by simp) ?_
 simp only [c108,r108_0,r108_1,r108_2,r108_3,SS,forall_const,reduceCtorEq,reduceIte,implies_true,qX,qQ,qZ]
 refine ⟨⟨.inl trivial,_,rfl,.keep _ _⟩,?_⟩
 simp only [appendA,lenA,elems,need,xA,xQ,qW,xP,and_self,if_true,bindP_some,applyE,yX]
 exact ⟨.inl trivial,_,rfl,.freeze 1 _ _ _ rfl (by intro i cs h;omega)⟩
theorem clone1 (cs:List AV) (n:Nat) (c:Option Nat) (h0:0<n) (hn:n≤cs.length) (hb:16*n≤2^48):Ret Tryz.prog G 108 [.vec cs n c] [] (.sl 1 0 n 1 none) [some [],some (cs.take n)]:=by
 refine Ret_of mixed Tryz.func108 comp108 _ 8 res108 nt108 (by simp) (by simp) ?_
 simp only [c108,r108_0,r108_1,r108_2,r108_3,SS,forall_const,reduceCtorEq,reduceIte,implies_true,qX,qQ,qZ,show n≠0 by omega,if_false]
 have e1:n*1≤cs.length:=by omega
 simp only [appendA,lenA,elems,need,xA,hn,e1,qW,and_self,if_true,show n≠0 by omega,if_false,getB,qU,xQ,xP,xE,true_and,show 4*n*4≤2^48 by omega,show n<2^62 by omega,bindP_some,applyE,yH,yV,yY,yX,yO]
 exact ⟨.inl trivial,_,rfl,.keep _ _⟩
def g108:List AV→Heap→Option (AV×Heap)
 | [.vec cs n _],[]=>match n with
  | 0=>some (.vec [] 0 (some 0),[])
  | n+1=>if n+1≤cs.length∧16*(n+1)≤281474976710656 then some (.sl 1 0 (n+1) 1 none,[some [],some (cs.take (n+1))]) else none
 | _,_=>none
theorem g108_ok {args:List AV} {H:Heap} {v:AV} {H':Heap} (h:g108 args H=some (v,H')):Ret Tryz.prog G 108 args H v H':=by
 unfold g108 at h
 split at h
 ·split at h
  ·simp only [yB,Prod.mk.injEq] at h
   obtain ⟨rfl,rfl⟩:=h
   exact clone0 _ _
  ·split at h
   ·rename_i hh
    simp only [yB,Prod.mk.injEq] at h
    obtain ⟨rfl,rfl⟩:=h
    exact clone1 _ _ _ (by omega) hh.1 hh.2
   ·simp at h
 ·simp at h
theorem n1:((1:Nat):Int)=1:=rfl
theorem n2:((2:Nat):Int)=2:=rfl
theorem wi0:IntKind.i64.wrap 0=0:=rfl
theorem wi1:IntKind.i64.wrap 1=1:=rfl
theorem wi2:IntKind.i64.wrap 2=2:=rfl
theorem wim1:IntKind.i64.wrap (-1)= -1:=rfl
theorem tn0:Int.toNat 0=0:=rfl
theorem tn1:Int.toNat 1=1:=rfl
theorem le0:((0:Int)≤0)=True:=eq_true (by decide)
theorem lt01:((0:Int)<1)=True:=eq_true (by decide)
theorem lt12:((1:Int)<2)=True:=eq_true (by decide)
theorem ne0 {x:Nat} (h:x≠0):decide ((x:Int)=0)=false:=by simp;omega
theorem nt69:Tryz.f69.ntmps=21:=by kernel_rfl
theorem nt120:Tryz.f120.ntmps=22:=by kernel_rfl
theorem nt56:Tryz.f56.ntmps=12:=by kernel_rfl
theorem nt57:Tryz.f57.ntmps=10:=by kernel_rfl
theorem nt70:Tryz.f70.ntmps=86:=by kernel_rfl
theorem nt31:Tryz.f31.ntmps=18:=by kernel_rfl
theorem nt22:Tryz.f22.ntmps=14:=by kernel_rfl
theorem nt52:Tryz.f52.ntmps=12:=by kernel_rfl
theorem nt68:Tryz.f68.ntmps=45:=by kernel_rfl
theorem nt30:Tryz.f30.ntmps=28:=by kernel_rfl
theorem nt53:Tryz.f53.ntmps=10:=by kernel_rfl
theorem nt109:Tryz.f109.ntmps=104:=by kernel_rfl
theorem nt55:Tryz.f55.ntmps=53:=by kernel_rfl
theorem trim1 (x:Nat) (c:Option Nat) (hx:x≠0):Ret Tryz.prog G 69 [.vec [.int .u32 x] 1 c] [] (.vec [.int .u32 x] 1 c) []:=by
 have h0:=ne0 hx
 refine Ret_of mixed Tryz.func69 comp69 _ 21 res69 nt69 (by simp) (by simp) ?_
 simp only [c69,r69_0,SS,reduceCtorEq]
 refine W_un mixed 1 (Un_in ?_)
 simp only [l69_0,r69_1,SS,forall_const,reduceCtorEq,reduceIte,qQ,qZ,decide_true,qB,n1,wi0,tn0,le0,lt01,h0]
 simp only [r69_3,SS,reduceCtorEq,reduceIte,qQ]
 exact ⟨.inl trivial,_,rfl,.keep _ _⟩
theorem trimS2z (x:Nat) (k:Nat) (hx:x≠0):Ret Tryz.prog G 69 [.sl 0 0 2 1 (some k)] [some [.int .u32 x,.int .u32 0]] (.sl 0 0 1 1 (some k)) [some [.int .u32 x,.int .u32 0]]:=by
 have h0:=ne0 hx
 refine Ret_of mixed Tryz.func69 comp69 _ 21 res69 nt69 (by simp) (by simp) ?_
 simp only [c69,r69_0,SS,reduceCtorEq]
 refine W_un mixed 2 (Un_in ?_)
 simp only [l69_0,r69_1,r69_2,SS,forall_const,reduceCtorEq,reduceIte,qX,qQ,qZ,decide_true,qK,qA,qB,qX,xV,n2,wi1,tn1,lt12]
 refine Un_in ?_
 simp only [SS,forall_const,reduceCtorEq,reduceIte,qX,qQ,qZ,decide_true,qB,qX,xV,n1,wi0,tn0,le0,lt01,h0]
 simp only [r69_3,SS,reduceCtorEq,reduceIte,qQ]
 exact ⟨.inl trivial,_,rfl,.keep _ _⟩
theorem trimS2zz (k:Nat):Ret Tryz.prog G 69 [.sl 0 0 2 1 (some k)] [some [.int .u32 0,.int .u32 0]] (.vec [] 0 (some k)) [some [.int .u32 0,.int .u32 0]]:=by
 refine Ret_of mixed Tryz.func69 comp69 _ 21 res69 nt69 (by simp) (by simp) ?_
 simp only [c69,r69_0,SS,reduceCtorEq]
 refine W_un mixed 3 (Un_in ?_)
 simp only [l69_0,r69_1,r69_2,SS,forall_const,reduceCtorEq,reduceIte,qX,qQ,qZ,decide_true,qK,qA,qB,qX,xV,n2,wi1,tn1,lt12]
 refine Un_in ?_
 simp only [SS,forall_const,reduceCtorEq,reduceIte,qX,qQ,qZ,decide_true,qB,qX,xV,n1,wi0,tn0,le0,lt01]
 refine Un_in ?_
 simp only [SS,forall_const,reduceCtorEq,reduceIte,qQ,qZ,decide_false,qK,qA,qB,yZ,xB,wim1]
 simp only [r69_3,SS,reduceCtorEq,reduceIte,qQ]
 exact ⟨.inl trivial,_,rfl,.keep _ _⟩
theorem word1 (x:Nat) (c:Option Nat) (hx:x<4294967296):Ret Tryz.prog G 120 [.vec [.int .u32 x] 1 c] [] (.int .u64 x) []:=by
 have w1:IntKind.u64.wrap (x:Int)=x:=wrap_u64 (by omega)
 have w2:IntKind.u64.wrap ((BitVec.ofInt IntKind.u64.bits 0 ||| BitVec.ofInt IntKind.u64.bits (x:Int)).toNat:Int)=x:=or_zero64 (x:=x) (by omega)
 refine Ret_of mixed Tryz.func120 comp120 _ 22 res120 nt120 (by simp) (by simp) ?_
 simp only [c120,r120_0,r120_1,r120_2,SS,reduceCtorEq,reduceIte]
 refine W_un mixed 2 (Un_in ?_)
 simp only [l120_0,r120_3,SS,forall_const,reduceCtorEq,reduceIte,qQ,decide_true,n1,lt01]
 simp only [r120_4,r120_5,SS,forall_const,reduceIte,qQ,qZ,Int.reduceMul,n1,wi0,tn0,le0,lt01,w1,Nat.zero_min,Int.pow_zero,Int.mul_one,w2]
 simp only [r120_6,SS,reduceIte,qQ,yJ,wi1]
 refine Un_in ?_
 simp only [SS,forall_const,reduceCtorEq,reduceIte,qX,qQ,qZ,decide_false,qK,qA,qX,n1,tn1]
 simp only [r120_7,SS,reduceIte,qQ]
 exact ⟨.inl trivial,_,rfl,.keep _ _⟩
theorem build0 (s:Bool) (cs:List AV) (c:Option Nat):Ret Tryz.prog G 56 [.bool s,.vec cs 0 c] [] (.agg [.bool false,.vec [] 0 (some 0)]) []:=by
 refine Ret_of mixed Tryz.func56 comp56 _ 12 res56 nt56 (by simp) (by simp) ?_
 simp only [c56,r56_0,r56_1,r56_2,SS,forall_const,reduceCtorEq,reduceIte,qX,qQ,qZ,decide_true,qX,xB]
 exact ⟨.inl trivial,_,rfl,.drop _ _ rfl (by intro i cs h;omega)⟩
theorem build1 (s:Bool) (l:List AV) (c:Option Nat):Ret Tryz.prog G 56 [.bool s,.vec l 1 c] [] (.agg [.bool s,.vec l 1 c]) []:=by
 refine Ret_of mixed Tryz.func56 comp56 _ 12 res56 nt56 (by simp) (by simp) ?_
 simp only [c56,r56_0,r56_1,r56_3,SS,forall_const,reduceCtorEq,reduceIte,qX,qQ,qZ,decide_false,xX,qX,n1]
 exact ⟨.inl trivial,_,rfl,.drop _ _ rfl (by intro i cs h;omega)⟩
theorem fromWord0:Ret Tryz.prog G 57 [.int .u64 0] [] (.vec [] 0 (some 2)) []:=by
 have w1:IntKind.u32.wrap 0=0:=rfl
 have w2:Int.fdiv 0 (2^min (Int.toNat 32) IntKind.u64.bits)=0:=rfl
 refine Ret_of mixed Tryz.func57 comp57 _ 10 res57 nt57 (by simp) (by simp) ?_
 simp only [c57,r57_0,r57_1,SS,reduceCtorEq,reduceIte,qX,qQ,qZ,qA,qX,w1,w2]
 refine callA_one (trimS2zz 2) rfl rfl ?_
 simp only [restA,applyE,qT,xN,SS,reduceIte,qQ]
 exact ⟨.inl trivial,_,rfl,.freeze 3 _ _ _ rfl (by intro i cs h;omega)⟩
theorem fromWord1 (x:Nat) (hx:x≠0) (hx':x<4294967296):Ret Tryz.prog G 57 [.int .u64 x] [] (.vec [.int .u32 x] 1 (some 2)) []:=by
 have w1:IntKind.u32.wrap (x:Int)=x:=wrap_u32 hx'
 have w3:IntKind.u32.wrap 0=0:=rfl
 have w2:Int.fdiv (x:Int) (2^min (Int.toNat 32) IntKind.u64.bits)=0:=by
  show Int.fdiv (x:Int) 4294967296=0
  rw [Int.fdiv_eq_ediv_of_nonneg _ (by decide)]
  omega
 refine Ret_of mixed Tryz.func57 comp57 _ 10 res57 nt57 (by simp) (by simp) ?_
 simp only [c57,r57_0,r57_1,SS,reduceCtorEq,reduceIte,qX,qQ,qZ,qA,qX,w1,w2,w3]
 refine callA_one (trimS2z x 2 hx) rfl rfl ?_
 simp only [restA,applyE,qT,xN,SS,reduceIte,qQ]
 exact ⟨.inl trivial,_,rfl,.freeze 3 _ _ _ rfl (by intro i cs h;omega)⟩
theorem mulNat11 (x:Nat) (y:Nat) (c d:Option Nat) (hx:x≠0) (hx':x<4294967296) (hy:y≠0) (hy':y<4294967296) (hxy:x*y<4294967296):Ret Tryz.prog G 70 [.vec [.int .u32 x] 1 c,.vec [.int .u32 y] 1 d] [] (.vec [.int .u32 (x*y:Nat)] 1 (some 2)) []:=by
 have w1:IntKind.u64.wrap ((x:Int)*(y:Int))=((x*y:Nat):Int):=by rw [←yL];exact wrap_u64 (by omega)
 have hn:x*y≠0:=qS hx hy
 refine Ret_of mixed Tryz.func70 comp70 _ 86 res70 nt70 (by simp) (by simp) ?_
 simp only [c70,SS,reduceCtorEq]
 simp only [r70_0,SS]
 simp only [r70_1,SS,forall_const,reduceCtorEq,reduceIte,qQ,decide_true,qA,n1]
 simp only [r70_2,SS,reduceCtorEq,reduceIte,qQ]
 refine callA_pure (word1 x c hx') ?_
 simp only [SS,reduceIte,qQ]
 refine callA_pure (word1 y d hy') ?_
 simp only [SS,reduceIte,qQ,w1]
 refine callA_pure (fromWord1 _ hn hxy) ?_
 simp only [SS,reduceIte,qQ]
 exact ⟨.inl trivial,_,rfl,.keep _ _⟩
theorem mul11 (s t:Bool) (x:Nat) (y:Nat) (c d:Option Nat) (hx:x≠0) (hx':x<4294967296) (hy:y≠0) (hy':y<4294967296) (hxy:x*y<4294967296):Ret Tryz.prog G 31 [.agg [.bool s,.vec [.int .u32 x] 1 c],.agg [.bool t,.vec [.int .u32 y] 1 d]] [] (.agg [.bool (!(s == t)),.vec [.int .u32 (x*y:Nat)] 1 (some 2)]) []:=by
 refine Ret_of mixed Tryz.func31 comp31 _ 18 res31 nt31 (by simp) (by simp) ?_
 simp only [c31,SS,reduceCtorEq]
 simp only [r31_0,SS,reduceIte,qX,qQ]
 simp only [r31_1,SS,forall_const,reduceIte,qX,qQ,qZ,qX]
 refine callA_pure (trim1 x c hx) ?_
 simp only [SS,forall_const,reduceIte,qX,qQ,qZ,qX]
 refine callA_pure (trim1 y d hy) ?_
 simp only [SS,reduceIte,qQ]
 refine callA_pure (mulNat11 x y c d hx hx' hy hy' hxy) ?_
 simp only [SS,reduceIte,qQ]
 refine callA_pure (build1 _ _ _) ?_
 simp only [SS,reduceIte,qX,qQ,qZ,qX]
 refine ⟨rfl,?_⟩
 exact ⟨.inl trivial,_,rfl,.drop _ _ rfl (by intro i cs h;omega)⟩
theorem smallP (x:Nat) (hx:x≠0) (hx':x<4294967296):Ret Tryz.prog G 22 [.int .i64 x] [] (.agg [.bool false,.vec [.int .u32 x] 1 (some 2)]) []:=by
 have w1:IntKind.u64.wrap (x:Int)=x:=wrap_u64 (by omega)
 have h1:decide ((x:Int)<0)=false:=by simp
 refine Ret_of mixed Tryz.func22 comp22 _ 14 res22 nt22 (by simp) (by simp) ?_
 simp only [c22,SS,reduceCtorEq]
 simp only [r22_0,SS]
 simp only [r22_1,SS,forall_const,reduceCtorEq,reduceIte,qQ,h1]
 simp only [r22_3,SS,reduceCtorEq,reduceIte,qQ,w1]
 refine callA_pure (fromWord1 x hx hx') ?_
 simp only [SS,reduceIte,qQ]
 refine callA_pure (build1 _ _ _) ?_
 simp only [SS,reduceIte,qX,qQ,qZ,qX]
 exact ⟨.inl trivial,_,rfl,.drop _ _ rfl (by intro i cs h;omega)⟩
theorem sign1f (x:Nat) (c:Option Nat) (hx:x≠0) (hx':x<4294967296):Ret Tryz.prog G 52 [.agg [.bool false,.vec [.int .u32 x] 1 c]] [] (.int .i64 1) []:=by
 refine Ret_of mixed Tryz.func52 comp52 _ 12 res52 nt52 (by simp) (by simp) ?_
 simp only [c52,SS,reduceCtorEq]
 simp only [r52_0,SS]
 simp only [r52_1,SS,forall_const,reduceIte,qX,qQ,qZ,qX]
 refine callA_pure (trim1 x c hx) ?_
 simp only [SS,forall_const,reduceIte,qQ,decide_false,xX,n1]
 simp only [r52_3,SS,forall_const,reduceIte,qX,qQ,qZ,qX]
 simp only [r52_5,SS]
 exact ⟨.inl trivial,_,rfl,.drop _ _ rfl (by intro i cs h;omega)⟩
theorem cmpNatgt (x y:Nat) (c d:Option Nat) (h1:decide ((x:Int)<(y:Int))=false) (h2:decide ((y:Int)<(x:Int))=true):Ret Tryz.prog G 68 [.vec [.int .u32 x] 1 c,.vec [.int .u32 y] 1 d] [] (.int .i64 1) []:=by
 refine Ret_of mixed Tryz.func68 comp68 _ 45 res68 nt68 (by simp) (by simp) ?_
 simp only [c68,SS,reduceCtorEq]
 simp only [r68_0,SS]
 simp only [r68_1,SS,forall_const,reduceCtorEq,reduceIte,qQ,decide_false,qK,n1]
 simp only [r68_3,SS,forall_const,reduceCtorEq,reduceIte,qQ,decide_false,qK,n1]
 simp only [r68_5,SS,reduceCtorEq,reduceIte,qQ,qB,n1,wi0]
 refine W_un mixed 2 (Un_in ?_)
 simp only [l68_0,r68_6,SS,forall_const,reduceCtorEq,reduceIte,qQ,decide_true,le0]
 simp only [r68_7,SS,forall_const,reduceCtorEq,reduceIte,qQ,qZ,n1,tn0,le0,lt01,h1]
 refine ⟨rfl,?_⟩
 simp only [r68_9,SS,forall_const,reduceCtorEq,reduceIte,qQ,qZ,n1,tn0,le0,lt01,h2]
 refine ⟨rfl,?_⟩
 simp only [r68_10,SS]
 exact ⟨.inl trivial,_,rfl,.keep _ _⟩
theorem cmpNateq (x y:Nat) (c d:Option Nat) (h1:decide ((x:Int)<(y:Int))=false) (h2:decide ((y:Int)<(x:Int))=false):Ret Tryz.prog G 68 [.vec [.int .u32 x] 1 c,.vec [.int .u32 y] 1 d] [] (.int .i64 0) []:=by
 refine Ret_of mixed Tryz.func68 comp68 _ 45 res68 nt68 (by simp) (by simp) ?_
 simp only [c68,SS,reduceCtorEq]
 simp only [r68_0,SS]
 simp only [r68_1,SS,forall_const,reduceCtorEq,reduceIte,qQ,decide_false,qK,n1]
 simp only [r68_3,SS,forall_const,reduceCtorEq,reduceIte,qQ,decide_false,qK,n1]
 simp only [r68_5,SS,reduceCtorEq,reduceIte,qQ,qB,n1,wi0]
 refine W_un mixed 2 (Un_in ?_)
 simp only [l68_0,r68_6,SS,forall_const,reduceCtorEq,reduceIte,qQ,decide_true,le0]
 simp only [r68_7,SS,forall_const,reduceCtorEq,reduceIte,qQ,qZ,n1,tn0,le0,lt01,h1]
 refine ⟨rfl,?_⟩
 simp only [r68_9,SS,forall_const,reduceCtorEq,reduceIte,qQ,qZ,n1,tn0,le0,lt01,h2]
 refine ⟨rfl,?_⟩
 simp only [r68_11,SS,reduceIte,qQ,qB,yZ,wim1]
 refine Un_in ?_
 simp only [SS,forall_const,reduceCtorEq,reduceIte,qQ,qZ,decide_false,qK,qA,yZ,n1]
 simp only [r68_12,SS]
 exact ⟨.inl trivial,_,rfl,.keep _ _⟩
theorem m1:((0:Int)≤1∧(1:Int)≤1∧(1:Int)*(4:Nat)≤2^48∧(1:Int)<2^63)=True:=eq_true (by decide)
theorem m2:((0:Int)≤2∧(2:Int)≤2∧(2:Int)*(4:Nat)≤2^48∧(2:Int)<2^63)=True:=eq_true (by decide)
def r4_0:List COp:=[oP 3 (.box (.t 0)),oP 6 (.mov (.k (.bool false)))]
def r4_1:List COp:=[oP 16 (.load true 4 (.t 3)),oP 17 (.call 5 [.t 16,(kI 2)]),mV 7 17]
def r4_2:List COp:=[oP 18 (.bsl 3 1 [(.int .i64 0),(.int .i64 0),(.int .i64 0)] [(0,(1,(kI 3))),(1,(1,(kI 5))),(2,(1,(kI 2)))]),mV 19 1,oP 20 (.bin .rem (.t 19) (.k (.int .u8 3))),oP 21 (.idx 1 (.t 18) (.t 20)),oP 22 (.load false 1 (.t 21)),mV 8 22]
def r4_3:List COp:=[mV 23 2,oP 24 (.conv .i64 (.t 23)),oP 25 (.bin .rem (.t 24) (kI 12)),oP 26 (.bin .add (kI 1) (.t 25)),mV 9 26]
def r4_4:List COp:=[mV 27 9,oP 28 (.bin .mul (kI 2) (.t 27)),mV 29 8,oP 30 (.call 9 [.t 28,.t 29]),oP 31 (.bin .mul (kI 2) (.t 30)),oP 32 (.bin .add (.t 31) (kI 2)),mV 10 32]
def r4_5:List COp:=[mV 33 8,mV 34 10,mV 35 7,oP 36 (.len false (.t 35)),oP 37 (.bin .mul (.t 34) (.t 36)),oP 38 (.call 7 [.t 33,.t 37,(kI 70000)]),oP 39 (.bin .gtr (.t 38) (kI 70000))]
def r4_6:List COp:=[oP 40 (.call 8 []),mV 6 40]
def r4_7:List COp:=[mV 42 7,mV 43 8,mV 44 9,oP 45 (.call 10 [.t 42,.t 43,.t 44]),mV 41 45,oP 46 (.ext (.t 41) 0),oP 47 (.ext (.t 41) 1),oP 11 (.box (.k (.agg [(.bool false),(.vec [] 0 (some 0)),(.bool false),(.vec [] 0 (some 0))]))),sT (.store 4 (.t 11) (.t 46)),mV 12 47]
def r4_8:List COp:=[mV 49 7,mV 50 8,mV 51 10,oP 52 (.call 6 [.t 49,.t 50,.t 51]),mV 48 52,oP 53 (.ext (.t 48) 0),oP 54 (.ext (.t 48) 1),mV 13 53,mV 14 54]
def r4_9:List COp:=[mV 55 12,oP 56 (.bin .neq (.t 55) (kI 0)),mV 57 56,gU 58 57 false (.mov (.t 14)),gU 59 57 false (.bin .neq (.t 58) (kI 0)),oP 60 (.pick (.t 57) (.k (.bool true)) (.t 59)),mV 61 60,gU 62 61 false (.mov (.t 13)),gU 63 61 false (.len false (.t 62)),gU 64 61 false (.bin .eql (.t 63) (kI 0)),oP 65 (.pick (.t 61) (.k (.bool true)) (.t 64))]
def r4_10:List COp:=[oP 6 (.mov (.k (.bool false)))]
def r4_11:List COp:=[mV 66 13,mV 67 9,mV 68 13,oP 69 (.len false (.t 68)),oP 70 (.bin .rem (.t 67) (.t 69)),oP 71 (.idx 1 (.t 66) (.t 70)),oP 72 (.load false 1 (.t 71)),mV 73 8,mV 74 10,mV 75 7,oP 76 (.len false (.t 75)),oP 77 (.bin .sub (.t 76) (kI 1)),oP 78 (.bin .mul (.t 74) (.t 77)),oP 79 (.call 7 [.t 73,.t 78,(kI 1099511627776)]),oP 80 (.call 11 [.t 72,.t 79]),oP 15 (.box (.k (.agg [(.bool false),(.vec [] 0 (some 0)),(.bool false),(.vec [] 0 (some 0))]))),sT (.store 4 (.t 15) (.t 80))]
def r4_12:List COp:=[oP 81 (.load true 4 (.t 11)),oP 82 (.load true 4 (.t 15)),oP 83 (.call 12 [.t 81,.t 82]),oP 84 (.bin .eql (.t 83) (kI 0)),mV 85 84,gU 86 85 true (.call 8 []),oP 87 (.pick (.t 85) (.t 86) (.k (.bool false))),mV 6 87]
def c4:CC:=(.seq (.reg r4_0 none) (.seq (.reg r4_1 none) (.seq (.reg r4_2 none) (.seq (.reg r4_3 none) (.seq (.reg r4_4 none) (.seq (.seq (.reg r4_5 none) (.cond (.t 39) (.seq (.reg r4_6 none) .ret) .skip)) (.seq (.reg r4_7 none) (.seq (.reg r4_8 none) (.seq (.seq (.reg r4_9 none) (.cond (.t 65) (.seq (.reg r4_10 none) .ret) .skip)) (.seq (.reg r4_11 (some [(6,13),(6,15),(13,15),(14,15)])) (.seq (.reg r4_12 none) .ret)))))))))))
theorem comp4:CmpC Tryz.prog G Tryz.f4=some c4:=by kernel_rfl
theorem res4:Tryz.f4.results.toList=[(.tmp 6)]:=by kernel_rfl
def r10_0:List COp:=[oP 6 (.box (.k (.agg [(.bool false),(.vec [] 0 (some 0)),(.bool false),(.vec [] 0 (some 0))]))),oP 7 (.mov (kI 0))]
def r10_1:List COp:=[mV 17 0,mV 18 1,oP 19 (.call 16 [.t 17,.t 18]),mV 8 19]
def r10_2:List COp:=[mV 20 8,oP 21 (.bin .neq (.t 20) (kI 0))]
def r10_3:List COp:=[oP 22 (.build [(.bool false),(.vec [] 0 (some 0)),(.bool false),(.vec [] 0 (some 0))] []),mV 23 8,sT (.store 4 (.t 6) (.t 22)),mV 7 23]
def r10_4:List COp:=[mV 24 2,oP 25 (.bin .lss (.t 24) (kI 1)),mV 26 25,gU 27 26 false (.mov (.t 2)),gU 28 26 false (.bin .gtr (.t 27) (kI 1000)),oP 29 (.pick (.t 26) (.k (.bool true)) (.t 28))]
def r10_5:List COp:=[oP 30 (.build [(.bool false),(.vec [] 0 (some 0)),(.bool false),(.vec [] 0 (some 0))] []),sT (.store 4 (.t 6) (.t 30)),oP 7 (.mov (kI 1))]
def r10_6:List COp:=[mV 32 2,oP 33 (.bin .mul (kI 2) (.t 32)),oP 34 (.call 22 [.t 33]),mV 35 1,oP 36 (.call 21 [.t 34,.t 35]),mV 31 36,oP 37 (.ext (.t 31) 0),oP 38 (.ext (.t 31) 1),oP 39 (.ext (.t 31) 2),oP 10 (.box (.k (.agg [(.bool false),(.vec [] 0 (some 0))]))),mV 9 37,sT (.store 2 (.t 10) (.t 38)),mV 11 39]
def r10_7:List COp:=[mV 41 0,mV 42 1,mV 43 9,oP 44 (.bin .mul (kI 2) (.t 43)),oP 45 (.bin .add (.t 44) (kI 1)),oP 46 (.call 6 [.t 41,.t 42,.t 45]),mV 40 46,oP 47 (.ext (.t 40) 0),oP 48 (.ext (.t 40) 1),mV 12 47,mV 13 48]
def r10_8:List COp:=[mV 49 13,oP 50 (.bin .neq (.t 49) (kI 0))]
def r10_9:List COp:=[oP 51 (.build [(.bool false),(.vec [] 0 (some 0)),(.bool false),(.vec [] 0 (some 0))] []),mV 52 13,sT (.store 4 (.t 6) (.t 51)),mV 7 52]
def r10_10:List COp:=[mV 53 12,oP 54 (.len false (.t 53)),mV 14 54]
def r10_11:List COp:=[mV 56 14,oP 57 (.call 24 [.t 56]),mV 58 0,oP 59 (.len false (.t 58)),oP 60 (.bin .sub (.t 59) (kI 1)),oP 61 (.call 23 [.t 57,.t 60]),mV 55 61,oP 62 (.ext (.t 55) 0),oP 63 (.ext (.t 55) 1),oP 15 (.box (.k (.agg [(.bool false),(.vec [] 0 (some 0)),(.bool false),(.vec [] 0 (some 0))]))),sT (.store 4 (.t 15) (.t 62)),mV 16 63]
def r10_12:List COp:=[mV 64 12,mV 65 2,mV 66 14,oP 67 (.bin .rem (.t 65) (.t 66)),oP 68 (.idx 1 (.t 64) (.t 67)),oP 69 (.load false 1 (.t 68)),oP 70 (.call 24 [.t 69]),oP 71 (.load true 4 (.t 15)),oP 72 (.call 25 [.t 70,.t 71]),sT (.store 4 (.t 6) (.t 72)),oP 7 (.mov (kI 0))]
def c10:CC:=(.seq (.reg r10_0 none) (.seq (.seq (.reg r10_1 none) (.seq (.reg r10_2 none) (.cond (.t 21) (.seq (.reg r10_3 none) .ret) .skip))) (.seq (.seq (.reg r10_4 none) (.cond (.t 29) (.seq (.reg r10_5 none) .ret) .skip)) (.seq (.reg r10_6 none) (.seq (.reg r10_7 none) (.seq (.seq (.reg r10_8 none) (.cond (.t 50) (.seq (.reg r10_9 none) .ret) .skip)) (.seq (.reg r10_10 none) (.seq (.reg r10_11 none) (.seq (.reg r10_12 (some [(5,7),(6,7)])) .ret)))))))))
theorem comp10:CmpC Tryz.prog G Tryz.f10=some c10:=by kernel_rfl
theorem res10:Tryz.f10.results.toList=[(.cell 6 39),(.tmp 7)]:=by kernel_rfl
def r11_0:List COp:=[oP 4 (.box (.k (.agg [(.bool false),(.vec [] 0 (some 0)),(.bool false),(.vec [] 0 (some 0))])))]
def r11_1:List COp:=[mV 8 0,oP 9 (.call 27 [.t 8]),mV 10 1,oP 11 (.call 27 [.t 10]),oP 12 (.call 26 [.t 9,.t 11]),mV 7 12,oP 13 (.ext (.t 7) 0),oP 14 (.ext (.t 7) 1),oP 5 (.box (.k (.agg [(.bool false),(.vec [] 0 (some 0)),(.bool false),(.vec [] 0 (some 0))]))),sT (.store 4 (.t 5) (.t 13)),mV 6 14]
def r11_2:List COp:=[oP 15 (.load true 4 (.t 5)),sT (.store 4 (.t 4) (.t 15))]
def c11:CC:=(.seq (.reg r11_0 none) (.seq (.reg r11_1 none) (.seq (.reg r11_2 none) .ret)))
theorem comp11:CmpC Tryz.prog G Tryz.f11=some c11:=by kernel_rfl
theorem res11:Tryz.f11.results.toList=[(.cell 4 39)]:=by kernel_rfl
def r12_0:List COp:=[oP 2 (.box (.t 0)),oP 3 (.box (.t 1)),oP 4 (.mov (kI 0))]
def r12_1:List COp:=[oP 5 (.mov (.k (.clo 28 [])))]
def r12_2:List COp:=[oP 10 (.load true 4 (.t 2)),oP 11 (.call 29 [.t 10]),oP 12 (.load true 4 (.t 3)),oP 13 (.call 29 [.t 12]),oP 6 (.box (.k (.agg [(.bool false),(.vec [] 0 (some 0)),(.bool false),(.vec [] 0 (some 0))]))),oP 7 (.box (.k (.agg [(.bool false),(.vec [] 0 (some 0)),(.bool false),(.vec [] 0 (some 0))]))),sT (.store 4 (.t 6) (.t 11)),sT (.store 4 (.t 7) (.t 13))]
def r12_3:List COp:=[mV 14 5,oP 15 (.load true 4 (.t 6)),oP 16 (.callc (.t 14) [.t 15]),mV 17 5,oP 18 (.load true 4 (.t 7)),oP 19 (.callc (.t 17) [.t 18]),mV 8 16,mV 9 19]
def r12_4:List COp:=[mV 21 8,mV 22 9,oP 23 (.bin .lss (.t 21) (.t 22)),mV 20 23]
def r12_5:List COp:=[oP 4 (.mov (.k (.int .i64 (-1))))]
def r12_6:List COp:=[mV 25 8,mV 26 9,oP 27 (.bin .gtr (.t 25) (.t 26)),mV 24 27]
def r12_7:List COp:=[oP 4 (.mov (kI 1))]
def r12_8:List COp:=[oP 28 (.fld 0 (.t 6)),oP 29 (.load true 2 (.t 28)),oP 30 (.fld 2 (.t 7)),oP 31 (.load true 2 (.t 30)),oP 32 (.call 31 [.t 29,.t 31]),oP 33 (.fld 0 (.t 7)),oP 34 (.load true 2 (.t 33)),oP 35 (.fld 2 (.t 6)),oP 36 (.load true 2 (.t 35)),oP 37 (.call 31 [.t 34,.t 36]),oP 38 (.call 30 [.t 32,.t 37]),mV 4 38]
def c12:CC:=(.seq (.reg r12_0 none) (.seq (.reg r12_1 none) (.seq (.reg r12_2 (some [(0,2),(1,2),(0,4),(1,4),(2,4),(3,4),(0,5),(1,5),(2,5),(3,5),(4,5)])) (.seq (.seq (.reg r12_3 (some [(1,4),(2,4)])) (.block 0 (.seq (.reg r12_4 none) (.cond (.t 20) (.seq (.reg r12_5 none) .ret) (.seq (.reg r12_6 none) (.cond (.t 24) (.seq (.reg r12_7 none) .ret) .skip)))))) (.seq (.reg r12_8 (some [(1,3),(1,6),(3,6),(4,6),(1,8),(3,8),(4,8),(6,8)])) .ret)))))
theorem comp12:CmpC Tryz.prog G Tryz.f12=some c12:=by kernel_rfl
theorem res12:Tryz.f12.results.toList=[(.tmp 4)]:=by kernel_rfl
def r24_0:List COp:=[oP 2 (.box (.k (.agg [(.bool false),(.vec [] 0 (some 0)),(.bool false),(.vec [] 0 (some 0))])))]
def r24_1:List COp:=[mV 3 0,oP 4 (.call 22 [.t 3]),oP 5 (.call 60 [.t 4]),sT (.store 4 (.t 2) (.t 5))]
def c24:CC:=(.seq (.reg r24_0 none) (.seq (.reg r24_1 none) .ret))
theorem comp24:CmpC Tryz.prog G Tryz.f24=some c24:=by kernel_rfl
theorem res24:Tryz.f24.results.toList=[(.cell 2 39)]:=by kernel_rfl
def r25_0:List COp:=[oP 2 (.box (.t 0)),oP 3 (.box (.t 1)),oP 4 (.box (.k (.agg [(.bool false),(.vec [] 0 (some 0)),(.bool false),(.vec [] 0 (some 0))])))]
def r25_1:List COp:=[oP 8 (.load true 4 (.t 2)),oP 9 (.load true 4 (.t 3)),oP 10 (.call 61 [.t 8,.t 9]),mV 7 10,oP 11 (.ext (.t 7) 0),oP 12 (.ext (.t 7) 1),oP 5 (.box (.k (.agg [(.bool false),(.vec [] 0 (some 0)),(.bool false),(.vec [] 0 (some 0))]))),sT (.store 4 (.t 5) (.t 11)),mV 6 12]
def r25_2:List COp:=[oP 13 (.load true 4 (.t 5)),sT (.store 4 (.t 4) (.t 13))]
def c25:CC:=(.seq (.reg r25_0 none) (.seq (.reg r25_1 none) (.seq (.reg r25_2 none) .ret)))
theorem comp25:CmpC Tryz.prog G Tryz.f25=some c25:=by kernel_rfl
theorem res25:Tryz.f25.results.toList=[(.cell 4 39)]:=by kernel_rfl
def r28_0:List COp:=[oP 1 (.box (.t 0)),oP 2 (.mov (kI 0))]
def r28_1:List COp:=[oP 3 (.fld 0 (.t 1)),oP 4 (.load true 2 (.t 3)),oP 5 (.call 52 [.t 4]),mV 2 5]
def c28:CC:=(.seq (.reg r28_0 none) (.seq (.reg r28_1 none) .ret))
theorem comp28:CmpC Tryz.prog G Tryz.f28=some c28:=by kernel_rfl
theorem res28:Tryz.f28.results.toList=[(.tmp 2)]:=by kernel_rfl
def r29_0:List COp:=[oP 1 (.box (.t 0)),oP 2 (.box (.k (.agg [(.bool false),(.vec [] 0 (some 0)),(.bool false),(.vec [] 0 (some 0))])))]
def r29_1:List COp:=[oP 3 (.load true 4 (.t 1)),oP 4 (.call 67 [.t 3]),sT (.store 4 (.t 2) (.t 4))]
def c29:CC:=(.seq (.reg r29_0 none) (.seq (.reg r29_1 none) .ret))
theorem comp29:CmpC Tryz.prog G Tryz.f29=some c29:=by kernel_rfl
theorem res29:Tryz.f29.results.toList=[(.cell 2 63)]:=by kernel_rfl
def r59_0:List COp:=[oP 2 (.box (.t 0)),oP 3 (.box (.t 1)),oP 4 (.box (.k (.agg [(.bool false),(.vec [] 0 (some 0)),(.bool false),(.vec [] 0 (some 0))])))]
def r59_1:List COp:=[oP 6 (.load true 2 (.t 2)),oP 7 (.load true 2 (.t 3)),oP 8 (.call 112 [.t 6,.t 7]),oP 5 (.box (.k (.agg [(.bool false),(.vec [] 0 (some 0))]))),sT (.store 2 (.t 5) (.t 8))]
def r59_2:List COp:=[oP 9 (.load true 2 (.t 3)),oP 10 (.call 52 [.t 9]),oP 11 (.bin .lss (.t 10) (kI 0))]
def r59_3:List COp:=[oP 12 (.load true 2 (.t 5)),oP 13 (.call 113 [.t 12]),sT (.store 2 (.t 5) (.t 13))]
def r59_4:List COp:=[oP 15 (.load true 2 (.t 2)),oP 16 (.load true 2 (.t 5)),oP 17 (.call 55 [.t 15,.t 16]),mV 14 17,oP 18 (.ext (.t 14) 0),oP 19 (.ext (.t 14) 1),oP 20 (.ext (.t 14) 2),sT (.store 2 (.t 2) (.t 18))]
def r59_5:List COp:=[oP 22 (.load true 2 (.t 3)),oP 23 (.load true 2 (.t 5)),oP 24 (.call 55 [.t 22,.t 23]),mV 21 24,oP 25 (.ext (.t 21) 0),oP 26 (.ext (.t 21) 1),oP 27 (.ext (.t 21) 2),sT (.store 2 (.t 3) (.t 25))]
def r59_6:List COp:=[oP 28 (.load true 2 (.t 2)),oP 29 (.load true 2 (.t 3)),oP 30 (.build [(.bool false),(.vec [] 0 (some 0)),(.bool false),(.vec [] 0 (some 0))] [(0,(2,(.t 28))),(2,(2,(.t 29)))]),sT (.store 4 (.t 4) (.t 30))]
def c59:CC:=(.seq (.reg r59_0 none) (.seq (.reg r59_1 none) (.seq (.seq (.reg r59_2 none) (.cond (.t 11) (.reg r59_3 none) .skip)) (.seq (.reg r59_4 none) (.seq (.reg r59_5 none) (.seq (.reg r59_6 none) .ret))))))
theorem comp59:CmpC Tryz.prog G Tryz.f59=some c59:=by kernel_rfl
theorem res59:Tryz.f59.results.toList=[(.cell 4 39)]:=by kernel_rfl
def r60_0:List COp:=[oP 1 (.box (.t 0)),oP 2 (.box (.k (.agg [(.bool false),(.vec [] 0 (some 0)),(.bool false),(.vec [] 0 (some 0))])))]
def r60_1:List COp:=[oP 3 (.load true 2 (.t 1)),oP 4 (.call 53 [.t 3]),oP 5 (.call 22 [(kI 1)]),oP 6 (.build [(.bool false),(.vec [] 0 (some 0)),(.bool false),(.vec [] 0 (some 0))] [(0,(2,(.t 4))),(2,(2,(.t 5)))]),sT (.store 4 (.t 2) (.t 6))]
def c60:CC:=(.seq (.reg r60_0 none) (.seq (.reg r60_1 none) .ret))
theorem comp60:CmpC Tryz.prog G Tryz.f60=some c60:=by kernel_rfl
theorem res60:Tryz.f60.results.toList=[(.cell 2 39)]:=by kernel_rfl
def r61_0:List COp:=[oP 2 (.box (.t 0)),oP 3 (.box (.t 1)),oP 4 (.box (.k (.agg [(.bool false),(.vec [] 0 (some 0)),(.bool false),(.vec [] 0 (some 0))]))),oP 5 (.mov (.k (.bool false)))]
def r61_1:List COp:=[oP 7 (.load true 4 (.t 3)),oP 8 (.call 29 [.t 7]),oP 6 (.box (.k (.agg [(.bool false),(.vec [] 0 (some 0)),(.bool false),(.vec [] 0 (some 0))]))),sT (.store 4 (.t 6) (.t 8))]
def r61_2:List COp:=[oP 9 (.load true 4 (.t 6)),oP 10 (.call 28 [.t 9]),oP 11 (.bin .eql (.t 10) (kI 0))]
def r61_3:List COp:=[oP 12 (.build [(.bool false),(.vec [] 0 (some 0)),(.bool false),(.vec [] 0 (some 0))] []),sT (.store 4 (.t 4) (.t 12)),oP 5 (.mov (.k (.bool false)))]
def r61_4:List COp:=[oP 13 (.load true 4 (.t 2)),oP 14 (.fld 2 (.t 6)),oP 15 (.load true 2 (.t 14)),oP 16 (.fld 0 (.t 6)),oP 17 (.load true 2 (.t 16)),oP 18 (.build [(.bool false),(.vec [] 0 (some 0)),(.bool false),(.vec [] 0 (some 0))] [(0,(2,(.t 15))),(2,(2,(.t 17)))]),oP 19 (.bsl 2 4 [(.bool false),(.vec [] 0 (some 0)),(.bool false),(.vec [] 0 (some 0)),(.bool false),(.vec [] 0 (some 0)),(.bool false),(.vec [] 0 (some 0))] [(0,(4,(.t 13))),(4,(4,(.t 18)))]),oP 20 (.call 114 [.t 19]),sT (.store 4 (.t 4) (.t 20)),oP 5 (.mov (.k (.bool true)))]
def c61:CC:=(.seq (.reg r61_0 none) (.seq (.reg r61_1 none) (.seq (.seq (.reg r61_2 none) (.cond (.t 11) (.seq (.reg r61_3 none) .ret) .skip)) (.seq (.reg r61_4 none) .ret))))
theorem comp61:CmpC Tryz.prog G Tryz.f61=some c61:=by kernel_rfl
theorem res61:Tryz.f61.results.toList=[(.cell 4 39),(.tmp 5)]:=by kernel_rfl
def r67_0:List COp:=[oP 1 (.box (.t 0)),oP 2 (.box (.k (.agg [(.bool false),(.vec [] 0 (some 0)),(.bool false),(.vec [] 0 (some 0))])))]
def r67_1:List COp:=[oP 3 (.fld 2 (.t 1)),oP 4 (.load true 2 (.t 3)),oP 5 (.call 52 [.t 4]),oP 6 (.bin .eql (.t 5) (kI 0))]
def r67_2:List COp:=[oP 7 (.build [(.bool false),(.vec [] 0 (some 0))] []),oP 8 (.call 60 [.t 7]),sT (.store 4 (.t 2) (.t 8))]
def r67_3:List COp:=[oP 9 (.fld 0 (.t 1)),oP 10 (.load true 2 (.t 9)),oP 11 (.fld 2 (.t 1)),oP 12 (.load true 2 (.t 11)),oP 13 (.call 59 [.t 10,.t 12]),sT (.store 4 (.t 2) (.t 13))]
def c67:CC:=(.seq (.reg r67_0 none) (.seq (.seq (.reg r67_1 none) (.cond (.t 6) (.seq (.reg r67_2 none) .ret) .skip)) (.seq (.reg r67_3 none) .ret)))
theorem comp67:CmpC Tryz.prog G Tryz.f67=some c67:=by kernel_rfl
theorem res67:Tryz.f67.results.toList=[(.cell 2 39)]:=by kernel_rfl
def r112_0:List COp:=[oP 2 (.box (.t 0)),oP 3 (.box (.t 1)),oP 4 (.box (.k (.agg [(.bool false),(.vec [] 0 (some 0))])))]
def r112_1:List COp:=[oP 5 (.fld 1 (.t 2)),oP 6 (.load false 1 (.t 5)),oP 7 (.call 69 [.t 6]),oP 8 (.fld 1 (.t 3)),oP 9 (.load false 1 (.t 8)),oP 10 (.call 69 [.t 9]),oP 11 (.call 158 [.t 7,.t 10]),oP 12 (.call 56 [(.k (.bool false)),.t 11]),sT (.store 2 (.t 4) (.t 12))]
def c112:CC:=(.seq (.reg r112_0 none) (.seq (.reg r112_1 (some [(1,4),(2,4)])) .ret))
theorem comp112:CmpC Tryz.prog G Tryz.f112=some c112:=by kernel_rfl
theorem res112:Tryz.f112.results.toList=[(.cell 4 37)]:=by kernel_rfl
def r114_0:List COp:=[oP 2 (.box (.k (.agg [(.bool false),(.vec [] 0 (some 0)),(.bool false),(.vec [] 0 (some 0))])))]
def r114_1:List COp:=[oP 8 (.call 22 [(kI 1)]),oP 9 (.call 22 [(kI 1)]),oP 3 (.box (.k (.agg [(.bool false),(.vec [] 0 (some 0))]))),oP 4 (.box (.k (.agg [(.bool false),(.vec [] 0 (some 0))]))),sT (.store 2 (.t 3) (.t 8)),sT (.store 2 (.t 4) (.t 9))]
def r114_2:List COp:=[mV 10 0,oP 11 (.len false (.t 10)),oP 12 (.mov (kI 0))]
def r114_3:List COp:=[oP 13 (.bin .lss (.t 12) (.t 11))]
def r114_4:List COp:=[oP 14 (.idx 4 (.t 10) (.t 12)),oP 15 (.load true 4 (.t 14)),oP 6 (.box (.k (.agg [(.bool false),(.vec [] 0 (some 0)),(.bool false),(.vec [] 0 (some 0))]))),sT (.store 4 (.t 6) (.t 15))]
def r114_5:List COp:=[oP 16 (.load true 4 (.t 6)),oP 17 (.call 29 [.t 16]),oP 7 (.box (.k (.agg [(.bool false),(.vec [] 0 (some 0)),(.bool false),(.vec [] 0 (some 0))]))),sT (.store 4 (.t 7) (.t 17))]
def r114_6:List COp:=[oP 18 (.load true 2 (.t 3)),oP 19 (.fld 0 (.t 7)),oP 20 (.load true 2 (.t 19)),oP 21 (.call 31 [.t 18,.t 20]),oP 22 (.load true 2 (.t 4)),oP 23 (.fld 2 (.t 7)),oP 24 (.load true 2 (.t 23)),oP 25 (.call 31 [.t 22,.t 24]),sT (.store 2 (.t 3) (.t 21)),sT (.store 2 (.t 4) (.t 25))]
def r114_7:List COp:=[oP 26 (.bin .add (.t 12) (kI 1)),mV 12 26]
def l114_0:CC:=(.seq (.reg r114_3 none) (.seq (.cond (.t 13) .skip (.exit 0)) (.seq (.block 1 (.seq (.reg r114_4 none) (.seq (.reg r114_5 none) (.reg r114_6 (some [(0,2),(0,4),(2,4),(3,4),(0,6),(2,6),(3,6),(4,6)]))))) (.reg r114_7 none))))
def r114_8:List COp:=[oP 27 (.load true 2 (.t 3)),oP 28 (.load true 2 (.t 4)),oP 29 (.call 59 [.t 27,.t 28]),sT (.store 4 (.t 2) (.t 29))]
def c114:CC:=(.seq (.reg r114_0 none) (.seq (.reg r114_1 none) (.seq (.seq (.reg r114_2 none) (.block 0 (.loop l114_0))) (.seq (.reg r114_8 none) .ret))))
theorem comp114:CmpC Tryz.prog G Tryz.f114=some c114:=by kernel_rfl
theorem res114:Tryz.f114.results.toList=[(.cell 2 39)]:=by kernel_rfl
def r158_0:List COp:=[oP 4 (.mov (.k (.vec [] 0 (some 0))))]
def r158_1:List COp:=[mV 9 0,oP 10 (.len false (.t 9)),oP 11 (.bin .gtr (.t 10) (kI 2)),mV 12 11,gU 13 12 false (.mov (.t 1)),gU 14 12 false (.len false (.t 13)),gU 15 12 false (.bin .gtr (.t 14) (kI 2)),oP 16 (.pick (.t 12) (.k (.bool true)) (.t 15))]
def r158_2:List COp:=[mV 17 1,oP 18 (.len false (.t 17)),oP 19 (.bin .eql (.t 18) (kI 0))]
def r158_3:List COp:=[mV 20 0,oP 21 (.call 108 [.t 20]),mV 4 21]
def r158_4:List COp:=[mV 23 0,mV 24 1,oP 25 (.call 109 [.t 23,.t 24]),mV 22 25,oP 26 (.ext (.t 22) 0),oP 27 (.ext (.t 22) 1),mV 5 26,mV 6 27]
def r158_5:List COp:=[mV 28 1,mV 29 6,mV 0 28,mV 1 29]
def l158_0:CC:=(.seq (.seq (.reg r158_1 none) (.cond (.t 16) .skip (.exit 0))) (.block 1 (.seq (.seq (.reg r158_2 none) (.cond (.t 19) (.seq (.reg r158_3 none) .ret) .skip)) (.seq (.reg r158_4 none) (.reg r158_5 none)))))
def r158_6:List COp:=[mV 30 0,oP 31 (.call 120 [.t 30]),mV 32 1,oP 33 (.call 120 [.t 32]),mV 7 31,mV 8 33]
def r158_7:List COp:=[mV 34 8,oP 35 (.bin .neq (.t 34) (.k (.int .u64 0)))]
def r158_8:List COp:=[mV 36 8,mV 37 7,mV 38 8,oP 39 (.bin .rem (.t 37) (.t 38)),mV 7 36,mV 8 39]
def l158_1:CC:=(.seq (.seq (.reg r158_7 none) (.cond (.t 35) .skip (.exit 2))) (.block 3 (.reg r158_8 (some []))))
def r158_9:List COp:=[mV 40 7,oP 41 (.call 57 [.t 40]),mV 4 41]
def c158:CC:=(.seq (.reg r158_0 none) (.seq (.block 0 (.loop l158_0)) (.seq (.reg r158_6 none) (.seq (.block 2 (.loop l158_1)) (.seq (.reg r158_9 none) .ret)))))
theorem comp158:CmpC Tryz.prog G Tryz.f158=some c158:=by kernel_rfl
theorem res158:Tryz.f158.results.toList=[(.tmp 4)]:=by kernel_rfl
theorem nt4:Tryz.f4.ntmps=88:=by kernel_rfl
theorem nt10:Tryz.f10.ntmps=73:=by kernel_rfl
theorem nt11:Tryz.f11.ntmps=16:=by kernel_rfl
theorem nt12:Tryz.f12.ntmps=39:=by kernel_rfl
theorem nt24:Tryz.f24.ntmps=6:=by kernel_rfl
theorem nt25:Tryz.f25.ntmps=14:=by kernel_rfl
theorem nt28:Tryz.f28.ntmps=6:=by kernel_rfl
theorem nt29:Tryz.f29.ntmps=5:=by kernel_rfl
theorem nt59:Tryz.f59.ntmps=31:=by kernel_rfl
theorem nt60:Tryz.f60.ntmps=7:=by kernel_rfl
theorem nt61:Tryz.f61.ntmps=21:=by kernel_rfl
theorem nt67:Tryz.f67.ntmps=14:=by kernel_rfl
theorem nt112:Tryz.f112.ntmps=13:=by kernel_rfl
theorem nt114:Tryz.f114.ntmps=30:=by kernel_rfl
theorem nt158:Tryz.f158.ntmps=42:=by kernel_rfl
theorem gcdNat11 {x y:Nat} {c d:Option Nat} (hx:x≠0) (hx':x<4294967296) (hy:y≠0) (hy':y<4294967296):
  Ret Tryz.prog G 158 [.vec [.int .u32 x] 1 c,.vec [.int .u32 y] 1 d] [] (.vec [.int .u32 (Nat.gcd x y:Nat)] 1 (some 2)) []:=by
 refine Ret_of mixed Tryz.func158 comp158 _ 42 res158 nt158 (by simp) (by simp) ?_
 simp only [c158,r158_0,SS,reduceCtorEq]
 refine W_un mixed 1 (Un_in ?_)
 simp only [l158_0,r158_1,SS,forall_const,reduceCtorEq,reduceIte,qQ,decide_false,qK,n1]
 simp only [r158_6,SS,reduceCtorEq,reduceIte,qQ]
 refine callA_pure (word1 x c hx') ?_
 simp only [SS,reduceIte,qQ]
 refine callA_pure (word1 y d hy') ?_
 simp only [SS,reduceIte,qQ]
 refine W_loop (fun q E H=>∃a b:Nat,b=q∧H=[]∧a≠0∧a<4294967296∧b<4294967296∧Nat.gcd a b=Nat.gcd x y∧E 7= .int .u64 (a:Int)∧E 8= .int .u64 (b:Int)) (n:=y)
  ⟨x,y,rfl,rfl,hx,hx',hy',rfl,by simp only [upd_app,argsE_app,qL,qQ,reduceIte,if_false],by simp only [upd_app,argsE_app,qL,qQ,reduceIte,if_false]⟩ ?_
 rintro q E H ⟨a,b,rfl,rfl,ha,ha',hb',hg,e7,e8⟩
 refine wpC_sound mixed ?_
 rcases qN b with rfl | hb
 ·have d1:decide (((0:Nat):Int)≠0)=false:=by simp
  simp only [l158_1,r158_7,SS,forall_const,reduceCtorEq,reduceIte,qQ,e8,d1]
  simp only [r158_9,SS,reduceIte,qQ,e7]
  refine callA_pure (fromWord1 a ha ha') ?_
  simp only [SS,reduceIte,qQ]
  rw [Nat.gcd_zero_right] at hg
  rw [←hg]
  exact ⟨.inl trivial,_,rfl,.keep _ _⟩
 ·have d1:decide ((b:Int)≠0)=true:=by simp;omega
  have et:Int.tmod (a:Int) (b:Int)=((a%b:Nat):Int):=rfl
  have hlt:=xH a hb
  simp only [l158_1,r158_7,r158_8,SS,forall_const,reduceCtorEq,reduceIte,qQ,e7,e8,d1,et]
  refine ⟨by omega,rfl,a%b,_,_,hlt,⟨b,a%b,rfl,rfl,by omega,hb',by omega,?_,?_,?_⟩,.refl⟩
  ·rw [←hg,xL a b];exact (Nat.gcd_rec b a).symm ▸ (xL _ _)
  all_goals simp only [upd_app,qQ,reduceIte,if_false, *]
theorem gcd11 {x y:Nat} {c d:Option Nat} (hx:x≠0) (hx':x<4294967296) (hy:y≠0) (hy':y<4294967296):
  Ret Tryz.prog G 112 [.agg [.bool false,.vec [.int .u32 x] 1 c],.agg [.bool false,.vec [.int .u32 y] 1 d]] [] (.agg [.bool false,.vec [.int .u32 (Nat.gcd x y:Nat)] 1 (some 2)]) []:=by
 refine Ret_of mixed Tryz.func112 comp112 _ 13 res112 nt112 (by simp) (by simp) ?_
 simp only [c112,r112_0,SS,reduceCtorEq,reduceIte,qX,qQ]
 simp only [r112_1,SS,forall_const,reduceIte,qX,qQ,qZ]
 refine callA_pure (trim1 x c hx) ?_
 simp only [SS,forall_const,reduceIte,qX,qQ,qZ]
 refine callA_pure (trim1 y d hy) ?_
 simp only [SS,reduceIte,qQ]
 refine callA_pure (gcdNat11 hx hx' hy hy') ?_
 simp only [SS,reduceIte,qQ]
 refine callA_pure (build1 _ _ _) ?_
 simp only [SS,reduceIte,qX,qQ,qZ]
 refine ⟨rfl,?_⟩
 exact ⟨.inl trivial,_,rfl,.drop _ _ rfl (by intro i cs h;omega)⟩
theorem clone1f (x:Nat) (c:Option Nat):Ret Tryz.prog G 108 [.vec [.int .u32 x] 1 c] [] (.vec [.int .u32 x] 1 none) []:=by
 refine Ret_of mixed Tryz.func108 comp108 _ 8 res108 nt108 (by simp) (by simp) ?_
 simp only [c108,r108_0,r108_1,r108_2,r108_3,SS,forall_const,reduceCtorEq,reduceIte,qQ,show (1:Nat)≠0 by omega,if_false]
 have e1:1*1≤[AV.int IntKind.u32 (x:Int)].length:=qW _
 have e2:1≤[AV.int IntKind.u32 (x:Int)].length:=qW _
 simp only [appendA,lenA,elems,need,xA,e2,qW,and_self,if_true,show (1:Nat)≠0 by omega,if_false,getB,qU,xP,xE,true_and,show 4*1*4≤2^48 by omega,show 1<2^62 by omega,bindP_some,applyE,yH,yV,yY,yX,yO]
 exact ⟨.inl trivial,_,rfl,.freeze 3 _ _ _ rfl (by intro i cs h;omega)⟩
theorem normalize1 (s:Bool) (x:Nat) (c:Option Nat) (hx:x≠0) (hx':x<4294967296):Ret Tryz.prog G 53 [.agg [.bool s,.vec [.int .u32 x] 1 c]] [] (.agg [.bool s,.vec [.int .u32 x] 1 none]) []:=by
 refine Ret_of mixed Tryz.func53 comp53 _ 10 res53 nt53 (by simp) (by simp) ?_
 simp only [c53,SS,reduceCtorEq]
 simp only [r53_0,SS]
 simp only [r53_1,SS,forall_const,reduceIte,qX,qQ,qZ,qX]
 refine callA_pure (trim1 x c hx) ?_
 simp only [SS,reduceIte,qQ]
 refine callA_pure (clone1f x c) ?_
 simp only [SS,reduceIte,qQ]
 refine callA_pure (build1 _ _ _) ?_
 simp only [SS,reduceIte,qX,qQ,qZ,qX]
 refine ⟨rfl,?_⟩
 exact ⟨.inl trivial,_,rfl,.drop _ _ rfl (by intro i cs h;omega)⟩
theorem cmp_ppe (x:Nat) (y:Nat) (c d:Option Nat) (hx:x≠0) (hx':x<4294967296) (hy:y≠0) (hy':y<4294967296) (hxy:x=y):Ret Tryz.prog G 30 [.agg [.bool false,.vec [.int .u32 x] 1 c],.agg [.bool false,.vec [.int .u32 y] 1 d]] [] (.int .i64 0) []:=by
 subst hxy
 have q1:decide ((x:Int)<(x:Int))=false:=by simp
 refine Ret_of mixed Tryz.func30 comp30 _ 28 res30 nt30 (by simp) (by simp) ?_
 simp only [c30,SS,reduceCtorEq]
 simp only [r30_0,SS,reduceIte,qQ]
 simp only [r30_1,SS,reduceIte,qX,qQ,qZ,qX]
 refine callA_pure (sign1f x c hx hx') ?_
 simp only [SS,reduceIte,qX,qQ,qZ,qX]
 refine callA_pure (sign1f x d hx hx') ?_
 simp only [SS,reduceIte,qQ]
 refine ⟨rfl,?_⟩
 simp only [r30_2,SS,forall_const,reduceIte,qQ,decide_false,qK]
 simp only [r30_4,SS,forall_const,reduceIte,qQ,decide_false,qK]
 simp only [r30_6,SS,forall_const,reduceIte,qX,qQ,qZ,qX]
 refine callA_pure (trim1 x c hx) ?_
 simp only [SS,forall_const,reduceIte,qX,qQ,qZ,qX]
 refine callA_pure (trim1 x d hx) ?_
 simp only [SS,reduceIte,qQ]
 refine callA_pure (cmpNateq x x c d q1 q1) ?_
 simp only [SS,reduceIte,qQ,Int.reduceMul,wi0]
 refine ⟨rfl,?_⟩
 exact ⟨.inl trivial,_,rfl,.drop _ _ rfl (by intro i cs h;omega)⟩
theorem cmpNatge (x y:Nat) (c d:Option Nat) (hxy:y≤x):∃r:Int,0≤r∧Ret Tryz.prog G 68 [.vec [.int .u32 x] 1 c,.vec [.int .u32 y] 1 d] [] (.int .i64 r) []:=by
 have q1:decide ((x:Int)<(y:Int))=false:=by simp;omega
 rcases Nat.lt_or_ge y x with h | h
 ·exact ⟨1,by decide,cmpNatgt x y c d q1 (by simp;omega)⟩
 ·exact ⟨0,by decide,cmpNateq x y c d q1 (by simp;omega)⟩
theorem divNatg0 (x y:Nat) (c d:Option Nat) (hy:y≠0) (hxy:y≤x) (hx':x<4294967296) (hr:x%y=0):Ret Tryz.prog G 109 [.vec [.int .u32 x] 1 c,.vec [.int .u32 y] 1 d] [] (.tup [.vec [.int .u32 (x/y:Nat)] 1 (some 2),.vec [] 0 (some 2)]) []:=by
 obtain ⟨r,hr0,hcmp⟩:=cmpNatge x y c d hxy
 have q1:decide (r<0)=false:=by simp;omega
 have q2:((y:Int)≠0)=True:=eq_true (by omega)
 have w1:IntKind.u64.wrap (Int.tdiv (x:Int) (y:Int))=((x/y:Nat):Int):=by
  rw [show Int.tdiv (x:Int) (y:Int)=((x/y:Nat):Int) from rfl];exact wrap_u64 (by have:=qG x y;omega)
 have w2:Int.tmod (x:Int) (y:Int)=0:=by
  rw [show Int.tmod (x:Int) (y:Int)=((x%y:Nat):Int) from rfl,hr];rfl
 have hq:x/y≠0:=by have:=Nat.div_pos hxy (xZ hy);omega
 have hq':x/y<4294967296:=by have:=qG x y;omega
 refine Ret_of mixed Tryz.func109 comp109 _ 104 res109 nt109 (by simp) (by simp) ?_
 simp only [c109,SS,reduceCtorEq]
 simp only [r109_0,SS]
 simp only [r109_1,SS,reduceCtorEq,reduceIte,qQ]
 refine callA_pure hcmp ?_
 simp only [SS,forall_const,reduceIte,qQ,q1]
 simp only [r109_3,SS,forall_const,reduceCtorEq,reduceIte,qQ,decide_true,qA,n1]
 simp only [r109_4,SS,reduceCtorEq,reduceIte,qQ]
 refine callA_pure (word1 x c hx') ?_
 simp only [SS,reduceIte,qQ]
 refine callA_pure (word1 y d (by omega)) ?_
 simp only [SS,reduceIte,qQ]
 simp only [r109_5,SS,reduceIte,qQ,w1,q2]
 refine callA_pure (fromWord1 _ hq hq') ?_
 simp only [SS,reduceIte,qQ,w2,q2]
 refine callA_pure fromWord0 ?_
 simp only [SS,reduceIte,qQ]
 refine ⟨rfl,?_⟩
 exact ⟨.inl trivial,_,rfl,.keep _ _⟩
theorem divMod_g0 (t:Bool) (x:Nat) (y:Nat) (c d:Option Nat) (hx:x≠0) (hx':x<4294967296) (hy:y≠0) (hxy:y≤x) (hr:x%y=0):Ret Tryz.prog G 55 [.agg [.bool false,.vec [.int .u32 x] 1 c],.agg [.bool t,.vec [.int .u32 y] 1 d]] [] (.tup [.agg [.bool t,.vec [.int .u32 (x/y:Nat)] 1 (some 2)],.agg [.bool false,.vec [] 0 (some 0)],.bool true]) []:=by
 refine Ret_of mixed Tryz.func55 comp55 _ 53 res55 nt55 (by simp) (by simp) ?_
 simp only [c55,SS,reduceCtorEq,reduceIte,qQ]
 simp only [r55_0,SS,reduceIte,qX,qQ]
 simp only [r55_1,SS,forall_const,reduceIte,qX,qQ,qZ,qX]
 refine callA_pure (trim1 y d hy) ?_
 simp only [SS,reduceIte,qQ]
 simp only [r55_2,SS,forall_const,reduceIte,qQ,decide_false,xX,n1]
 simp only [r55_4,SS,forall_const,reduceIte,qX,qQ,qZ,qX]
 refine callA_pure (trim1 x c hx) ?_
 simp only [SS,reduceIte,qQ]
 refine callA_pure (divNatg0 x y c d hy hxy hx' hr) ?_
 simp only [SS,reduceIte,qQ,qU,qC]
 simp only [r55_5,SS,forall_const,reduceIte,qX,qQ,qZ,qX]
 simp only [r55_6,SS,forall_const,reduceIte,qX,qQ,qZ,decide_false,qK,qX,xB]
 simp only [r55_7,SS,forall_const,reduceIte,qX,qQ,qZ,qX]
 simp only [r55_11,SS,reduceIte,qQ]
 refine callA_pure (build1 _ _ _) ?_
 simp only [SS,reduceIte,qQ]
 refine callA_pure (build0 _ _ _) ?_
 simp only [SS,reduceIte,qX,qQ,qZ,qX]
 exact ⟨.inl trivial,_,rfl,.drop _ _ rfl (by intro i cs h;omega)⟩
abbrev pz (x:Nat) (c:Option Nat):AV:= .agg [.bool false,.vec [.int .u32 (x:Int)] 1 c]
abbrev fr (x:Nat) (c:Option Nat) (y:Nat) (d:Option Nat):AV:= .agg [.bool false,.vec [.int .u32 (x:Int)] 1 c,.bool false,.vec [.int .u32 (y:Int)] 1 d]
abbrev s2:Option Nat:=some 2
theorem gcdP0 {x y:Nat} (hx:x≠0):Nat.gcd x y≠0:=fun e=>hx (Nat.eq_zero_of_gcd_eq_zero_left e)
theorem divP0 {x g:Nat} (hx:x≠0) (hg:g∣x):x/g≠0:=by
 obtain ⟨k,rfl⟩:=hg
 have h1:g≠0:=fun e=>hx (by rw [e,xQ])
 rw [Nat.mul_div_cancel_left _ (xZ h1)]
 exact fun e=>hx (by rw [e,Nat.mul_zero])
theorem divmod11 {x g:Nat} {c d:Option Nat} (hx:x≠0) (hx':x<4294967296) (hg:g∣x) (hg0:g≠0):Ret Tryz.prog G 55 [pz x c,pz g d] [] (.tup [pz (x/g) s2,.agg [.bool false,.vec [] 0 (some 0)],.bool true]) []:=
 divMod_g0 false x g c d hx hx' hg0 (Nat.le_of_dvd (xZ hx) hg) (Nat.mod_eq_zero_of_dvd hg)
theorem lowest11 {x y:Nat} {c d:Option Nat} (hx:x≠0) (hx':x<4294967296) (hy:y≠0) (hy':y<4294967296):
  Ret Tryz.prog G 59 [pz x c,pz y d] [] (fr (x/Nat.gcd x y) s2 (y/Nat.gcd x y) s2) []:=by
 have hg:=gcdP0 (y:=y) hx
 have t1:=gcd11 (c:=c) (d:=d) hx hx' hy hy'
 have t2:=divmod11 (c:=c) (d:=s2) hx hx' (xC x y) hg
 have t3:=divmod11 (c:=d) (d:=s2) hy hy' (xW x y) hg
 refine Ret_of mixed Tryz.func59 comp59 _ 31 res59 nt59 (by simp) (by simp) ?_
 simp only [c59,r59_0,SS,reduceCtorEq,reduceIte,qX,qQ]
 simp only [r59_1,SS,reduceIte,qX,qQ,qZ]
 refine callA_pure t1 ?_
 simp only [SS,reduceIte,qX,qQ,qZ]
 simp only [r59_2,SS,reduceIte,qX,qQ,qZ]
 refine callA_pure (sign1f y d hy hy') ?_
 simp only [SS,forall_const,reduceIte,qQ,decide_false,qK]
 simp only [r59_4,SS,reduceIte,qX,qQ,qZ]
 refine callA_pure t2 ?_
 simp only [SS,reduceIte,qX,qQ,qZ,qU,qC]
 simp only [r59_5,SS,reduceIte,qX,qQ,qZ]
 refine callA_pure t3 ?_
 simp only [SS,reduceIte,qX,qQ,qZ,qU,qC]
 simp only [r59_6,SS,reduceIte,qX,qQ,qZ]
 exact ⟨.inl trivial,_,rfl,.drop _ _ rfl (by intro i cs h;omega)⟩
theorem normalize11 {x y:Nat} {c d:Option Nat} (hx:x≠0) (hx':x<4294967296) (hy:y≠0) (hy':y<4294967296):
  Ret Tryz.prog G 67 [fr x c y d] [] (fr (x/Nat.gcd x y) s2 (y/Nat.gcd x y) s2) []:=by
 have t1:=lowest11 (c:=c) (d:=d) hx hx' hy hy'
 refine Ret_of mixed Tryz.func67 comp67 _ 14 res67 nt67 (by simp) (by simp) ?_
 simp only [c67,r67_0,SS,reduceCtorEq]
 simp only [r67_1,SS,reduceIte,qX,qQ,qZ]
 refine callA_pure (sign1f y d hy hy') ?_
 simp only [SS,forall_const,reduceIte,qQ,decide_false,xX]
 simp only [r67_3,SS,reduceIte,qX,qQ,qZ]
 refine callA_pure t1 ?_
 simp only [SS,reduceIte,qX,qQ,qZ]
 exact ⟨.inl trivial,_,rfl,.drop _ _ rfl (by intro i cs h;omega)⟩
theorem canonical11 {x y:Nat} {c d:Option Nat} (hx:x≠0) (hx':x<4294967296) (hy:y≠0) (hy':y<4294967296):
  Ret Tryz.prog G 29 [fr x c y d] [] (fr (x/Nat.gcd x y) s2 (y/Nat.gcd x y) s2) []:=by
 have t1:=normalize11 (c:=c) (d:=d) hx hx' hy hy'
 refine Ret_of mixed Tryz.func29 comp29 _ 5 res29 nt29 (by simp) (by simp) ?_
 simp only [c29,r29_0,SS,reduceCtorEq]
 simp only [r29_1,SS,reduceIte,qX,qQ,qZ]
 refine callA_pure t1 ?_
 simp only [SS,reduceIte,qX,qQ,qZ]
 exact ⟨.inl trivial,_,rfl,.drop _ _ rfl (by intro i cs h;omega)⟩
theorem fsign11 {x y:Nat} {c d:Option Nat} (hx:x≠0) (hx':x<4294967296):Ret Tryz.prog G 28 [fr x c y d] [] (.int .i64 1) []:=by
 refine Ret_of mixed Tryz.func28 comp28 _ 6 res28 nt28 (by simp) (by simp) ?_
 simp only [c28,r28_0,SS,reduceCtorEq]
 simp only [r28_1,SS,reduceIte,qX,qQ,qZ]
 refine callA_pure (sign1f x c hx hx') ?_
 simp only [SS,reduceIte,qQ]
 exact ⟨.inl trivial,_,rfl,.freeze 1 _ _ _ rfl (by intro i cs h;omega)⟩
theorem small1:Ret Tryz.prog G 22 [.int .i64 1] [] (pz 1 s2) []:=smallP 1 (by decide) (by decide)
theorem Whole1 {x:Nat} {c:Option Nat} (hx:x≠0) (hx':x<4294967296):Ret Tryz.prog G 60 [pz x c] [] (fr x none 1 s2) []:=by
 refine Ret_of mixed Tryz.func60 comp60 _ 7 res60 nt60 (by simp) (by simp) ?_
 simp only [c60,r60_0,SS,reduceCtorEq]
 simp only [r60_1,SS,reduceIte,qX,qQ,qZ]
 refine callA_pure (normalize1 false x c hx hx') ?_
 simp only [SS]
 refine callA_pure small1 ?_
 simp only [SS,reduceIte,qX,qQ,qZ,n1]
 exact ⟨.inl trivial,_,rfl,.drop _ _ rfl (by intro i cs h;omega)⟩
theorem whole1 {x:Nat} (hx:x≠0) (hx':x<4294967296):Ret Tryz.prog G 24 [.int .i64 (x:Int)] [] (fr x none 1 s2) []:=by
 refine Ret_of mixed Tryz.func24 comp24 _ 6 res24 nt24 (by simp) (by simp) ?_
 simp only [c24,r24_0,SS,reduceCtorEq]
 simp only [r24_1,SS,reduceCtorEq,reduceIte,qQ]
 refine callA_pure (smallP x hx hx') ?_
 simp only [SS,reduceIte,qQ]
 refine callA_pure (Whole1 (c:=s2) hx hx') ?_
 simp only [SS,reduceIte,qX,qQ,qZ,n1]
 exact ⟨.inl trivial,_,rfl,.drop _ _ rfl (by intro i cs h;omega)⟩
theorem mulP {x y:Nat} {c d:Option Nat} (hx:x≠0) (hx':x<4294967296) (hy:y≠0) (hy':y<4294967296) (hxy:x*y<4294967296):Ret Tryz.prog G 31 [pz x c,pz y d] [] (pz (x*y) s2) []:=
 mul11 false false x y c d hx hx' hy hy' hxy
abbrev fr2 (x:Nat) (c:Option Nat) (y:Nat) (d:Option Nat) (u:Nat) (e:Option Nat) (v:Nat) (f:Option Nat):List AV:=
 [.bool false,.vec [.int .u32 (x:Int)] 1 c,.bool false,.vec [.int .u32 (y:Int)] 1 d,.bool false,.vec [.int .u32 (u:Int)] 1 e,.bool false,.vec [.int .u32 (v:Int)] 1 f]
set_option maxHeartbeats 1000000 in
theorem product11 {x y u v:Nat} {c d e f k:Option Nat} (hx:x≠0) (hx':x<4294967296) (hy:y≠0) (hy':y<4294967296) (hu:u≠0) (hu':u<4294967296) (hv:v≠0) (hv':v<4294967296)
  {x1 y1 u1 v1:Nat} (ex:x/Nat.gcd x y=x1) (ey:y/Nat.gcd x y=y1) (eu:u/Nat.gcd u v=u1) (ev:v/Nat.gcd u v=v1) (b1:x1*u1<4294967296) (b2:y1*v1<4294967296):
  Ret Tryz.prog G 114 [.vec (fr2 x c y d u e v f) 2 k] [] (fr (x1*u1/Nat.gcd (x1*u1) (y1*v1)) s2 (y1*v1/Nat.gcd (x1*u1) (y1*v1)) s2) []:=by
 have px:x1≠0:=ex ▸ divP0 hx (xC x y)
 have py:y1≠0:=ey ▸ divP0 hy (xW x y)
 have pu:u1≠0:=eu ▸ divP0 hu (xC u v)
 have pv:v1≠0:=ev ▸ divP0 hv (xW u v)
 have lx:x1<4294967296:=ex ▸ qD (qG _ _) hx'
 have ly:y1<4294967296:=ey ▸ qD (qG _ _) hy'
 have lu:u1<4294967296:=eu ▸ qD (qG _ _) hu'
 have lv:v1<4294967296:=ev ▸ qD (qG _ _) hv'
 have t1:=canonical11 (c:=c) (d:=d) hx hx' hy hy'
 have t2:=canonical11 (c:=e) (d:=f) hu hu' hv hv'
 rw [ex,ey] at t1
 rw [eu,ev] at t2
 have m1:Ret Tryz.prog G 31 [pz 1 s2,pz x1 s2] [] (pz x1 s2) []:=by have:=mulP (c:=s2) (d:=s2) (x:=1) (y:=x1) (by decide) (by decide) px lx (by omega);rwa [Nat.one_mul] at this
 have m2:Ret Tryz.prog G 31 [pz 1 s2,pz y1 s2] [] (pz y1 s2) []:=by have:=mulP (c:=s2) (d:=s2) (x:=1) (y:=y1) (by decide) (by decide) py ly (by omega);rwa [Nat.one_mul] at this
 have m3:=mulP (c:=s2) (d:=s2) px lx pu lu b1
 have m4:=mulP (c:=s2) (d:=s2) py ly pv lv b2
 have t3:=lowest11 (c:=s2) (d:=s2) (qS px pu) b1 (qS py pv) b2
 refine Ret_of mixed Tryz.func114 comp114 _ 30 res114 nt114 (by simp) (by simp) ?_
 simp only [c114,r114_0,SS,reduceCtorEq]
 simp only [r114_1,SS]
 refine callA_pure small1 ?_
 simp only [SS]
 refine callA_pure small1 ?_
 simp only [SS,reduceIte,qX,qQ,qZ,n1]
 simp only [r114_2,SS,reduceCtorEq,reduceIte,qQ,n2]
 refine W_un mixed 3 (Un_in ?_)
 simp only [l114_0,r114_3,r114_4,SS,forall_const,reduceCtorEq,reduceIte,qX,qQ,qZ,decide_true,qK,yK,n2,tn0,le0]
 simp only [r114_5,SS,reduceIte,qX,qQ,qZ]
 refine callA_pure t1 ?_
 simp only [SS,reduceIte,qX,qQ,qZ]
 simp only [r114_6,SS,reduceIte,qX,qQ,qZ]
 refine callA_pure m1 ?_
 simp only [SS,reduceIte,qX,qQ,qZ]
 refine callA_pure m2 ?_
 simp only [SS,reduceIte,qX,qQ,qZ]
 simp only [r114_7,SS,reduceIte,qQ,yJ,wi1]
 refine ⟨rfl,Un_in ?_⟩
 simp only [SS,forall_const,reduceCtorEq,reduceIte,qX,qQ,qZ,decide_true,qA,yK,n2,tn1,lt12]
 refine callA_pure t2 ?_
 simp only [SS,reduceIte,qX,qQ,qZ]
 refine callA_pure m3 ?_
 simp only [SS,reduceIte,qX,qQ,qZ]
 refine callA_pure m4 ?_
 simp only [SS,reduceIte,qX,qQ,qZ,yJ,wi2]
 refine ⟨rfl,Un_in ?_⟩
 simp only [SS,forall_const,reduceCtorEq,reduceIte,qX,qQ,qZ,decide_false,qK,qA,n2]
 simp only [r114_8,SS,reduceIte,qX,qQ,qZ]
 refine callA_pure t3 ?_
 simp only [SS,reduceIte,qX,qQ,qZ]
 exact ⟨.inl trivial,_,rfl,.drop _ _ rfl (by intro i cs h;omega)⟩
theorem quo11 {x y u v:Nat} {c d e f:Option Nat} (hx:x≠0) (hx':x<4294967296) (hy:y≠0) (hy':y<4294967296) (hu:u≠0) (hu':u<4294967296) (hv:v≠0) (hv':v<4294967296)
  (c1:Nat.gcd x y=1) (c2:Nat.gcd u v=1) (b1:x*v<4294967296) (b2:y*u<4294967296):
  Ret Tryz.prog G 61 [fr x c y d,fr u e v f] [] (.tup [fr (x*v/Nat.gcd (x*v) (y*u)) s2 (y*u/Nat.gcd (x*v) (y*u)) s2,.bool true]) []:=by
 have t1:=canonical11 (c:=e) (d:=f) hu hu' hv hv'
 rw [c2,qI,qI] at t1
 have t2:=fsign11 (c:=s2) (d:=s2) (y:=v) hu hu'
 have t3:=product11 (c:=c) (d:=d) (e:=s2) (f:=s2) (k:=some 2) hx hx' hy hy' hv hv' hu hu' (x1:=x) (y1:=y) (u1:=v) (v1:=u) (by rw [c1,qI]) (by rw [c1,qI]) (by rw [xL,c2,qI]) (by rw [xL,c2,qI]) b1 b2
 refine Ret_of mixed Tryz.func61 comp61 _ 21 res61 nt61 (by simp) (by simp) ?_
 simp only [c61,r61_0,SS,reduceCtorEq,reduceIte,qX,qQ]
 simp only [r61_1,SS,reduceIte,qX,qQ,qZ]
 refine callA_pure t1 ?_
 simp only [SS,reduceIte,qX,qQ,qZ]
 simp only [r61_2,SS,reduceIte,qX,qQ,qZ]
 refine callA_pure t2 ?_
 simp only [SS,forall_const,reduceIte,qQ,decide_false,xX]
 simp only [r61_4,SS,reduceIte,qX,qQ,qZ,yK]
 refine callA_frz (id:=4) (cs:=fr2 x c y d v s2 u s2) (d:=2) (args0:=[.sl 0 0 2 4 (some 2)]) t3 rfl rfl rfl ?_ rfl rfl rfl
 simp only [restA,applyE,qT,xN,SS,reduceIte,qX,qQ,qZ]
 exact ⟨.inl trivial,_,rfl,.drop _ _ rfl (by intro i cs h;omega)⟩
theorem quotient11 {x y u v:Nat} {c d e f:Option Nat} (hx:x≠0) (hx':x<4294967296) (hy:y≠0) (hy':y<4294967296) (hu:u≠0) (hu':u<4294967296) (hv:v≠0) (hv':v<4294967296)
  (c1:Nat.gcd x y=1) (c2:Nat.gcd u v=1) (b1:x*v<4294967296) (b2:y*u<4294967296):
  Ret Tryz.prog G 25 [fr x c y d,fr u e v f] [] (fr (x*v/Nat.gcd (x*v) (y*u)) s2 (y*u/Nat.gcd (x*v) (y*u)) s2) []:=by
 have t1:=quo11 (c:=c) (d:=d) (e:=e) (f:=f) hx hx' hy hy' hu hu' hv hv' c1 c2 b1 b2
 refine Ret_of mixed Tryz.func25 comp25 _ 14 res25 nt25 (by simp) (by simp) ?_
 simp only [c25,r25_0,SS,reduceCtorEq,reduceIte,qX,qQ]
 simp only [r25_1,SS,reduceIte,qX,qQ,qZ]
 refine callA_pure t1 ?_
 simp only [SS,reduceIte,qX,qQ,qZ,qU,qC]
 simp only [r25_2,SS,reduceIte,qX,qQ,qZ]
 exact ⟨.inl trivial,_,rfl,.drop _ _ rfl (by intro i cs h;omega)⟩
theorem cmpP {x y:Nat} {c d:Option Nat} (hx:x≠0) (hx':x<4294967296) (e:x=y):Ret Tryz.prog G 30 [pz x c,pz y d] [] (.int .i64 0) []:=
 cmp_ppe x y c d hx hx' (e ▸ hx) (e ▸ hx') e
set_option maxHeartbeats 1000000 in
theorem fcmp11 {x y:Nat} {c d e f:Option Nat} (hx:x≠0) (hx':x<4294967296) (hy:y≠0) (hy':y<4294967296) (c1:Nat.gcd x y=1) (b:x*y<4294967296):
  Ret Tryz.prog G 12 [fr x c y d,fr x e y f] [] (.int .i64 0) []:=by
 have t1:=canonical11 (c:=c) (d:=d) hx hx' hy hy'
 have t2:=canonical11 (c:=e) (d:=f) hx hx' hy hy'
 rw [c1,qI,qI] at t1 t2
 have t3:=fsign11 (c:=s2) (d:=s2) (y:=y) hx hx'
 have m1:=mulP (c:=s2) (d:=s2) hx hx' hy hy' b
 have t4:=cmpP (c:=s2) (d:=s2) (qS hx hy) b rfl
 refine Ret_of mixed Tryz.func12 comp12 _ 39 res12 nt12 (by simp) (by simp) ?_
 simp only [c12,r12_0,SS,reduceCtorEq,reduceIte,qQ]
 simp only [r12_1,SS]
 simp only [r12_2,SS,reduceIte,qX,qQ,qZ]
 refine callA_pure t1 ?_
 simp only [SS,reduceIte,qX,qQ,qZ]
 refine callA_pure t2 ?_
 simp only [SS,reduceIte,qX,qQ,qZ]
 refine ⟨rfl,?_⟩
 simp only [r12_3,SS,reduceIte,qX,qQ,qZ]
 refine ⟨28,[],rfl,by kernel_rfl,callA_pure t3 ?_⟩
 simp only [SS,reduceIte,qX,qQ,qZ]
 refine ⟨28,[],rfl,by kernel_rfl,callA_pure t3 ?_⟩
 simp only [SS,reduceIte,qQ]
 refine ⟨rfl,?_⟩
 simp only [r12_4,SS,forall_const,reduceIte,qQ,decide_false,qK]
 simp only [r12_6,SS,forall_const,reduceIte,qQ,decide_false,qK]
 simp only [r12_8,SS,reduceIte,qX,qQ,qZ]
 refine callA_pure m1 ?_
 simp only [SS,reduceIte,qX,qQ,qZ]
 refine callA_pure m1 ?_
 simp only [SS,reduceIte,qQ]
 refine callA_pure t4 ?_
 simp only [SS,reduceIte,qQ]
 refine ⟨rfl,?_⟩
 exact ⟨.inl trivial,_,rfl,.freeze 1 _ _ _ rfl (by intro i cs h;omega)⟩
end Go.Proofs.YtenboapacjlmoaaGreatDoor
