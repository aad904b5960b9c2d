/- A part of the proof. -/
import Derived.Test.YtenboapacjlmoaaGreatDoorPD
import Derived.Test.YtenboapacjlmoaaGreatDoorPA
import Derived.Test.YtenboapacjlmoaaGreatDoorPC
namespace Go.Proofs.YtenboapacjlmoaaGreatDoor
set_option linter.unusedSimpArgs false
set_option linter.unusedVariables false
open Go Go.AL Go.Proofs Go.Limb Go.Det
set_option maxRecDepth 100000
theorem stage_low {n k:Nat} {M:List (List Int)} (hs:∀i j,i<n→j<n→rowF M i j=rowF M j i) (hP:Part n (rowF M) k) (hk:k+1<n) (hsh:ShortP (n-k) (stageM n k M)):∀i,i<n-k→ -65536≤ent (stageM n k M) i 0∧ent (stageM n k M) i 0≤65536∧ -65536≤ent (stageM n k M) 0 i∧ent (stageM n k M) 0 i≤65536:=by
 intro i hi
 have e:ent (stageM n k M) 0 i=ent (stageM n k M) i 0:=by
  rw [stage_ent (by omega) hi,stage_ent hi (by omega)]
  exact stg_sym hs k (by omega) hP.ne _ _ (by omega) (by omega) (by omega) (by omega)
 rw [e]
 obtain ⟨h1,h2,h3⟩:=hsh
 rcases Nat.eq_zero_or_pos i with h0 | h0
 ·subst h0;omega
 ·have:=h3 i h0 hi
  omega
theorem next_bound {n k:Nat} {a:Nat→Det.Row} (n8:n≤8) (hs:∀i j,i<n→j<n→a i j=a j i) (hb:∀i j,i<n→j<n→a i j≤262144∧ -262144≤a i j) (hP:Part n a k) (hk:k+1<n) (h1:0<lead a (k+1)) (h2:lead a (k+1)<65536)
  (h3:∀i,i<n→k<i→2*stg a k i k≤lead a (k+1)∧ -(2*stg a k i k)≤lead a (k+1)) {i j:Nat} (hi:i<n) (hj:j<n) (hki:k<i) (hkj:k<j):stg a (k+1) i j≤34359738368∧ -34359738368≤stg a (k+1) i j:=by
 obtain ⟨x1,x2⟩:=Part.entry hs hb k (by omega) hP i j hi hj (by omega) (by omega)
 have hn:=hP.ne
 have e:=stg_rec hn i j
 obtain ⟨u1,u2⟩:=h3 i hi hki
 obtain ⟨v1,v2⟩:=h3 j hj hkj
 rw [stg_sym hs k (by omega) hn k j (by omega) hj (by omega) (by omega)] at e
 have p:=hP.pos' k (Nat.le_refl _)
 obtain ⟨y1,y2⟩:=forth (by omega) (by omega) (by omega) e x1 x2 u1 u2 v1 v2
 have c:lead a (k+1)*(262144+16384*(k:Int)+16384)≤65536*524288:=by
  have m1:lead a (k+1)*(262144+16384*(k:Int)+16384)≤65536*(262144+16384*(k:Int)+16384):=Int.mul_le_mul_of_nonneg_right (by omega) (by omega)
  omega
 omega
theorem lIsReduced {M:List (List Int)} {a:AV} (h:ImV M a) (h62:M.length<4611686018427387904) (hr62:∀i,i<M.length→(M.getD i []).length<4611686018427387904) {b:Bool} (hb:b=true↔SmallP M∧Red M.length (rowF M)):Ret Tryz.prog G 46 [a] [] (.bool b) []:=by
 have no:¬(SmallP M∧Red M.length (rowF M))→b=false:=by
  intro hn
  cases b with
  | false=>rfl
  | true=>exact absurd (hb.1 rfl) hn
 refine Ret_of mixed Tryz.func46 comp46 _ 118 res46 nt46 (by simp) (by simp) ?_
 by_cases hS:SmallP M
 rotate_left
 ·obtain rfl:=no (fun e=>hS e.1)
  have t1:=lSmall h h62 hr62 (b:=false) ⟨fun e=>by simp at e,fun e=>absurd e hS⟩
  obtain ⟨rows,c,rfl,hl,hr⟩:=h.val
  simp only [c46,r46_0,r46_1,SS,reduceCtorEq,reduceIte]
  refine callA_pure t1 ?_
  simp only [SS,forall_const,reduceIte,Nat.reduceEqDiff]
  simp only [r46_2,SS]
  exact ⟨.inl trivial,_,rfl,.drop _ _ rfl (by intro i cs h;omega)⟩
 have t1:=lSmall h h62 hr62 (b:=true) ⟨fun _=>hS,fun _=>rfl⟩
 have hf0:=h.fit
 have himv:=h
 obtain ⟨rows,c,rfl,hl,hr⟩:=h.val
 obtain ⟨n1,n8,hsh,hent⟩:=hS
 generalize hn:M.length=n at*
 have hsym:∀i j,i<n→j<n→rowF M i j=rowF M j i:=fun i j hi hj=>(hent i j hi hj).1
 have hbnd:∀i j,i<n→j<n→rowF M i j≤262144∧ -262144≤rowF M i j:=fun i j hi hj=>by have:=hent i j hi hj;show ent M i j≤_∧_≤ent M i j;omega
 simp only [c46,r46_0,r46_1,SS,reduceCtorEq,reduceIte]
 refine callA_pure t1 ?_
 simp only [SS,forall_const,reduceIte,Nat.reduceEqDiff]
 simp only [r46_3,r46_4,SS,reduceCtorEq,reduceIte,Nat.reduceEqDiff]
 refine W_loop (fun q E H=>∃k sr sc,k+q+1=n∧Part n (rowF M) k∧ImV (stageM n k M) (.vec sr (n-k) sc)∧E 3= .vec sr (n-k) sc∧E 4= .int .i64 (lead (rowF M) k)∧H=[]) (n:=n-1)
  ⟨0,rows,c,by omega,Part.zero,by rw [stage_zero hsh];exact himv,by simp only [upd_app,argsE_app,List.getD_cons_succ,Nat.reduceEqDiff,reduceIte,if_false];rfl,by simp only [upd_app,argsE_app,List.getD_cons_succ,Nat.reduceEqDiff,reduceIte,if_false];rfl,rfl⟩ ?_
 rintro q E H ⟨k,sr,sc,hkq,hP,hV,e3,e4,rfl⟩
 refine wpC_sound mixed ?_
 have hsS:=stage_shp n k M
 obtain ⟨srw,src,hse,hsl,hsr⟩:=hV.val
 rw [hsS.len] at hse hsl hsr
 injection hse with hs1 hs2 hs3
 subst hs1 hs3
 obtain ⟨c0,hc0⟩:=hsr 0 (by omega)
 have l0:=hsS.row 0 (by omega)
 have g00:(i64z ((stageM n k M).getD 0 [])).getD 0 .junk= .int .i64 (ent (stageM n k M) 0 0):=i64z_getD _ 0 (by omega) _
 have e00:ent (stageM n k M) 0 0=lead (rowF M) (k+1):=by rw [stage_ent (by omega) (by omega),lead_stg];rfl
 simp only [l46_0,r46_5,SS,reduceCtorEq,reduceIte,Nat.reduceEqDiff,e3]
 refine ⟨fun hgt=>?_,fun hle=>?_⟩
 ·obtain ⟨m,hm⟩:∃m,n-k=m+1:=⟨n-k-1,by omega⟩
  have hk1:k+1<n:=by omega
  have hbig:∀i j,i<n-k→j<n-k→ -34359738368≤ent (stageM n k M) i j∧ent (stageM n k M) i j≤34359738368:=by
   intro i j hi hj
   rw [stage_ent hi hj]
   have:=hP.entry35 n8 hsym hbnd (by omega) (i:=k+i) (j:=k+j) (by omega) (by omega) (by omega) (by omega)
   omega
  simp only [r46_6,r46_7,SS,forall_const,reduceIte,Nat.reduceEqDiff,e3,hc0,hsl,l0,g00,i64z_len,Int.toNat_zero]
  refine ⟨⟨by omega,by omega⟩,by omega,⟨by omega,by omega⟩,by omega,?_⟩
  by_cases hsp:ShortP (n-k) (stageM n k M)
  rotate_left
  ·have hbf:=no (fun e=>hsp (by
    obtain ⟨r1,r2,r3,_⟩:=e.2.part hk1
    refine ⟨by rw [e00];exact r1,by rw [e00];exact r2,fun i h0 hi=>?_⟩
    rw [e00,stage_ent hi (by omega)]
    exact r3 (k+i) (by omega) (by omega)))
   subst hbf
   have t2:=lShort hV hsS (by omega) (fun i hi=>by have:=hbig i 0 hi (by omega);omega) (b:=false) ⟨fun e=>by simp at e,fun e=>absurd e hsp⟩
   refine callA_pure t2 ?_
   simp only [SS,forall_const,reduceIte,Nat.reduceEqDiff]
   simp only [r46_8,SS]
   exact ⟨.inl trivial,_,rfl,.drop _ _ rfl (by intro i cs h;omega)⟩
  have t2:=lShort hV hsS (by omega) (fun i hi=>by have:=hbig i 0 hi (by omega);omega) (b:=true) ⟨fun _=>hsp,fun _=>rfl⟩
  refine callA_pure t2 ?_
  simp only [SS,forall_const,reduceIte,Nat.reduceEqDiff]
  have w1:IntKind.i64.wrap (((n-k:Nat):Int)-1)=(m:Nat):=by rw [show ((n-k:Nat):Int)-1=(m:Nat) by omega];exact w64 (by omega) (by omega)
  simp only [r46_9,SS,reduceIte,Nat.reduceEqDiff,e3,w1,Int.toNat_natCast]
  refine ⟨by decide,⟨by omega,by omega,by omega,by omega⟩,?_⟩
  obtain ⟨sp1,sp2,sp3⟩:=hsp
  have hlow:=stage_low hsym hP hk1 ⟨sp1,sp2,sp3⟩
  have sz:∀i,i<n→k<i→2*stg (rowF M) k i k≤lead (rowF M) (k+1)∧ -(2*stg (rowF M) k i k)≤lead (rowF M) (k+1):=by
   intro i hi hki
   have:=sp3 (i-k) (by omega) (by omega)
   rw [e00,stage_ent (by omega) (by omega),show k+(i-k)=i by omega] at this
   exact this
  rw [e00] at sp1 sp2
  have hTs:Shp m (stageM n (k+1) M):=by
   have:=stage_shp n (k+1) M
   rw [show n-(k+1)=m by omega] at this
   exact this
  have hq:∀i j,i<m→j<m→Int.tdiv (lead (rowF M) (k+1)*ent (stageM n k M) (i+1) (j+1)-ent (stageM n k M) (i+1) 0*ent (stageM n k M) 0 (j+1)) (lead (rowF M) k)=ent (stageM n (k+1) M) i j:=by
   intro i j hi hj
   rw [stage_ent (by omega) (by omega),stage_ent (by omega) (by omega),stage_ent (by omega) (by omega),stage_ent (by omega) (by omega)]
   rw [show k+(i+1)=k+1+i by omega,show k+(j+1)=k+1+j by omega]
   exact stage_quo hP _ _
  have hF:StF m (stageM n k M) (stageM n (k+1) M) sr sc (lead (rowF M) (k+1)) (lead (rowF M) k):=by
   refine ⟨by omega,by rw [←hm];exact hsS,hTs,fun i hi=>?_,by omega,e00.symm,⟨sp1,sp2⟩,hP.ne k (Nat.le_refl _),fun i j hi hj=>hbig i j (by omega) (by omega),fun i hi=>hlow i (by omega),hq⟩
   obtain ⟨c',hc'⟩:=hsr i (by omega)
   rw [hsS.row i (by omega),hm] at hc'
   exact ⟨c',hc'⟩
  simp only [r46_10,SS,reduceIte,Nat.reduceEqDiff]
  have hb0:[some (List.replicate m (AV.vec [] 0 (some 0)))]=bH m m []:=rfl
  rw [hb0]
  refine lStage_out hF (by simp only [upd_app,Nat.reduceEqDiff,if_false,e3,hm]) (by simp only [upd_app,Nat.reduceEqDiff,if_false,e4]) (by simp only [upd_app,Nat.reduceEqDiff,reduceIte,if_false,e00]) (by simp only [upd_app,Nat.reduceEqDiff,reduceIte,if_false]) (by simp only [upd_app,Nat.reduceEqDiff,reduceIte,if_false]) (by simp only [upd_app,Nat.reduceEqDiff,reduceIte,if_false]) ?_
  intro E' f3 f4 f5 f6
  obtain ⟨c1,hc1⟩:=hF.val 1 (by omega)
  have l1:=hF.shS.row 1 (by omega)
  have g10:(i64z ((stageM n k M).getD 1 [])).getD 0 .junk= .int .i64 (ent (stageM n k M) 1 0):=i64z_getD _ 0 (by omega) _
  have lT:=hTs.row 0 (by omega)
  have gT:(i64z ((stageM n (k+1) M).getD 0 [])).getD 0 .junk= .int .i64 (ent (stageM n (k+1) M) 0 0):=i64z_getD _ 0 (by omega) _
  have eT:ent (stageM n (k+1) M) 0 0=lead (rowF M) (k+2):=by rw [stage_ent (by omega) (by omega),lead_stg (rowF M) (k+1)]
  have eL:ent (stageM n k M) 1 0=stg (rowF M) k (k+1) k:=by rw [stage_ent (by omega) (by omega)];rfl
  have go:getB (bH m m (stageM n (k+1) M)) 0=some (outS m m m):=by rw [bH_outer,hTs.len]
  have gol:=outS_len (N:=m) (n:=m) (i:=m) (Nat.le_refl _)
  have gog:=outS_get (N:=m) (n:=m) (i:=m) (k:=0) (by omega)
  have gr:=bH_row (N:=m) (n:=m) (i:=0) (rows:=stageM n (k+1) M) (by rw [hTs.len];omega)
  have nb:=next_bound n8 hsym hbnd hP hk1 sp1 sp2 sz (i:=k+1) (j:=k+1) hk1 hk1 (by omega) (by omega)
  rw [←lead_stg] at nb
  have lk:=hP.lt' k (Nat.le_refl _)
  have lk0:=hP.pos' k (Nat.le_refl _)
  have sl:=sz (k+1) hk1 (by omega)
  have p1:=mul_abs64 (x:=lead (rowF M) k) (y:=lead (rowF M) (k+2)) (a:=65536) (b:=34359738368) (by omega) (by omega) nb.1 nb.2
  have p2:=mul_abs64 (x:=stg (rowF M) k (k+1) k) (y:=stg (rowF M) k (k+1) k) (a:=65536) (b:=65536) (by omega) (by omega) (by omega) (by omega)
  have p3:=mul_abs64 (x:=3*lead (rowF M) (k+1)) (y:=lead (rowF M) (k+1)) (a:=262144) (b:=65536) (by omega) (by omega) (by omega) (by omega)
  have w2:IntKind.i64.wrap (lead (rowF M) k*lead (rowF M) (k+2))=lead (rowF M) k*lead (rowF M) (k+2):=w64 (by omega) (by omega)
  have w3:IntKind.i64.wrap (stg (rowF M) k (k+1) k*stg (rowF M) k (k+1) k)=stg (rowF M) k (k+1) k*stg (rowF M) k (k+1) k:=w64 (by omega) (by omega)
  have w4:IntKind.i64.wrap (lead (rowF M) k*lead (rowF M) (k+2)+stg (rowF M) k (k+1) k*stg (rowF M) k (k+1) k)=lead (rowF M) k*lead (rowF M) (k+2)+stg (rowF M) k (k+1) k*stg (rowF M) k (k+1) k:=w64 (by omega) (by omega)
  have w5:IntKind.i64.wrap (4*(lead (rowF M) k*lead (rowF M) (k+2)+stg (rowF M) k (k+1) k*stg (rowF M) k (k+1) k))=4*(lead (rowF M) k*lead (rowF M) (k+2)+stg (rowF M) k (k+1) k*stg (rowF M) k (k+1) k):=w64 (by omega) (by omega)
  have w6:IntKind.i64.wrap (3*lead (rowF M) (k+1))=3*lead (rowF M) (k+1):=w64 (by omega) (by omega)
  have w7:IntKind.i64.wrap (3*lead (rowF M) (k+1)*lead (rowF M) (k+1))=3*lead (rowF M) (k+1)*lead (rowF M) (k+1):=w64 (by omega) (by omega)
  have hlenS:=hF.len
  simp only [SS,forall_const,reduceCtorEq,reduceIte,Nat.reduceAdd,Nat.reduceEqDiff,Nat.reduceLeDiff,r46_21,r46_22,f3,f4,f5,f6,hc1,hlenS,l1,g10,i64z_len,Int.toNat_zero,Int.toNat_one,go,gol,gog,gr,lT,gT,eT,eL,w2,w3,w4,w5,w6,w7]
  have assoc:3*lead (rowF M) (k+1)*lead (rowF M) (k+1)=3*(lead (rowF M) (k+1)*lead (rowF M) (k+1)):=Int.mul_assoc _ _ _
  refine ⟨⟨by omega,by omega⟩,by omega,⟨by omega,by omega⟩,⟨by omega,by omega⟩,by omega,⟨by omega,by omega⟩,by omega,fun hno=>?_,fun hyes=>?_⟩
  ·have hbf:=no (fun e=>by
    obtain ⟨_,_,_,r4⟩:=e.2.part hk1
    omega)
   subst hbf
   simp only [r46_23,SS]
   exact ⟨.inl trivial,_,rfl,.drop _ _ rfl (by intro i cs h;omega)⟩
  ·obtain ⟨q,rfl⟩:∃q',q=q'+1:=⟨q-1,by omega⟩
   have hP':=hP.next sp1 sp2 sz (by omega)
   have hnk:n-(k+1)=m:=by omega
   have key3:∀E:Env,E 3= .sl 0 0 m 1 (some m)→frzE 0 3 (bH m m (stageM n (k+1) M)) E 3= .vec (rowsV m (stageM n (k+1) M)) (n-(k+1)) (some m):=by
    intro E h
    unfold frzE
    rw [h,if_neg (by simp [AV.under]),bH_frz hTs.len hTs.row,hnk]
    rfl
   have key4:∀(E:Env) (z:Int),E 4= .int .i64 z→frzE 0 3 (bH m m (stageM n (k+1) M)) E 4= .int .i64 z:=by
    intro E z h
    unfold frzE
    rw [h]
    rfl
   have hfit:∀i j,In64 (ent (stageM n (k+1) M) i j):=by
    intro i j
    by_cases hij:i<m∧j<m
    ·rw [stage_ent (by omega) (by omega)]
     have:=next_bound n8 hsym hbnd hP hk1 sp1 sp2 sz (i:=k+1+i) (j:=k+1+j) (by omega) (by omega) (by omega) (by omega)
     unfold In64;omega
    ·rw [hTs.out (by omega)]
     unfold In64;omega
   have hV':=imV_rows (N:=m) (n:=m) (c:=some m) hTs.len hTs.row hfit
   simp only [r46_24,SS,reduceIte,Nat.reduceEqDiff,f5,f6]
   refine ⟨q,frzE 0 3 (bH m m (stageM n (k+1) M)) _,List.take 0 (bH m m (stageM n (k+1) M)),by omega,⟨k+1,rowsV m (stageM n (k+1) M),some m,by omega,hP',by rw [hnk];exact hV',key3 _ (by simp only [upd_app,Nat.reduceEqDiff,reduceIte,if_false]),key4 _ _ (by simp only [upd_app,Nat.reduceEqDiff,reduceIte,if_false]),rfl⟩,weak_frz 0 3 (Nat.le_refl _) (Nat.zero_le _) (fun i cs h=>absurd h (by omega))⟩
 ·have hkn:k+1=n:=by omega
  have eN:ent (stageM n k M) 0 0=lead (rowF M) n:=by rw [e00,hkn]
  have hfit0:=hV.fit 0 0
  simp only [r46_25,SS,forall_const,reduceIte,Nat.reduceEqDiff,e3,hc0,hsl,l0,g00,i64z_len,Int.toNat_zero,eN]
  have hkk:k=n-1:=by omega
  rw [hkk] at hP
  refine ⟨⟨by omega,by omega⟩,by omega,⟨by omega,by omega⟩,by omega,fun hpos=>⟨⟨by omega,by omega⟩,by omega,⟨by omega,by omega⟩,by omega,?_⟩,fun hneg=>?_⟩
  ·have hbv:b=decide (lead (rowF M) n≤10000):=by
    by_cases hd:lead (rowF M) n≤10000
    ·rw [decide_eq_true hd]
     exact hb.2 ⟨by unfold SmallP;rw [hn];exact ⟨n1,n8,hsh,hent⟩,hP.red n1 n8 hsym hpos hd⟩
    ·rw [decide_eq_false hd]
     exact no (fun e=>hd e.2.small)
   subst hbv
   exact ⟨.inl trivial,_,rfl,.drop _ _ rfl (by intro i cs h;omega)⟩
  ·have hbf:=no (fun e=>by have:=e.2.pos' n (Nat.le_refl _);omega)
   subst hbf
   have d0:decide (0<lead (rowF M) n)=false:=decide_eq_false hneg
   simp only [d0]
   exact ⟨.inl trivial,_,rfl,.drop _ _ rfl (by intro i cs h;omega)⟩
end Go.Proofs.YtenboapacjlmoaaGreatDoor
namespace Go.Proofs.YtenboapacjlmoaaGreatDoor
set_option linter.unusedSimpArgs false
set_option linter.unusedVariables false
open Go Go.AL Go.Proofs Go.Det
set_option maxRecDepth 100000
theorem red_entry {n:Nat} {M:List (List Int)} (hS:Shp n M) (h:Red n (rowF M)) (i j:Nat):ent M i j≤180224∧ -180224≤ent M i j:=by
 by_cases hi:i<n∧j<n
 ·exact h.entry hi.1 hi.2
 ·rw [hS.out (by omega)];omega
theorem red_in64 {n:Nat} {M:List (List Int)} (hS:Shp n M) (h:Red n (rowF M)) (i j:Nat):In64 (ent M i j):=by
 have:=red_entry hS h i j
 unfold In64;omega
theorem red_small {n:Nat} {M:List (List Int)} (hS:Shp n M) (h:Red n (rowF M)):SmallP M:=by
 have hl:=hS.len
 refine ⟨by rw [hl];exact h.n1,by rw [hl];exact h.n8,by rw [hl];exact hS,fun i j hi hj=>?_⟩
 rw [hl] at hi hj
 have:=red_entry hS h i j
 exact ⟨h.sym i j hi hj,by omega,by omega⟩
theorem redIs {n:Nat} {M:List (List Int)} (hS:Shp n M) (h:Red n (rowF M)):Ret Tryz.prog G 46 [.vec (rowsV n M) n (some n)] [] (.bool true) []:=by
 have h8:=h.n8
 have hIm:ImV M (.vec (rowsV n M) n (some n)):=imV_rows hS.len hS.row (red_in64 hS h)
 refine lIsReduced hIm (by rw [hS.len];omega) (fun i hi=>by rw [hS.row i (by rw [hS.len] at hi;exact hi)];omega) ⟨fun _=>⟨red_small hS h,by rw [hS.len];exact h⟩,fun _=>rfl⟩
theorem sgCountsRed {n p e:Nat} {M:List (List Int)} (hS:Shp n M) (h:Red n (rowF M)) (hp:2≤p) (hp2:p≤9973) (hpr:Ret Tryz.prog G 47 [.int .i64 (p:Int)] [] (.bool true) []) (he:1≤e) (he2:e<2^40) (hpow:(p^e)^n≤2097152):
  ∃fin:List Nat,fin.length=p^e∧(∀t,fin.getD t 0=(Count.allV (p^e) n).countP fun y=>decide (Count.nrm (gN n M (p^e)) n y%(p^e)=t))∧
   Ret Tryz.prog G 6 [.vec (rowsV n M) n (some n),.int .i64 (p:Int),.int .i64 (e:Int)] [] (.tup [.vec (ints fin) (p^e) (some (p^e)),.int .i64 0]) []:=by
 have n1:=h.n1
 have n8:=h.n8
 have hm:2≤p^e:=by
  have:=Nat.pow_le_pow_right (n:=p) (by omega) he
  rw [Nat.pow_one] at this;omega
 have hm2:p^e≤2097152:=Nat.le_trans (by have:=Nat.pow_le_pow_right (n:=p^e) (by omega) n1;rwa [Nat.pow_one] at this) hpow
 obtain ⟨fin,h1,h2,h3⟩:=sgCountM hS (fun i j hi hj=>h.sym i j hi hj) (red_in64 hS h) ⟨n1,n8⟩ hm hm2 (Nat.lt_of_le_of_lt hpow (by decide))
 have hIm:ImV M (.vec (rowsV n M) n (some n)):=imV_rows hS.len hS.row (red_in64 hS h)
 have hck:=sgCheck (redIs hS h) hIm.closed (p:=(p:Int)) (by omega) hpr
 refine ⟨fin,h1,h2,sgCounts hIm.closed hck (by omega) he he2 n1 (by omega) hpow h3 ?_⟩
 simp only [AV.closed]
end Go.Proofs.YtenboapacjlmoaaGreatDoor
namespace Go.Proofs.YtenboapacjlmoaaGreatDoor
set_option linter.unusedSimpArgs false
set_option linter.unusedVariables false
open Go Go.AL Go.Proofs
set_option maxRecDepth 100000
theorem gN_mod {n m c:Nat} {M:List (List Int)} (hm:0<m) (hc:0<c) {i j:Nat} (hi:i<n) (hj:j<n):Count.ent (gN n M (m*c)) i j%m=Count.ent (gN n M m) i j%m:=by
 rw [gN_ent,gN_ent]
 unfold modM
 rw [ent_mk hi hj,ent_mk hi hj]
 have hmc:0<m*c:=Nat.mul_pos hm hc
 have h1:=Int.emod_nonneg (ent M i j) (show ((m*c:Nat):Int)≠0 by omega)
 have h2:=Int.emod_nonneg (ent M i j) (show ((m:Nat):Int)≠0 by omega)
 have hd:((m:Nat):Int)∣((m*c:Nat):Int):=⟨(c:Int),by rw [Int.natCast_mul]⟩
 have e:=Int.emod_emod_of_dvd (ent M i j) hd
 have e2:(ent M i j%((m:Nat):Int))%((m:Nat):Int)=ent M i j%((m:Nat):Int):=Int.emod_emod_of_dvd _ (Int.dvd_refl _)
 generalize ent M i j%((m*c:Nat):Int)=x at*
 generalize ent M i j%((m:Nat):Int)=y at*
 obtain ⟨a,rfl⟩:=Int.eq_ofNat_of_zero_le h1
 obtain ⟨b,rfl⟩:=Int.eq_ofNat_of_zero_le h2
 show a%m=b%m
 omega
end Go.Proofs.YtenboapacjlmoaaGreatDoor
namespace Go.Proofs.YtenboapacjlmoaaGreatDoor
set_option linter.unusedSimpArgs false
set_option linter.unusedVariables false
open Go Go.AL Go.Proofs
set_option maxRecDepth 100000
theorem sum_coarse {n p e:Nat} {M:List (List Int)} (hp:0<p) {ca cb:List Nat} (ha:∀t,ca.getD t 0=(Count.allV (p^e) n).countP fun y=>decide (Count.nrm (gN n M (p^e)) n y%(p^e)=t))
  (hb:∀t,cb.getD t 0=(Count.allV (p^(e+1)) n).countP fun y=>decide (Count.nrm (gN n M (p^(e+1))) n y%(p^(e+1))=t)) {t:Nat} (ht:t<p^e):
  Count.sumN (fun i=>if i%p^e=t then cb.getD i 0 else 0) (p^(e+1))=p^n*ca.getD t 0:=by
 have hpe:0<p^e:=Nat.pow_pos hp
 rw [Nat.pow_succ] at hb ⊢
 exact Count.coarse (a:=[]) (b:=[]) (g:=gN n M (p^e)) (g':=gN n M (p^e*p)) hpe hp (fun i j hi hj=>gN_mod hpe hp hi hj) ha hb ht
theorem sum_total {n p e:Nat} {M:List (List Int)} (hp:0<p) {ca:List Nat} (ha:∀t,ca.getD t 0=(Count.allV (p^e) n).countP fun y=>decide (Count.nrm (gN n M (p^e)) n y%(p^e)=t)):
  Count.sumN (fun i=>ca.getD i 0) (p^e)=p^(e*n):=by
 rw [Count.total (Nat.pow_pos hp) ha,Nat.pow_mul]
end Go.Proofs.YtenboapacjlmoaaGreatDoor
namespace Go.Proofs.YtenboapacjlmoaaGreatDoor
set_option linter.unusedSimpArgs false
set_option linter.unusedVariables false
open Go Go.AL Go.Proofs
set_option maxRecDepth 100000
def foldL (M:Nat) (cb:List Nat):Nat→List Nat
 | 0=>List.replicate M 0
 | k+1=>(foldL M cb k).set (k%M) ((foldL M cb k).getD (k%M) 0+cb.getD k 0)
theorem foldL_len (M:Nat) (cb:List Nat):∀k,(foldL M cb k).length=M
 | 0=>by simp [foldL]
 | k+1=>by simp [foldL,foldL_len M cb k]
theorem foldL_get {M:Nat} (hM:0<M) (cb:List Nat) {t:Nat} (ht:t<M):∀k,(foldL M cb k).getD t 0=Count.sumN (fun i=>if i%M=t then cb.getD i 0 else 0) k
 | 0=>by simp [foldL,Count.sumN,List.getD_eq_getElem?_getD,ht]
 | k+1=>by
  have ih:=foldL_get hM cb ht k
  have hl:=foldL_len M cb k
  have hk:=Nat.mod_lt k hM
  show ((foldL M cb k).set (k%M) ((foldL M cb k).getD (k%M) 0+cb.getD k 0)).getD t 0=Count.sumN (fun i=>if i%M=t then cb.getD i 0 else 0) k+(if k%M=t then cb.getD k 0 else 0)
  rw [Count.getD_set (by omega)]
  by_cases e:t=k%M
  ·rw [if_pos e,if_pos e.symm,←e,ih]
  ·rw [if_neg e,if_neg (fun h=>e h.symm),ih,Nat.add_zero]
end Go.Proofs.YtenboapacjlmoaaGreatDoor
namespace Go.Proofs.YtenboapacjlmoaaGreatDoor
set_option linter.unusedSimpArgs false
set_option linter.unusedVariables false
open Go Go.AL Go.Proofs
set_option maxRecDepth 100000
def r3_0:List COp:=[oP 3 (.box (.t 0)),oP 6 (.mov (.k (.bool false)))]
def r3_1:List COp:=[oP 20 (.load true 4 (.t 3)),oP 21 (.call 5 [.t 20,(kI 3)]),mV 7 21]
def r3_2:List COp:=[oP 22 (.bsl 3 1 [(.int .i64 0),(.int .i64 0),(.int .i64 0)] [(0,(1,(kI 2))),(1,(1,(kI 3))),(2,(1,(kI 5)))]),mV 23 1,oP 24 (.bin .rem (.t 23) (.k (.int .u8 3))),oP 25 (.idx 1 (.t 22) (.t 24)),oP 26 (.load false 1 (.t 25)),mV 8 26]
def r3_3:List COp:=[mV 27 2,oP 28 (.conv .i64 (.t 27)),oP 29 (.bin .rem (.t 28) (kI 2)),oP 30 (.bin .add (kI 1) (.t 29)),mV 9 30]
def r3_4:List COp:=[mV 32 7,mV 33 8,mV 34 9,oP 35 (.call 6 [.t 32,.t 33,.t 34]),mV 31 35,oP 36 (.ext (.t 31) 0),oP 37 (.ext (.t 31) 1),mV 10 36,mV 11 37]
def r3_5:List COp:=[mV 39 7,mV 40 8,mV 41 9,oP 42 (.bin .add (.t 41) (kI 1)),oP 43 (.call 6 [.t 39,.t 40,.t 42]),mV 38 43,oP 44 (.ext (.t 38) 0),oP 45 (.ext (.t 38) 1),mV 12 44,mV 13 45]
def r3_6:List COp:=[mV 46 11,oP 47 (.bin .neq (.t 46) (kI 0)),mV 48 47,gU 49 48 false (.mov (.t 13)),gU 50 48 false (.bin .neq (.t 49) (kI 0)),oP 51 (.pick (.t 48) (.k (.bool true)) (.t 50)),mV 52 51,gU 53 52 false (.mov (.t 10)),gU 54 52 false (.len false (.t 53)),gU 55 52 false (.mov (.t 8)),gU 56 52 false (.mov (.t 9)),gU 57 52 false (.call 7 [.t 55,.t 56,(kI 1000)]),gU 58 52 false (.bin .neq (.t 54) (.t 57)),oP 59 (.pick (.t 52) (.k (.bool true)) (.t 58)),mV 60 59,gU 61 60 false (.mov (.t 12)),gU 62 60 false (.len false (.t 61)),gU 63 60 false (.mov (.t 8)),gU 64 60 false (.mov (.t 9)),gU 65 60 false (.bin .add (.t 64) (kI 1)),gU 66 60 false (.call 7 [.t 63,.t 65,(kI 1000)]),gU 67 60 false (.bin .neq (.t 62) (.t 66)),oP 68 (.pick (.t 60) (.k (.bool true)) (.t 67))]
def r3_7:List COp:=[oP 6 (.mov (.k (.bool false)))]
def r3_8:List COp:=[oP 14 (.mov (kI 0))]
def r3_9:List COp:=[mV 69 10,oP 70 (.len false (.t 69)),oP 71 (.mksl 1 8 [(.int .i64 0)] (.t 70) (.t 70)),mV 15 71]
def r3_10:List COp:=[mV 72 12,oP 73 (.len false (.t 72)),oP 74 (.mov (kI 0))]
def r3_11:List COp:=[oP 75 (.bin .lss (.t 74) (.t 73))]
def r3_12:List COp:=[mV 76 74,oP 77 (.idx 1 (.t 72) (.t 74)),oP 78 (.load false 1 (.t 77)),mV 16 76,mV 17 78]
def r3_13:List COp:=[mV 79 15,mV 80 16,mV 81 10,oP 82 (.len false (.t 81)),oP 83 (.bin .rem (.t 80) (.t 82)),oP 84 (.idx 1 (.t 79) (.t 83)),oP 85 (.load false 1 (.t 84)),mV 86 17,oP 87 (.bin .add (.t 85) (.t 86)),oP 88 (.idx 1 (.t 79) (.t 83)),sT (.store 1 (.t 88) (.t 87))]
def r3_14:List COp:=[oP 89 (.bin .add (.t 74) (kI 1)),mV 74 89]
def l3_0:CC:=(.seq (.reg r3_11 none) (.seq (.cond (.t 75) .skip (.exit 0)) (.seq (.block 1 (.seq (.reg r3_12 none) (.reg r3_13 none))) (.reg r3_14 none))))
def r3_15:List COp:=[mV 90 10,oP 91 (.len false (.t 90)),oP 92 (.mov (kI 0))]
def r3_16:List COp:=[oP 93 (.bin .lss (.t 92) (.t 91))]
def r3_17:List COp:=[mV 94 92,oP 95 (.idx 1 (.t 90) (.t 92)),oP 96 (.load false 1 (.t 95)),mV 18 94,mV 19 96]
def r3_18:List COp:=[mV 97 14,mV 98 19,oP 99 (.bin .add (.t 97) (.t 98)),mV 14 99]
def r3_19:List COp:=[mV 100 15,mV 101 18,oP 102 (.idx 1 (.t 100) (.t 101)),oP 103 (.load false 1 (.t 102)),mV 104 19,mV 105 8,mV 106 7,oP 107 (.len false (.t 106)),oP 108 (.call 7 [.t 105,.t 107,(kI 1000)]),oP 109 (.bin .mul (.t 104) (.t 108)),oP 110 (.bin .neq (.t 103) (.t 109))]
def r3_20:List COp:=[oP 6 (.mov (.k (.bool false)))]
def r3_21:List COp:=[oP 111 (.bin .add (.t 92) (kI 1)),mV 92 111]
def l3_1:CC:=(.seq (.reg r3_16 none) (.seq (.cond (.t 93) .skip (.exit 2)) (.seq (.block 3 (.seq (.reg r3_17 none) (.seq (.reg r3_18 none) (.seq (.reg r3_19 (some [(3,8)])) (.cond (.t 110) (.seq (.reg r3_20 none) .ret) .skip))))) (.reg r3_21 none))))
def r3_22:List COp:=[mV 112 14,mV 113 8,mV 114 9,mV 115 7,oP 116 (.len false (.t 115)),oP 117 (.bin .mul (.t 114) (.t 116)),oP 118 (.call 7 [.t 113,.t 117,(kI 2097152)]),oP 119 (.bin .eql (.t 112) (.t 118)),mV 120 119,gU 121 120 true (.call 8 []),oP 122 (.pick (.t 120) (.t 121) (.k (.bool false))),mV 6 122]
def c3:CC:=(.seq (.reg r3_0 none) (.seq (.reg r3_1 none) (.seq (.reg r3_2 none) (.seq (.reg r3_3 none) (.seq (.reg r3_4 none) (.seq (.reg r3_5 none) (.seq (.seq (.reg r3_6 none) (.cond (.t 68) (.seq (.reg r3_7 none) .ret) .skip)) (.seq (.reg r3_8 none) (.seq (.reg r3_9 none) (.seq (.seq (.reg r3_10 none) (.block 0 (.loop l3_0))) (.seq (.seq (.reg r3_15 none) (.block 2 (.loop l3_1))) (.seq (.reg r3_22 none) .ret))))))))))))
theorem comp3:CmpC Tryz.prog G Tryz.f3=some c3:=by kernel_rfl
theorem res3:Tryz.f3.results.toList=[(.tmp 6)]:=by kernel_rfl
theorem nt3:Tryz.f3.ntmps=123:=by kernel_rfl
end Go.Proofs.YtenboapacjlmoaaGreatDoor
namespace Go.Proofs.YtenboapacjlmoaaGreatDoor
set_option linter.unusedSimpArgs false
set_option linter.unusedVariables false
open Go Go.AL Go.Proofs
set_option maxRecDepth 100000
theorem sumFold {N M:Nat} {ca cb:List Nat} {k1 k2:Option Nat} {P P2:List AV} (hM:0<M) (hM2:M<2^40) (hla:ca.length=M) (hlb:cb.length=N) (hN:N<2^40) (hbd:∀k i,k≤N→(foldL M cb k).getD i 0<2^62) (hbb:∀i,cb.getD i 0<2^62)
  {v3 v7 v8 v9 v14:AV} {E:Env} {Q:Post} (e3:E 3=v3) (e7:E 7=v7) (e8:E 8=v8) (e9:E 9=v9) (e14:E 14=v14) (e10:E 10= .vec (ints ca) M k1) (e15:E 15= .sl 2 0 M 1 (some M)) (e72:E 72= .vec (ints cb) N k2) (e73:E 73= .int .i64 (N:Int)) (e74:E 74= .int .i64 0)
  (hQ:∀E',E' 3=v3→E' 7=v7→E' 8=v8→E' 9=v9→E' 14=v14→E' 10= .vec (ints ca) M k1→E' 15= .sl 2 0 M 1 (some M)→Q (.exit 0) E' [some P,some P2,some (ints (foldL M cb N))]):
  W Tryz.prog G 0 123 (.loop l3_0) E [some P,some P2,some (ints (foldL M cb 0))] Q:=by
 refine W_loop (fun q E H=>∃i:Nat,i+q=N∧H=[some P,some P2,some (ints (foldL M cb i))]∧E 3=v3∧E 7=v7∧E 8=v8∧E 9=v9∧E 14=v14∧E 10= .vec (ints ca) M k1∧E 15= .sl 2 0 M 1 (some M)∧E 72= .vec (ints cb) N k2∧E 73= .int .i64 (N:Int)∧E 74= .int .i64 (i:Int)) (n:=N)
  ⟨0,by omega,rfl,e3,e7,e8,e9,e14,e10,e15,e72,e73,e74⟩ ?_
 clear e3 e7 e8 e9 e14 e10 e15 e72 e73 e74 E
 rintro q E H ⟨i,hiq,rfl,e3,e7,e8,e9,e14,e10,e15,e72,e73,e74⟩
 refine wpC_sound mixed ?_
 simp only [l3_0,r3_11,SS,reduceIte,e73,e74]
 refine ⟨fun hlt=>?_,fun hge=>?_⟩
 ·obtain ⟨q,rfl⟩:∃q',q=q'+1:=⟨q-1,by omega⟩
  have hi:i<N:=by omega
  have gb:=ints_getD cb i (by omega) AV.junk
  have hl:=foldL_len M cb i
  have hk:=Nat.mod_lt i hM
  have gf:=ints_getD (foldL M cb i) (i%M) (by omega) AV.junk
  have et:Int.tmod (i:Int) (M:Int)=((i%M:Nat):Int):=by rw [Int.tmod_eq_emod_of_nonneg (by omega)];rfl
  have w1:IntKind.i64.wrap ((i%M:Nat):Int)=((i%M:Nat):Int):=wrapN (by omega)
  have hb1:=hbd i (i%M) (by omega)
  have hb2:=hbb i
  have es:(((foldL M cb i).getD (i%M) 0:Nat):Int)+((cb.getD i 0:Nat):Int)=(((foldL M cb i).getD (i%M) 0+cb.getD i 0:Nat):Int):=by omega
  have w2:IntKind.i64.wrap (((foldL M cb i).getD (i%M) 0+cb.getD i 0:Nat):Int)=(((foldL M cb i).getD (i%M) 0+cb.getD i 0:Nat):Int):=wrapN (by omega)
  have w5:IntKind.i64.wrap ((i:Int)+1)=((i+1:Nat):Int):=by rw [show (i:Int)+1=((i+1:Nat):Int) by omega];exact wrapN (by omega)
  simp only [r3_12,r3_13,SS,forall_const,reduceIte,Nat.reduceEqDiff,e10,e15,e72,e74,et,Int.toNat_natCast,gb,gf,ints_len,hl,hlb,es,w2,ints_set]
  refine ⟨⟨by omega,by omega⟩,by omega,by omega,⟨by omega,by omega⟩,by omega,⟨by omega,by omega⟩,by omega,?_⟩
  simp only [r3_14,SS,reduceIte,Nat.reduceEqDiff,e74,w5]
  refine ⟨q,_,_,by omega,⟨i+1,by omega,rfl,?_,?_,?_,?_,?_,?_,?_,?_,?_,?_⟩,.refl⟩
  all_goals simp only [upd_app,Nat.reduceEqDiff,reduceIte,if_false, *]
 ·have hin:i=N:=by omega
  subst hin
  exact hQ _ (by simp only [upd_app,Nat.reduceEqDiff,if_false,e3]) (by simp only [upd_app,Nat.reduceEqDiff,if_false,e7]) (by simp only [upd_app,Nat.reduceEqDiff,if_false,e8]) (by simp only [upd_app,Nat.reduceEqDiff,if_false,e9]) (by simp only [upd_app,Nat.reduceEqDiff,if_false,e14]) (by simp only [upd_app,Nat.reduceEqDiff,if_false,e10]) (by simp only [upd_app,Nat.reduceEqDiff,if_false,e15])
end Go.Proofs.YtenboapacjlmoaaGreatDoor
namespace Go.Proofs.YtenboapacjlmoaaGreatDoor
set_option linter.unusedSimpArgs false
set_option linter.unusedVariables false
open Go Go.AL Go.Proofs
set_option maxRecDepth 100000
def r7_0:List COp:=[oP 6 (.mov (kI 0))]
def r7_1:List COp:=[oP 7 (.mov (kI 1))]
def r7_2:List COp:=[oP 8 (.mov (kI 0))]
def r7_3:List COp:=[mV 9 8,mV 10 1,oP 11 (.bin .lss (.t 9) (.t 10)),mV 12 11,gU 13 12 true (.mov (.t 7)),gU 14 12 true (.mov (.t 2)),gU 15 12 true (.bin .leq (.t 13) (.t 14)),oP 16 (.pick (.t 12) (.t 15) (.k (.bool false)))]
def r7_4:List COp:=[mV 19 7,mV 20 0,oP 21 (.bin .mul (.t 19) (.t 20)),mV 7 21]
def r7_5:List COp:=[mV 17 8,oP 18 (.bin .add (.t 17) (kI 1)),mV 8 18]
def l7_0:CC:=(.seq (.seq (.reg r7_3 none) (.cond (.t 16) .skip (.exit 0))) (.seq (.block 1 (.reg r7_4 none)) (.reg r7_5 none)))
def r7_6:List COp:=[mV 22 7,mV 6 22]
def c7:CC:=(.seq (.reg r7_0 none) (.seq (.reg r7_1 none) (.seq (.seq (.reg r7_2 none) (.block 0 (.loop l7_0))) (.seq (.reg r7_6 none) .ret))))
theorem comp7:CmpC Tryz.prog G Tryz.f7=some c7:=by kernel_rfl
theorem res7:Tryz.f7.results.toList=[(.tmp 6)]:=by kernel_rfl
theorem nt7:Tryz.f7.ntmps=23:=by kernel_rfl
end Go.Proofs.YtenboapacjlmoaaGreatDoor
namespace Go.Proofs.YtenboapacjlmoaaGreatDoor
set_option linter.unusedSimpArgs false
set_option linter.unusedVariables false
open Go Go.AL Go.Proofs
set_option maxRecDepth 100000
theorem laPower {p e cap:Nat} (hp:1≤p) (h:p^e≤cap) (hc:cap≤2097152) (hp2:p≤2097152) (he:e<2^40):Ret Tryz.prog G 7 [.int .i64 (p:Int),.int .i64 (e:Int),.int .i64 (cap:Int)] [] (.int .i64 ((p^e:Nat):Int)) []:=by
 have hle:∀i,i≤e→p^i≤cap:=fun i hi=>Nat.le_trans (Nat.pow_le_pow_right hp hi) h
 refine Ret_of mixed Tryz.func7 comp7 _ 23 res7 nt7 (by simp) (by simp) ?_
 simp only [c7,r7_0,r7_1,r7_2,SS,reduceCtorEq]
 refine W_loop (fun q E H=>∃i:Nat,i+q=e∧H=[]∧E 0= .int .i64 (p:Int)∧E 1= .int .i64 (e:Int)∧E 2= .int .i64 (cap:Int)∧E 7= .int .i64 ((p^i:Nat):Int)∧E 8= .int .i64 (i:Int)) (n:=e)
  ⟨0,by omega,rfl,by simp only [upd_app,argsE_app,List.getD_cons_zero,Nat.reduceEqDiff,if_false],by simp only [upd_app,argsE_app,List.getD_cons_zero,List.getD_cons_succ,Nat.reduceEqDiff,if_false],by simp only [upd_app,argsE_app,List.getD_cons_zero,List.getD_cons_succ,Nat.reduceEqDiff,if_false],by simp only [upd_app,argsE_app,List.getD_cons_succ,Nat.reduceEqDiff,reduceIte,if_false];rfl,by simp only [upd_app,argsE_app,List.getD_cons_succ,Nat.reduceEqDiff,reduceIte,if_false];rfl⟩ ?_
 rintro q E H ⟨i,hiq,rfl,e0,e1,e2,e7,e8⟩
 refine wpC_sound mixed ?_
 rcases (by omega:i<e∨i=e) with hlt | rfl
 ·obtain ⟨q,rfl⟩:∃q',q=q'+1:=⟨q-1,by omega⟩
  have hs:=hle (i+1) (by omega)
  have hs0:=hle i (by omega)
  have em:((p^i:Nat):Int)*(p:Int)=((p^(i+1):Nat):Int):=by rw [Nat.pow_succ];exact (Int.natCast_mul _ _).symm
  have w5:IntKind.i64.wrap ((i:Int)+1)=((i+1:Nat):Int):=by rw [show (i:Int)+1=((i+1:Nat):Int) by omega];exact wrapN (by omega)
  have w6:IntKind.i64.wrap ((p^(i+1):Nat):Int)=((p^(i+1):Nat):Int):=wrapN (by omega)
  have d1:decide ((i:Int)<(e:Int))=true:=decide_eq_true (by omega)
  have d2:decide (((p^i:Nat):Int)≤(cap:Int))=true:=decide_eq_true (by omega)
  simp only [l7_0,r7_3,SS,forall_const,reduceCtorEq,reduceIte,Nat.reduceEqDiff,e1,e2,e7,e8,d1,d2]
  simp only [r7_4,r7_5,SS,reduceCtorEq,reduceIte,Nat.reduceEqDiff,e0,e7,e8,em,w5,w6]
  refine ⟨q,_,_,by omega,⟨i+1,by omega,rfl,?_,?_,?_,?_,?_⟩,.refl⟩
  all_goals simp only [upd_app,Nat.reduceEqDiff,reduceIte,if_false, *]
 ·have d1:decide ((i:Int)<(i:Int))=false:=decide_eq_false (by omega)
  simp only [l7_0,r7_3,SS,forall_const,reduceCtorEq,reduceIte,Nat.reduceEqDiff,e1,e2,e7,e8,d1]
  simp only [r7_6,SS,reduceIte,Nat.reduceEqDiff,e7]
  exact ⟨.inl trivial,_,rfl,.keep _ _⟩
end Go.Proofs.YtenboapacjlmoaaGreatDoor
namespace Go.Proofs.YtenboapacjlmoaaGreatDoor
set_option linter.unusedSimpArgs false
set_option linter.unusedVariables false
open Go Go.AL Go.Proofs
set_option maxRecDepth 100000
theorem sumCheck {M p n:Nat} {ca cf:List Nat} {k1:Option Nat} {P P2 rows:List AV} (hM2:M<2^40) (hla:ca.length=M) (hlf:cf.length=M) (hp:1≤p) (hp2:p≤2097152) (hpn:p^n≤1000) (hn:n<2^40)
  (hf:∀t,t<M→cf.getD t 0=p^n*ca.getD t 0) (hb:∀i,i≤M→Count.sumN (fun j=>ca.getD j 0) i<2^50)
  {v9:AV} {E:Env} {Q:Post} (e7:E 7= .vec rows n (some n)) (e8:E 8= .int .i64 (p:Int)) (e9:E 9=v9) (e14:E 14= .int .i64 0) (e15:E 15= .sl 2 0 M 1 (some M)) (e90:E 90= .vec (ints ca) M k1) (e91:E 91= .int .i64 (M:Int)) (e92:E 92= .int .i64 0)
  (hQ:∀E',E' 7= .vec rows n (some n)→E' 8= .int .i64 (p:Int)→E' 9=v9→E' 14= .int .i64 ((Count.sumN (fun j=>ca.getD j 0) M:Nat):Int)→Q (.exit 2) E' [some P,some P2,some (ints cf)]):
  W Tryz.prog G 0 123 (.loop l3_1) E [some P,some P2,some (ints cf)] Q:=by
 have tp:Ret Tryz.prog G 7 [.int .i64 (p:Int),.int .i64 (n:Int),.int .i64 1000] [] (.int .i64 ((p^n:Nat):Int)) []:=laPower (cap:=1000) hp hpn (by decide) hp2 hn
 refine W_loop (fun q E H=>∃i:Nat,i+q=M∧H=[some P,some P2,some (ints cf)]∧E 7= .vec rows n (some n)∧E 8= .int .i64 (p:Int)∧E 9=v9∧E 14= .int .i64 ((Count.sumN (fun j=>ca.getD j 0) i:Nat):Int)∧E 15= .sl 2 0 M 1 (some M)∧E 90= .vec (ints ca) M k1∧E 91= .int .i64 (M:Int)∧E 92= .int .i64 (i:Int)) (n:=M)
  ⟨0,by omega,rfl,e7,e8,e9,e14,e15,e90,e91,e92⟩ ?_
 clear e7 e8 e9 e14 e15 e90 e91 e92 E
 rintro q E H ⟨i,hiq,rfl,e7,e8,e9,e14,e15,e90,e91,e92⟩
 refine wpC_sound mixed ?_
 simp only [l3_1,r3_16,SS,reduceIte,e91,e92]
 refine ⟨fun hlt=>?_,fun hge=>?_⟩
 ·obtain ⟨q,rfl⟩:∃q',q=q'+1:=⟨q-1,by omega⟩
  have hi:i<M:=by omega
  have ga:=ints_getD ca i (by omega) AV.junk
  have gf:=ints_getD cf i (by omega) AV.junk
  have hs:=hb (i+1) (by omega)
  have hS1:Count.sumN (fun j=>ca.getD j 0) (i+1)=Count.sumN (fun j=>ca.getD j 0) i+ca.getD i 0:=rfl
  have hca:ca.getD i 0<2^50:=by omega
  have hfi:=hf i hi
  have hm:p^n*ca.getD i 0≤1000*ca.getD i 0:=Nat.mul_le_mul_right _ hpn
  have es:((Count.sumN (fun j=>ca.getD j 0) i:Nat):Int)+((ca.getD i 0:Nat):Int)=((Count.sumN (fun j=>ca.getD j 0) (i+1):Nat):Int):=by rw [hS1];omega
  have em:((ca.getD i 0:Nat):Int)*((p^n:Nat):Int)=((cf.getD i 0:Nat):Int):=by rw [hfi,Nat.mul_comm];exact (Int.natCast_mul _ _).symm
  have w1:IntKind.i64.wrap ((Count.sumN (fun j=>ca.getD j 0) (i+1):Nat):Int)=((Count.sumN (fun j=>ca.getD j 0) (i+1):Nat):Int):=wrapN (by omega)
  have w2:IntKind.i64.wrap ((cf.getD i 0:Nat):Int)=((cf.getD i 0:Nat):Int):=wrapN (by omega)
  have w5:IntKind.i64.wrap ((i:Int)+1)=((i+1:Nat):Int):=by rw [show (i:Int)+1=((i+1:Nat):Int) by omega];exact wrapN (by omega)
  simp only [r3_17,r3_18,r3_19,SS,forall_const,reduceIte,Nat.reduceEqDiff,e7,e8,e14,e15,e90,e92,Int.toNat_natCast,ga,gf,ints_len,hla,hlf,es,w1]
  refine ⟨⟨by omega,by omega⟩,by omega,⟨by omega,by omega⟩,by omega,?_⟩
  refine callA_pure tp ?_
  simp only [restA,SS,reduceIte,Nat.reduceEqDiff,em,w2,r3_20,r3_21,e92,w5]
  refine ⟨rfl,fun h=>absurd rfl h,fun _=>?_⟩
  refine ⟨q,_,_,by omega,⟨i+1,by omega,rfl,?_,?_,?_,?_,?_,?_,?_,?_⟩,.refl⟩
  all_goals simp only [upd_app,Nat.reduceEqDiff,reduceIte,if_false, *]
 ·have hin:i=M:=by omega
  subst hin
  exact hQ _ (by simp only [upd_app,Nat.reduceEqDiff,if_false,e7]) (by simp only [upd_app,Nat.reduceEqDiff,if_false,e8]) (by simp only [upd_app,Nat.reduceEqDiff,if_false,e9]) (by simp only [upd_app,Nat.reduceEqDiff,if_false,e14])
end Go.Proofs.YtenboapacjlmoaaGreatDoor
namespace Go.Limb
set_option linter.unusedSimpArgs false
set_option linter.unusedVariables false
def dblL:List Nat→Nat→List Nat
 | [],b=>[b]
 | x::r,b=>(2*x%4294967296+b)::dblL r (x/2147483648)
theorem dblL_len:∀(l:List Nat) (b:Nat),(dblL l b).length=l.length+1:=by
 intro l
 induction l with
 | nil=>intro b;rfl
 | cons x r ih=>intro b;simp [dblL,ih]
theorem dblL_val:∀(l:List Nat) (b:Nat),val (dblL l b)=2*val l+b:=by
 intro l
 induction l with
 | nil=>intro b;simp [dblL,val]
 | cons x r ih=>
  intro b
  simp only [dblL,val,ih]
  omega
theorem dblL_dig:∀(l:List Nat) (b:Nat),Dig l→b≤1→Dig (dblL l b):=by
 intro l
 induction l with
 | nil=>intro b _ hb;exact Dig.cons (by omega) Dig.nil
 | cons x r ih=>
  intro b h hb
  have hx:=h.head
  exact Dig.cons (by omega) (ih _ h.tail (by omega))
theorem val_digit:∀(l:List Nat) (w:Nat),Dig l→l.getD w 0=val l/4294967296^w%4294967296:=by
 intro l
 induction l with
 | nil=>intro w _;simp [val]
 | cons x r ih=>
  intro w h
  have hx:=h.head
  cases w with
  | zero=>simp only [val,List.getD_cons_zero,Nat.pow_zero,Nat.div_one];omega
  | succ w=>
   rw [List.getD_cons_succ,ih w h.tail,val,Nat.pow_succ,Nat.mul_comm (4294967296^w),←Nat.div_div_eq_div_mul]
   congr 2
   omega
theorem val_bit (l:List Nat) (i:Nat) (h:Dig l):l.getD (i/32) 0/2^(i%32)%2=val l/2^i%2:=by
 rw [val_digit l _ h]
 have e:4294967296^(i/32)=2^(32*(i/32)):=by rw [Nat.pow_mul]
 have hi:i=32*(i/32)+i%32:=by omega
 have e2:val l/2^i=val l/2^(32*(i/32))/2^(i%32):=by
  rw [Nat.div_div_eq_div_mul,←Nat.pow_add,←hi]
 rw [e,e2]
 generalize val l/2^(32*(i/32))=x
 have hs:i%32<32:=Nat.mod_lt _ (by decide)
 generalize i%32=s at hs
 have e3:(4294967296:Nat)=2^s*(2*2^(31-s)):=by
  rw [←Nat.pow_succ',←Nat.pow_add]
  have:s+(31-s+1)=32:=by omega
  rw [this]
 rw [e3,Nat.mod_mul_right_div_self,Nat.mod_mul_right_mod]
theorem div_step {V n Q r b:Nat} (hb:b<2) (hV:V/2=Q*n+r) (hr:r<n) (hbit:V%2=b):
  (2*r+b<n→V=2*Q*n+(2*r+b))∧(n≤2*r+b→V=(2*Q+1)*n+(2*r+b-n)∧2*r+b-n<n):=by
 have hV2:V=2*(V/2)+V%2:=by omega
 have e1:2*Q*n=2*(Q*n):=Nat.mul_assoc _ _ _
 have e2:(2*Q+1)*n=2*(Q*n)+n:=by rw [Nat.add_mul,Nat.mul_assoc,Nat.one_mul]
 constructor
 ·intro _;omega
 ·intro h;omega
theorem or_pow {a s:Nat} (h:a%2^(s+1)=0):a ||| 2^s=a+2^s:=by
 have e:a=2^(s+1)*(a/2^(s+1)):=by
  have:=Nat.div_add_mod a (2^(s+1))
  omega
 have hlt:2^s<2^(s+1):=Nat.pow_lt_pow_right (by decide) (by omega)
 have:=Nat.two_pow_add_eq_or_of_lt hlt (a/2^(s+1))
 rw [←e] at this
 exact this.symm
end Go.Limb
namespace Go.Proofs.YtenboapacjlmoaaGreatDoor
set_option linter.unusedSimpArgs false
set_option linter.unusedVariables false
open Go Go.AL Go.Proofs Go.Limb
set_option maxRecDepth 100000
theorem or32 {a b:Nat} (ha:a<4294967296) (hb:b<4294967296):IntKind.u32.wrap (((BitVec.ofInt IntKind.u32.bits (a:Int) ||| BitVec.ofInt IntKind.u32.bits (b:Int)).toNat:Nat):Int)=((a ||| b:Nat):Int):=by
 have h:(BitVec.ofInt IntKind.u32.bits (a:Int) ||| BitVec.ofInt IntKind.u32.bits (b:Int)).toNat=a ||| b:=by
  show (BitVec.ofInt 32 (a:Int) ||| BitVec.ofInt 32 (b:Int)).toNat=a ||| b
  rw [BitVec.toNat_or,BitVec.ofInt_natCast,BitVec.ofInt_natCast,BitVec.toNat_ofNat,BitVec.toNat_ofNat,Nat.mod_eq_of_lt ha,Nat.mod_eq_of_lt hb]
 rw [h]
 exact wu32' (Nat.or_lt_two_pow (n:=32) ha hb)
theorem shl1 (x:Nat):IntKind.u32.wrap ((x:Int)*2^min (Int.toNat 1) IntKind.u32.bits)=((2*x%4294967296:Nat):Int):=by
 have e:(2:Int)^min (Int.toNat 1) IntKind.u32.bits=2:=rfl
 rw [e,show (x:Int)*2=((2*x:Nat):Int) by omega,wu32]
theorem shr31 (x:Nat):Int.fdiv (x:Int) (2^min (Int.toNat 31) IntKind.u32.bits)=((x/2147483648:Nat):Int):=by
 have e:(2:Int)^min (Int.toNat 31) IntKind.u32.bits=((2147483648:Nat):Int):=rfl
 rw [e,Int.fdiv_eq_ediv_of_nonneg _ (by omega)]
 rfl
theorem or_bit {x b:Nat} (hb:b≤1):2*x%4294967296 ||| b=2*x%4294967296+b:=by
 rcases Nat.lt_or_ge b 1 with h | h
 ·obtain rfl:b=0:=by omega
  rw [Nat.or_zero];omega
 ·obtain rfl:b=1:=by omega
  exact or_pow (s:=0) (by omega)
theorem zdouble (m:List Nat) (c:Option Nat) (b:Nat) (dm:Dig m) (hb:b≤1) (hm:m.length<1048576):∃c',Ret Tryz.prog G 176 [.vec (u32s m) m.length c,.int .u32 (b:Nat)] [] (.vec (u32s (dblL m b)) (dblL m b).length c') []:=by
 refine ⟨none,?_⟩
 refine Ret_of mixed Tryz.func176 comp176 _ 28 res176 nt176 (by simp) (by simp) ?_
 generalize hfin:dblL m b=fin
 have hfl:fin.length=m.length+1:=by rw [←hfin,dblL_len]
 simp only [c176,r176_0,r176_1,r176_2,SS,reduceCtorEq,reduceIte]
 refine W_loop (fun k E H=>∃i b out a,k+i=m.length∧out.length=i∧b≤1∧out++dblL (m.drop i) b=fin∧E 1= .int .u32 (b:Nat)∧E 5=a∧E 8= .vec (u32s m) m.length c∧E 9= .int .i64 (m.length:Nat)∧E 10= .int .i64 (i:Nat)∧OutAt [] 1 i (u32s out) a H) (n:=m.length)
  ⟨0,b,[],_,by omega,rfl,hb,by simpa using hfin,?_,rfl,?_,?_,?_,.inl ⟨rfl,rfl,?_,0,rfl⟩⟩ ?_
 ·simp only [upd_app,argsE_app,List.getD_cons_zero,List.getD_cons_succ,Nat.reduceEqDiff,if_false]
 ·simp only [upd_app,argsE_app,List.getD_cons_succ,Nat.reduceEqDiff,reduceIte,if_false]
 ·simp only [upd_app,argsE_app,List.getD_cons_succ,Nat.reduceEqDiff,reduceIte,if_false]
 ·simp only [upd_app,argsE_app,List.getD_cons_succ,Nat.reduceEqDiff,reduceIte,if_false];rfl
 ·simp only [upd_app,argsE_app,List.getD_cons_succ,Nat.reduceEqDiff,reduceIte,if_false]
 rintro k E H ⟨i,b,out,a,hki,hol,hb,hf,h1,h5,h8,h9,h10,hO⟩
 refine wpC_sound mixed ?_
 simp only [l176_0,r176_3,SS,reduceCtorEq,reduceIte,h9,h10]
 refine ⟨fun hlt=>?_,fun hge=>?_⟩
 ·obtain ⟨k,rfl⟩:∃k',k=k'+1:=⟨k-1,by omega⟩
  have hi:i<m.length:=by omega
  have bm:=dm.getD i
  have g:=u32s_getD m i hi AV.junk
  have hd:m.drop i=m.getD i 0::m.drop (i+1):=by
   rw [List.drop_eq_getElem_cons hi,List.getD_eq_getElem?_getD,List.getElem?_eq_getElem hi];rfl
  obtain ⟨e,rd,H4,H5,hap,hH4,hg,hw,hO'⟩:=out_app (bytes:=4) (xs:=[.int .u32 ((2*m.getD i 0%4294967296+b:Nat):Int)]) hO rfl rfl (by omega) (by omega)
  have w5:IntKind.i64.wrap ((i:Int)+1)=((i+1:Nat):Int):=by rw [show (i:Int)+1=((i+1:Nat):Int) by omega];exact w64 (by omega) (by omega)
  have b2:2*m.getD i 0%4294967296<4294967296:=Nat.mod_lt _ (by omega)
  have wo:=or32 b2 (show b<4294967296 by omega)
  rw [or_bit hb] at wo
  have e1:u32s out++[.int .u32 ((2*m.getD i 0%4294967296+b:Nat):Int)]=u32s (out++[2*m.getD i 0%4294967296+b]):=by simp [u32s]
  rw [e1] at hO'
  rw [hd,dblL] at hf
  simp only [r176_4,r176_5,SS,forall_const,reduceIte,Nat.reduceEqDiff,Nat.reduceLeDiff,h1,h5,h8,h10,Int.toNat_natCast,g,u32s_len,shl1,wo,len_snoc,hap]
  refine ⟨⟨by omega,by omega⟩,by omega,by omega,?_⟩
  simp only [r176_6,r176_7,SS,reduceIte,Nat.reduceEqDiff,h10,w5,shr31]
  rw [hH4]
  refine ⟨by omega,k,_,H5,by omega,⟨i+1,m.getD i 0/2147483648,out++[2*m.getD i 0%4294967296+b],.sl (H.length+1) 0 (i+1) 1 none,by omega,by simp [hol],by omega,by rw [List.append_assoc];exact hf,?_,rfl,?_,?_,?_,?_⟩,hw _ _ _ (by simp)⟩
  ·simp only [upd_app,Nat.reduceEqDiff,reduceIte,if_false]
  all_goals first | exact hO' | simp only [upd_app,Nat.reduceEqDiff,reduceIte,if_false, *]
 ·have hi:i=m.length:=by omega
  subst hi
  rw [List.drop_length,dblL] at hf
  obtain ⟨e,rd,H4,H5,hap,hH4,hg,hw,hO'⟩:=out_app (bytes:=4) (xs:=[.int .u32 (b:Nat)]) hO rfl rfl (by omega) (by omega)
  simp only [r176_8,SS,reduceIte,Nat.reduceEqDiff,Nat.reduceLeDiff,h1,h5,len_snoc,hap]
  refine ⟨.inl trivial,_,rfl,?_⟩
  have e1:u32s out++[.int .u32 (b:Nat)]=u32s fin:=by rw [←hf];simp [u32s]
  rw [e1] at hg
  rw [hfl]
  refine fin_mag ?_ hfl.symm
  rw [hH4]
  exact hg
end Go.Proofs.YtenboapacjlmoaaGreatDoor
namespace Go.Proofs.YtenboapacjlmoaaGreatDoor
set_option linter.unusedSimpArgs false
set_option linter.unusedVariables false
open Go Go.AL Go.Proofs Go.Limb
set_option maxRecDepth 100000
theorem names_one {id k i:Nat}:names [id] k (i+1)=k+i:=by simp [names]
theorem names_one0 {id k:Nat}:names [id] k 0=id:=by simp [names]
theorem callA_one {f:FuncId} {args args0:List AV} {id:Nat} {cs cs':List AV} {v:AV} {H L:Heap} {K:AV→Eff→List Nat→Nat→Prop} (h:Ret Tryz.prog G f args0 [some cs] v (some cs'::L)) (hid:getB H id=some cs)
  (hargs:args=args0.map (AV.ren (names [id] H.length))) (hu:AV.under.underL 1 args0=true) (hcs:AV.closed.closedL cs=true) (hcs':AV.closed.closedL cs'=true)
  (hk:K (v.ren (names [id] H.length)) ((id,some cs')::effs (names [id] H.length) 1 L) [id] L.length):callA Tryz.prog G f args H K:=by
 have hlt:=getB_lt' hid
 have hid2:H[id]?=some (some cs):=getB_some hid
 have:=CallR0.mk (P:= Tryz.prog) (Γ:=G) (f:=f) (args:=args) (k:=H.length) (H:=H++List.replicate L.length none) [id] args0 [some cs] v (some cs'::L) h rfl (by simp) (by simpa using hlt) hargs hu (by
  intro i c hi
  cases i with
  | zero=>
   simp at hi
   subst hi
   refine ⟨cs,rfl,underL_closed _ _ hcs,?_⟩
   rw [names_one0,List.getElem?_append_left hlt,hid2]
   simp only [renB]
   rw [map_ren_closed _ _ hcs]
  | succ i=>simp at hi)
 refine ⟨_,_,_,_,.base this,?_⟩
 have e:effs (names [id] H.length) 0 (some cs'::L)=(id,some cs')::effs (names [id] H.length) 1 L:=by
  simp only [effs,names_one0,renB]
  rw [map_ren_closed _ _ hcs']
 rw [e]
 simpa using hk
theorem callA_one0 {f:FuncId} {args args0:List AV} {id:Nat} {cs cs':List AV} {v:AV} {H:Heap} {K:AV→Eff→List Nat→Nat→Prop} (h:Ret Tryz.prog G f args0 [some cs] v [some cs']) (hid:getB H id=some cs)
  (hargs:args=args0.map (AV.ren (names [id] H.length))) (hk:K v [(id,some cs')] [id] 0) (hu:AV.under.underL 1 args0=true:=by rfl) (hcs:AV.closed.closedL cs=true:=by rfl) (hcs':AV.closed.closedL cs'=true:=by rfl) (hv:v.closed=true:=by rfl):callA Tryz.prog G f args H K:=by
 refine callA_one h hid hargs hu hcs hcs' ?_
 rw [ren_closed _ _ hv]
 exact hk
end Go.Proofs.YtenboapacjlmoaaGreatDoor
namespace Go.Proofs.YtenboapacjlmoaaGreatDoor
set_option linter.unusedSimpArgs false
set_option linter.unusedVariables false
open Go Go.AL Go.Det
def nextZ (l:List Int) (k:Nat):Int:=l.getD k 0
def nextK (l:List Int) (k:Nat):Nat:=if k<l.length then k+1 else k
def byteZ (l:List Int) (k:Nat):Int:=nextZ l k%256
def tapeK (l:List Int) (k:Nat):Nat→Nat
 | 0=>k
 | m+1=>nextK l (tapeK l k m)
theorem nextK_le {l:List Int} {k:Nat} (h:k≤l.length):nextK l k≤l.length:=by unfold nextK;split<;>omega
theorem tapeK_le {l:List Int} {k:Nat} (h:k≤l.length):∀m,tapeK l k m≤l.length:=by
 intro m
 induction m with
 | zero=>exact h
 | succ m ih=>exact nextK_le ih
theorem tapeK_add (l:List Int) (k a:Nat):∀b,tapeK l (tapeK l k a) b=tapeK l k (a+b):=by
 intro b
 induction b with
 | zero=>rfl
 | succ b ih=>
  show nextK l (tapeK l (tapeK l k a) b)=nextK l (tapeK l k (a+b))
  rw [ih]
def diaM (l:List Int) (k n:Nat) (most:Int):List (List Int):=mkM n fun i j=>if i=j then 1+byteZ l (tapeK l k i)%most else 0
def triK:Nat→Nat
 | 0=>0
 | i+1=>triK i+i
def offZ (l:List Int) (k i j:Nat):Int:=Int.tmod (nextZ l (tapeK l k (triK i+j))) 3
def genM (l:List Int) (k n:Nat):List (List Int):=mkM n fun i j=>if i=j then 1+byteZ l (tapeK l k i)%6 else if j<i then offZ l (tapeK l k n) i j else offZ l (tapeK l k n) j i
def linked (n:Nat) (fork:Bool) (i k:Nat):Bool:=if fork=true∧i+1=n∧3<n then k+2 == i else k+1 == i
def chainM (n:Nat) (fork:Bool):List (List Int):=mkM n fun i j=>if i=j then 2 else if linked n fork i j=true∨linked n fork j i=true then -1 else 0
def bumpM (M:List (List Int)) (i:Nat) (z:Int):List (List Int):=setM M i i (ent M i i+z)
theorem byte_mod (l:List Int) (k:Nat) {m:Int} (hm:1≤m):0≤byteZ l k%m∧byteZ l k%m<m:=⟨Int.emod_nonneg _ (by omega),Int.emod_lt_of_pos _ (by omega)⟩
theorem offZ_rng (l:List Int) (k i j:Nat): -2≤offZ l k i j∧offZ l k i j≤2:=by
 unfold offZ
 have:=Int.tmod_lt_of_pos (nextZ l (tapeK l k (triK i+j))) (show (0:Int)<3 by decide)
 have:=Int.lt_tmod_of_pos (nextZ l (tapeK l k (triK i+j))) (show (0:Int)<3 by decide)
 omega
structure SmallG (n:Nat) (M:List (List Int)):Prop where
 shp:Shp n M
 sym:∀i j,i<n→j<n→ent M i j=ent M j i
 bnd:∀i j,-16≤ent M i j∧ent M i j≤16
theorem small_mk {n:Nat} {f:Nat→Nat→Int} (h1:∀i j,i<n→j<n→f i j=f j i) (h2:∀i j,i<n→j<n→ -16≤f i j∧f i j≤16):SmallG n (mkM n f):=by
 refine ⟨mkM_shp n f,fun i j hi hj=>by rw [ent_mk hi hj,ent_mk hj hi];exact h1 i j hi hj,fun i j=>?_⟩
 by_cases h:i<n∧j<n
 ·rw [ent_mk h.1 h.2];exact h2 i j h.1 h.2
 ·rw [(mkM_shp n f).out (by omega)];omega
theorem dia_small {l:List Int} {k n:Nat} {most:Int} (h1:1≤most) (h2:most≤9):SmallG n (diaM l k n most):=by
 refine small_mk (fun i j _ _=>?_) fun i j _ _=>?_
 ·by_cases h:i=j
  ·rw [h]
  ·have h':¬j=i:=fun e=>h e.symm
   rw [if_neg h,if_neg h']
 ·have:=byte_mod l (tapeK l k i) h1
  split<;>omega
theorem gen_small {l:List Int} {k n:Nat}:SmallG n (genM l k n):=by
 refine small_mk (fun i j _ _=>?_) fun i j _ _=>?_
 ·by_cases h:i=j
  ·rw [h]
  ·have h':¬j=i:=fun e=>h e.symm
   rw [if_neg h,if_neg h']
   by_cases h2:j<i
   ·have h3:¬i<j:=by omega
    rw [if_pos h2,if_neg h3]
   ·have h3:i<j:=by omega
    rw [if_neg h2,if_pos h3]
 ·have:=byte_mod l (tapeK l k i) (show (1:Int)≤6 by decide)
  have:=offZ_rng l (tapeK l k n) i j
  have:=offZ_rng l (tapeK l k n) j i
  split
  ·omega
  ·split<;>omega
theorem chain_small {n:Nat} {fork:Bool}:SmallG n (chainM n fork):=by
 refine small_mk (fun i j _ _=>?_) fun i j _ _=>?_
 ·by_cases h:i=j
  ·rw [h]
  ·have h':¬j=i:=fun e=>h e.symm
   rw [if_neg h,if_neg h']
   by_cases h2:linked n fork i j=true∨linked n fork j i=true
   ·rw [if_pos h2,if_pos h2.symm]
   ·have h3:¬(linked n fork j i=true∨linked n fork i j=true):=fun e=>h2 e.symm
    rw [if_neg h2,if_neg h3]
 ·split
  ·omega
  ·split<;>omega
theorem chain_diag {n i:Nat} {fork:Bool} (hi:i<n):ent (chainM n fork) i i=2:=by
 unfold chainM
 rw [ent_mk hi hi,if_pos rfl]
theorem bump_small {n i:Nat} {M:List (List Int)} {z:Int} (h:SmallG n M) (hi:i<n) (hd:ent M i i=2) (hz:0≤z∧z≤3):SmallG n (bumpM M i z):=by
 unfold bumpM
 refine ⟨h.shp.set hi,fun s t hs ht=>?_,fun s t=>?_⟩
 ·rw [h.shp.ent_set hi hi,h.shp.ent_set hi hi]
  by_cases e:s=i∧t=i
  ·rw [if_pos e,if_pos ⟨e.2,e.1⟩]
  ·rw [if_neg e,if_neg (fun x=>e ⟨x.2,x.1⟩)];exact h.sym s t hs ht
 ·rw [h.shp.ent_set hi hi]
  have:=h.bnd s t
  split<;>omega
def rawM (l:List Int) (kind n:Nat):List (List Int):=
 if kind<4 then genM l 0 n else if kind=4 then bumpM (chainM n false) 0 (byteZ l 0%3) else if kind=5 then bumpM (chainM n true) (n-1) (byteZ l 0%2) else if kind=6 then diaM l 0 n 9 else diaM l 0 n 1
def rawK (l:List Int) (kind n:Nat):Nat:=
 if kind<4 then tapeK l 0 (n+triK n) else if kind=4 then nextK l 0 else if kind=5 then nextK l 0 else tapeK l 0 n
theorem raw_small {l:List Int} {kind n:Nat} (hn:1≤n):SmallG n (rawM l kind n):=by
 unfold rawM
 split
 ·exact gen_small
 split
 ·exact bump_small chain_small (by omega) (chain_diag (by omega)) (by have:=byte_mod l 0 (show (1:Int)≤3 by decide);omega)
 split
 ·exact bump_small chain_small (by omega) (chain_diag (by omega)) (by have:=byte_mod l 0 (show (1:Int)≤2 by decide);omega)
 split
 ·exact dia_small (by decide) (by decide)
 ·exact dia_small (by decide) (by decide)
theorem dia_get {l:List Int} {k n i j:Nat} {most:Int} (hi:i<n) (hj:j<n):ent (diaM l k n most) i j=if i=j then 1+byteZ l (tapeK l k i)%most else 0:=by
 unfold diaM
 rw [ent_mk hi hj]
end Go.Proofs.YtenboapacjlmoaaGreatDoor
namespace Go.Proofs.YtenboapacjlmoaaGreatDoor
set_option linter.unusedSimpArgs false
set_option linter.unusedVariables false
open Go Go.AL Go.Proofs Go.Limb
set_option maxRecDepth 100000
def i8z (l:List Int):List AV:=l.map fun z=>AV.int .i8 z
theorem i8z_len (l:List Int):(i8z l).length=l.length:=by simp [i8z]
theorem i8z_getD (l:List Int) (j:Nat) (h:j<l.length) (d:AV):(i8z l).getD j d= .int .i8 (l.getD j 0):=by simp [i8z,h]
def tapeC (l:List Int) (c:Option Nat) (k:Nat):List AV:=[.vec (i8z l) l.length c,.int .i64 (k:Nat)]
def Tape8 (l:List Int):Prop:=l.length<9223372036854775808∧∀z∈l,-128≤z∧z<128
theorem nextZ_rng {l:List Int} (h:Tape8 l) (k:Nat): -128≤nextZ l k∧nextZ l k<128:=by
 unfold nextZ
 rw [List.getD_eq_getElem?_getD]
 cases e:l[k]? with
 | none=>simp
 | some z=>exact h.2 z (List.mem_of_getElem? e)
theorem tNext {l:List Int} {c:Option Nat} {k:Nat} (h:Tape8 l) (hk:k≤l.length):Ret Tryz.prog G 89 [.ptr 0 0] [some (tapeC l c k)] (.int .i64 (nextZ l k)) [some (tapeC l c (nextK l k))]:=by
 have hl:=h.1
 have hz:=nextZ_rng h k
 refine Ret_of mixed Tryz.func89 comp89 _ 32 res89 nt89 (by simp) (by simp) ?_
 simp only [c89,r89_0,r89_1,SS,forall_const,reduceCtorEq,reduceIte,Nat.reduceAdd,Nat.reduceEqDiff,Nat.reduceLeDiff,tapeC]
 refine ⟨rfl,fun hge=>?_,fun hlt=>?_⟩
 ·have e1:nextZ l k=0:=by
   unfold nextZ
   rw [List.getD_eq_getElem?_getD,List.getElem?_eq_none (by omega)];rfl
  have e2:nextK l k=k:=by unfold nextK;rw [if_neg (by omega)]
  simp only [r89_2,SS,e1,e2]
  exact ⟨.inl trivial,_,rfl,.keep _ _⟩
 ·have hkl:k<l.length:=by omega
  have e2:nextK l k=k+1:=by unfold nextK;rw [if_pos hkl]
  have w5:IntKind.i64.wrap ((k:Int)+1)=((k+1:Nat):Int):=by rw [show (k:Int)+1=((k+1:Nat):Int) by omega];exact w64 (by omega) (by omega)
  have w6:IntKind.i64.wrap (((k+1:Nat):Int)-1)=(k:Int):=by rw [show ((k+1:Nat):Int)-1=(k:Int) by omega];exact w64 (by omega) (by omega)
  have w7:IntKind.i64.wrap (nextZ l k)=nextZ l k:=w64 (by omega) (by omega)
  have g:(i8z l).getD k .junk= .int .i8 (nextZ l k):=i8z_getD l k hkl _
  simp only [r89_3,r89_4,SS,forall_const,reduceCtorEq,reduceIte,Nat.reduceAdd,Nat.reduceEqDiff,Nat.reduceLeDiff,w5,w6,e2,Int.toNat_natCast,g,i8z_len,w7]
  refine ⟨⟨by omega,by omega⟩,by omega,rfl,?_⟩
  exact ⟨.inl trivial,_,rfl,.keep _ _⟩
theorem tBelow {l:List Int} {c:Option Nat} {k:Nat} {m:Int} (h:Tape8 l) (hk:k≤l.length) (hm:1≤m∧m<1000000):Ret Tryz.prog G 43 [.ptr 0 0,.int .i64 m] [some (tapeC l c k)] (.int .i64 (byteZ l k%m)) [some (tapeC l c (nextK l k))]:=by
 have hl:=h.1
 have hz:=nextZ_rng h k
 have hb:0≤byteZ l k∧byteZ l k<256:=by unfold byteZ;omega
 have w1:IntKind.u8.wrap (nextZ l k)=byteZ l k:=by
  show nextZ l k%256=_
  rfl
 have w2:IntKind.i64.wrap (byteZ l k)=byteZ l k:=w64 (by omega) (by omega)
 have w3:Int.tmod (byteZ l k) m=byteZ l k%m:=Int.tmod_eq_emod_of_nonneg hb.1
 have w4:IntKind.i64.wrap (byteZ l k%m)=byteZ l k%m:=by
  have:=Int.emod_nonneg (byteZ l k) (show m≠0 by omega)
  have:=Int.emod_lt_of_pos (byteZ l k) (show 0<m by omega)
  exact w64 (by omega) (by omega)
 refine Ret_of mixed Tryz.func43 comp43 _ 11 res43 nt43 (by simp) (by simp) ?_
 simp only [c43,r43_0,r43_1,SS,reduceCtorEq,reduceIte]
 refine callA_one0 (id:=0) (tNext h hk) rfl rfl ?_
 simp only [restA,SS,reduceIte,Nat.reduceEqDiff,w1,w2,w3]
 refine ⟨by omega,?_⟩
 exact ⟨.inl trivial,_,rfl,.keep _ _⟩
end Go.Proofs.YtenboapacjlmoaaGreatDoor
namespace Go.Proofs.YtenboapacjlmoaaGreatDoor
set_option linter.unusedSimpArgs false
set_option linter.unusedVariables false
open Go Go.AL Go.Proofs Go.Limb
set_option maxRecDepth 100000
def rowsO (o n i:Nat):List AV:=(List.range i).map fun k=> .sl (o+k+1) 0 n 1 (some n)
def outO (o N n i:Nat):List AV:=rowsO o n i++List.replicate (N-i) nilV
def bO (o N n:Nat) (rows:List (List Int)):Heap:=some (outO o N n rows.length)::rows.map fun r=>some (i64z r)
theorem rowsO_len (o n i:Nat):(rowsO o n i).length=i:=by simp [rowsO]
theorem outO_len {o N n i:Nat} (h:i≤N):(outO o N n i).length=N:=by simp [outO,rowsO_len];omega
theorem outO_get {o N n i k:Nat} (h:k<i):(outO o N n i).getD k .junk= .sl (o+k+1) 0 n 1 (some n):=by
 unfold outO rowsO
 rw [List.getD_eq_getElem?_getD,List.getElem?_append_left (by simpa using h),List.getElem?_map,List.getElem?_range h]
 rfl
theorem outO_snoc {o N n i:Nat} (h:i<N):(outO o N n i).set i (.sl (o+i+1) 0 n 1 (some n))=outO o N n (i+1):=by
 unfold outO
 have e:List.replicate (N-i) nilV=nilV::List.replicate (N-(i+1)) nilV:=by rw [←List.replicate_succ];congr 1;omega
 have ez:rowsO o n (i+1)=rowsO o n i++[.sl (o+i+1) 0 n 1 (some n)]:=by simp [rowsO,List.range_succ]
 rw [e,ez,List.set_append_right _ _ (by rw [rowsO_len];omega),rowsO_len,Nat.sub_self]
 simp
section
variable {P:Heap} {o N n:Nat} {rows:List (List Int)}
theorem bO_len (ho:P.length=o):(P++bO o N n rows).length=o+rows.length+1:=by simp [bO,ho];omega
theorem bO_outer (ho:P.length=o):getB (P++bO o N n rows) o=some (outO o N n rows.length):=by
 unfold getB
 rw [List.getElem?_append_right (by omega),ho,Nat.sub_self]
 rfl
theorem bO_row (ho:P.length=o) {i:Nat} (h:i<rows.length):getB (P++bO o N n rows) (o+i+1)=some (i64z (rows.getD i [])):=by
 unfold getB bO
 rw [List.getElem?_append_right (by omega),ho,show o+i+1-o=i+1 by omega,List.getElem?_cons_succ,List.getElem?_map,List.getD_eq_getElem?_getD,List.getElem?_eq_getElem h]
 rfl
theorem bO_set (ho:P.length=o) {i:Nat} (r:List Int):(P++bO o N n rows).set (o+i+1) (some (i64z r))=P++bO o N n (rows.set i r):=by
 rw [List.set_append_right _ _ (by omega),ho,show o+i+1-o=i+1 by omega]
 unfold bO
 rw [List.set_cons_succ,List.length_set,List.map_set]
theorem bO_new (ho:P.length=o) (r:List Int) (h:rows.length<N):(P++bO o N n rows++[some (i64z r)]).set o (some ((outO o N n rows.length).set rows.length (.sl (o+rows.length+1) 0 n 1 (some n))))=P++bO o N n (rows++[r]):=by
 rw [outO_snoc h,List.append_assoc,List.set_append_right _ _ (by omega),ho,Nat.sub_self]
 unfold bO
 simp
theorem bO_frz (ho:P.length=o) (hN:rows.length=N) (hn:∀i,i<N→(rows.getD i []).length=n):frzI 0 (P++bO o N n rows) 3 (.sl o 0 N 1 (some N))=some (.vec (rowsV n rows) N (some N)):=by
 have e0:outO o N n rows.length=rowsO o n N:=by
  unfold outO
  rw [hN,Nat.sub_self,List.replicate_zero,List.append_nil]
 have key:(rowsO o n N).mapM (frzI 0 (P++bO o N n rows) 2)=some (rowsV n rows):=by
  have:rowsV n rows=(List.range N).map fun k=>AV.vec (i64z (rows.getD k [])) n (some n):=by
   refine List.ext_getElem (by simp [rowsV,hN]) fun k h1 h2=>?_
   simp only [rowsV,List.getElem_map,List.getElem_range]
   have hk:k<rows.length:=by simpa [rowsV] using h1
   rw [List.getD_eq_getElem?_getD,List.getElem?_eq_getElem hk]
   rfl
  rw [this]
  unfold rowsO
  rw [List.mapM_map]
  have:∀l:List Nat,(∀k∈l,k<N)→l.mapM (fun k=>frzI 0 (P++bO o N n rows) 2 (.sl (o+k+1) 0 n 1 (some n)))=some (l.map fun k=>AV.vec (i64z (rows.getD k [])) n (some n)):=by
   intro l
   induction l with
   | nil=>intro _;rfl
   | cons k l ih=>
    intro h
    have hk:=h k (by simp)
    have e:frzI 0 (P++bO o N n rows) 2 (.sl (o+k+1) 0 n 1 (some n))=some (.vec (i64z (rows.getD k [])) n (some n)):=by
     rw [frzI]
     have hl:=hn k hk
     simp only [Nat.not_lt_zero,if_false,bO_row ho (show k<rows.length by omega),need,Nat.zero_add,Nat.mul_one,i64z_len,hl,Nat.le_refl,if_true,List.drop_zero]
     rw [List.take_of_length_le (by rw [i64z_len];omega),i64z_frz]
     rfl
    rw [List.mapM_cons,e,ih (fun x hx=>h x (by simp [hx]))]
    rfl
  exact this _ (fun k hk=>List.mem_range.1 hk)
 rw [frzI]
 simp only [Nat.not_lt_zero,if_false,bO_outer ho,e0,need,Nat.zero_add,Nat.mul_one,rowsO_len,Nat.le_refl,if_true,List.drop_zero]
 rw [List.take_of_length_le (by rw [rowsO_len];omega),key]
 rfl
end
end Go.Proofs.YtenboapacjlmoaaGreatDoor
namespace Go.Proofs.YtenboapacjlmoaaGreatDoor
set_option linter.unusedSimpArgs false
set_option linter.unusedVariables false
open Go Go.AL Go.Proofs Go.Limb
set_option maxRecDepth 100000
def tP (l:List Int) (c:Option Nat) (k:Nat):Heap:=[some (tapeC l c k)]
theorem tP_len (l:List Int) (c:Option Nat) (k:Nat):(tP l c k).length=1:=rfl
theorem tP_get (l:List Int) (c:Option Nat) (k:Nat) (X:Heap):getB (tP l c k++X) 0=some (tapeC l c k):=rfl
theorem tP_set (l:List Int) (c:Option Nat) (k k':Nat) (X:Heap):(tP l c k++X).set 0 (some (tapeC l c k'))=tP l c k'++X:=rfl
theorem dia_shp (l:List Int) (k n:Nat) (most:Int):Shp n (diaM l k n most):=mkM_shp _ _
theorem dia_row {l:List Int} {k n i:Nat} {most:Int} (hi:i<n):(diaM l k n most).getD i []=(List.replicate n 0).set i (1+byteZ l (tapeK l k i)%most):=by
 have hr:=(dia_shp l k n most).row i hi
 refine List.ext_getElem (by rw [hr];simp) fun t h1 h2=>?_
 have ht:t<n:=by omega
 have e:ent (diaM l k n most) i t=if i=t then 1+byteZ l (tapeK l k i)%most else 0:=by
  unfold diaM
  rw [ent_mk hi ht]
 unfold ent at e
 rw [List.getD_eq_getElem?_getD,List.getElem?_eq_getElem h1] at e
 rw [List.getElem_set]
 simp only [Option.getD_some] at e
 rw [e]
 by_cases hit:i=t
 ·rw [if_pos hit,if_pos hit]
 ·rw [if_neg hit,if_neg hit];simp
theorem tDiagonal {l:List Int} {c:Option Nat} {k n:Nat} {most:Int} (h:Tape8 l) (hk:k≤l.length) (hn:1≤n∧n≤8) (hm:1≤most∧most≤9):
  Ret Tryz.prog G 44 [.ptr 0 0,.int .i64 (n:Nat),.int .i64 most] [some (tapeC l c k)] (.sl 1 0 n 1 (some n)) (tP l c (tapeK l k n)++bO 1 n n (diaM l k n most)):=by
 have hD:=dia_shp l k n most
 refine Ret_of mixed Tryz.func44 comp44 _ 33 res44 nt44 (by simp) (by simp only [List.length_append,tP_len,List.length_cons,List.length_nil];omega) ?_
 simp only [c44,r44_0,r44_1,SS,reduceCtorEq,reduceIte,Nat.reduceEqDiff,Int.toNat_natCast]
 refine ⟨by decide,⟨by omega,by omega,by omega,by omega⟩,?_⟩
 simp only [r44_2,SS,reduceIte,Nat.reduceEqDiff]
 refine W_loop (fun q E H=>∃i,i+q=n∧H=tP l c (tapeK l k i)++bO 1 n n ((diaM l k n most).take i)∧E 0= .ptr 0 0∧E 1= .int .i64 (n:Nat)∧E 2= .int .i64 most∧E 7= .sl 1 0 n 1 (some n)∧E 12= .int .i64 (n:Nat)∧E 13= .int .i64 (i:Nat)) (n:=n)
  ⟨0,by omega,rfl,by simp only [upd_app,argsE_app,List.getD_cons_zero,Nat.reduceEqDiff,if_false],by simp only [upd_app,argsE_app,List.getD_cons_zero,List.getD_cons_succ,Nat.reduceEqDiff,if_false],by simp only [upd_app,argsE_app,List.getD_cons_zero,List.getD_cons_succ,Nat.reduceEqDiff,if_false],by simp only [upd_app,argsE_app,List.getD_cons_succ,Nat.reduceEqDiff,reduceIte,if_false],by simp only [upd_app,argsE_app,List.getD_cons_succ,Nat.reduceEqDiff,reduceIte,if_false],by simp only [upd_app,argsE_app,List.getD_cons_succ,Nat.reduceEqDiff,reduceIte,if_false];rfl⟩ ?_
 rintro q E H ⟨i,hiq,rfl,e0,e1,e2,e7,e12,e13⟩
 refine wpC_sound mixed ?_
 simp only [l44_0,r44_3,SS,reduceCtorEq,reduceIte,e12,e13]
 refine ⟨fun hlt=>?_,fun hge=>?_⟩
 ·obtain ⟨q,rfl⟩:∃q',q=q'+1:=⟨q-1,by omega⟩
  have hi:i<n:=by omega
  have hDl:=hD.len
  have htl:((diaM l k n most).take i).length=i:=by rw [List.length_take];omega
  have hki:=tapeK_le hk i
  have w5:IntKind.i64.wrap ((i:Int)+1)=((i+1:Nat):Int):=by rw [show (i:Int)+1=((i+1:Nat):Int) by omega];exact w64 (by omega) (by omega)
  have hP:=tP_len l c (tapeK l k i)
  have hbl:=bO_len (N:=n) (n:=n) (rows:=(diaM l k n most).take i) hP
  rw [htl] at hbl
  have hgo:getB (tP l c (tapeK l k i)++bO 1 n n ((diaM l k n most).take i)++[some (i64z (List.replicate n 0))]) 1=some (outO 1 n n i):=by
   have:getB (tP l c (tapeK l k i)++bO 1 n n ((diaM l k n most).take i)) 1=some (outO 1 n n i):=by rw [bO_outer hP,htl]
   exact this
  have gol:=outO_len (o:=1) (N:=n) (n:=n) (i:=i) (by omega)
  have hnew:=bO_new (N:=n) (n:=n) (rows:=(diaM l k n most).take i) hP (List.replicate n 0) (by omega)
  rw [htl] at hnew
  simp only [r44_4,r44_5,SS,reduceIte,Nat.reduceEqDiff,e1,e7,e13,Int.toNat_natCast,hbl,i64z_rep,hgo,gol]
  refine ⟨by decide,⟨by omega,by omega,by omega,by omega⟩,⟨by omega,by omega⟩,by omega,?_⟩
  rw [hnew]
  have hrl:((diaM l k n most).take i++[List.replicate n 0]).length=i+1:=by simp;omega
  have ko:=bO_outer (N:=n) (n:=n) (rows:=(diaM l k n most).take i++[List.replicate n 0]) hP
  rw [hrl] at ko
  have kl:=outO_len (o:=1) (N:=n) (n:=n) (i:=i+1) (by omega)
  have kg:=outO_get (o:=1) (N:=n) (n:=n) (i:=i+1) (k:=i) (by omega)
  have hki1:=tapeK_le hk (i+1)
  have tB:=tBelow (l:=l) (c:=c) (k:=tapeK l k i) (m:=most) h hki (by omega)
  have hbz:=byte_mod l (tapeK l k i) hm.1
  have w6:IntKind.i64.wrap (byteZ l (tapeK l k i)%most)=byteZ l (tapeK l k i)%most:=w64 (by omega) (by omega)
  have w7:IntKind.i64.wrap (1+byteZ l (tapeK l k i)%most)=1+byteZ l (tapeK l k i)%most:=w64 (by omega) (by omega)
  simp only [r44_6,SS,forall_const,reduceCtorEq,reduceIte,Nat.reduceEqDiff,e0,e2,e7,Int.toNat_natCast,ko,kl,kg]
  refine ⟨⟨by omega,by omega⟩,by omega,?_⟩
  refine callA_one0 (id:=0) tB (tP_get _ _ _ _) rfl ?_
  have hP':=tP_len l c (tapeK l k (i+1))
  have hnk:nextK l (tapeK l k i)=tapeK l k (i+1):=rfl
  have gr:=bO_row (N:=n) (n:=n) (rows:=(diaM l k n most).take i++[List.replicate n 0]) hP' (i:=i) (by omega)
  have grr:((diaM l k n most).take i++[List.replicate n 0]).getD i []=List.replicate n 0:=by
   rw [List.getD_eq_getElem?_getD,List.getElem?_append_right (by omega),htl,Nat.sub_self];simp
  rw [grr] at gr
  have eset:((diaM l k n most).take i++[List.replicate n 0]).set i ((List.replicate n 0).set i (1+byteZ l (tapeK l k i)%most))=(diaM l k n most).take (i+1):=by
   rw [List.set_append_right _ _ (by omega),htl,Nat.sub_self,←dia_row hi]
   rw [List.take_add_one,List.getD_eq_getElem?_getD,List.getElem?_eq_getElem (by omega)]
   rfl
  simp only [restA,applyE,keys,List.replicate_zero,List.append_nil,SS,reduceIte,Nat.reduceEqDiff,tP_set,hnk,w7,gr,i64z_len,List.length_replicate,Int.toNat_natCast,i64z_set]
  refine ⟨⟨by omega,by omega⟩,by omega,rfl,?_⟩
  rw [bO_set hP',eset]
  simp only [r44_7,SS,reduceIte,Nat.reduceEqDiff,e13,w5]
  refine ⟨q,_,_,by omega,⟨i+1,by omega,rfl,?_,?_,?_,?_,?_,?_⟩,.refl⟩
  all_goals simp only [upd_app,Nat.reduceEqDiff,reduceIte,if_false, *]
 ·have hin:i=n:=by omega
  subst hin
  have htl:(diaM l k i most).take i=diaM l k i most:=List.take_of_length_le (by rw [hD.len];omega)
  rw [htl]
  simp only [r44_8,SS,reduceIte,Nat.reduceEqDiff,e7]
  exact ⟨.inl trivial,_,rfl,.keep _ _⟩
end Go.Proofs.YtenboapacjlmoaaGreatDoor
namespace Go.Proofs.YtenboapacjlmoaaGreatDoor
set_option linter.unusedSimpArgs false
set_option linter.unusedVariables false
open Go Go.AL Go.Proofs Go.Limb
set_option maxRecDepth 100000
theorem effs_from {H:Heap} (σ:Nat→Nat) (s:Nat) (hσ:∀i,σ (s+i)=H.length+i):∀(L X:Heap),applyE (effs σ (s+X.length) L) (H++(X++List.replicate L.length none))=H++(X++L.map (renB σ)):=by
 intro L
 induction L with
 | nil=>intro X;simp [effs,applyE]
 | cons b L ih=>
  intro X
  have e:H++(X++List.replicate (b::L).length none)=H++(X++(none::List.replicate L.length none)):=rfl
  rw [e]
  simp only [effs,applyE,hσ]
  have e2:(H++(X++(none::List.replicate L.length none))).set (H.length+X.length) (renB σ b)=H++((X++[renB σ b])++List.replicate L.length none):=by
   rw [List.set_append_right _ _ (by omega),Nat.add_sub_cancel_left,List.set_append_right _ _ (by omega),Nat.sub_self]
   simp
  rw [e2]
  have:=ih (X++[renB σ b])
  rw [List.length_append,List.length_singleton,←Nat.add_assoc] at this
  rw [this]
  simp
theorem i64z_closed (r:List Int):AV.closed.closedL (i64z r)=true:=by
 induction r with
 | nil=>rfl
 | cons z r ih=>
  show ((AV.int .i64 z).closed && AV.closed.closedL (i64z r))=true
  rw [ih];rfl
theorem bO_ren {σ:Nat→Nat} {K N n:Nat} {rows:List (List Int)} (hσ:∀j,σ (1+j)=K+j):(bO 1 N n rows).map (renB σ)=bO K N n rows:=by
 unfold bO
 rw [List.map_cons,List.map_map]
 congr 1
 ·show some ((outO 1 N n rows.length).map (AV.ren σ))=_
  congr 1
  unfold outO
  rw [List.map_append]
  congr 1
  ·unfold rowsO
   rw [List.map_map]
   refine List.map_congr_left fun k _=>?_
   show AV.sl (σ (1+k+1)) 0 n 1 (some n)= .sl (K+k+1) 0 n 1 (some n)
   rw [show 1+k+1=1+(k+1) by omega,hσ]
   rfl
  ·rw [List.map_replicate]
   rfl
 ·refine List.map_congr_left fun r _=>?_
  show some ((i64z r).map (AV.ren σ))=some (i64z r)
  rw [map_ren_closed _ _ (i64z_closed r)]
theorem tape_eff {H:Heap} {id n:Nat} {cs':List AV} {M:List (List Int)} (hid:id<H.length):applyE ((id,some cs')::effs (names [id] H.length) 1 (bO 1 n n M)) (H++List.replicate (bO 1 n n M).length none)=H.set id (some cs')++bO H.length n n M:=by
 have h1:∀j,names [id] H.length (1+j)=H.length+j:=by
  intro j;rw [Nat.add_comm 1];exact names_one
 have:=effs_from (H:=H.set id (some cs')) (names [id] H.length) 1 (fun j=>by rw [h1,List.length_set]) (bO 1 n n M) []
 simp only [applyE]
 rw [List.set_append_left _ _ hid]
 simp only [List.length_nil,Nat.add_zero,List.nil_append] at this
 rw [this,bO_ren h1]
end Go.Proofs.YtenboapacjlmoaaGreatDoor
namespace Go.Proofs.YtenboapacjlmoaaGreatDoor
set_option linter.unusedSimpArgs false
set_option linter.unusedVariables false
open Go Go.AL Go.Proofs Go.Limb
set_option maxRecDepth 100000
theorem gen_ent {l:List Int} {k n i j:Nat} (hi:i<n) (hj:j<i):ent (genM l k n) i j=offZ l (tapeK l k n) i j∧ent (genM l k n) j i=offZ l (tapeK l k n) i j:=by
 unfold genM
 rw [ent_mk hi (by omega),ent_mk (by omega) hi]
 have h1:¬i=j:=by omega
 have h2:¬j=i:=by omega
 have h3:¬i<j:=by omega
 rw [if_neg h1,if_pos hj,if_neg h2,if_neg h3]
 exact ⟨rfl,rfl⟩
theorem gen_diag {l:List Int} {k n i:Nat} (hi:i<n):ent (genM l k n) i i=ent (diaM l k n 6) i i:=by
 unfold genM diaM
 rw [ent_mk hi hi,ent_mk hi hi,if_pos rfl,if_pos rfl]
theorem tGen_in {l:List Int} {c:Option Nat} {k n i:Nat} (h:Tape8 l) (hk:k≤l.length) (hn:1≤n∧n≤8) (hi:i<n) {X0:List (List Int)} (hX0:Shp n X0) (hx0:∀s t,s<n→t<n→ent X0 s t=if s<i∧t<i then ent (genM l k n) s t else ent (diaM l k n 6) s t)
  {v12 v13:AV} {E:Env} {Q:Post} (e0:E 0= .ptr 0 0) (e5:E 5= .sl 1 0 n 1 (some n)) (e6:E 6= .int .i64 (i:Nat)) (e7:E 7= .int .i64 0) (e12:E 12=v12) (e13:E 13=v13)
  (hQ:∀E' X,Shp n X→(∀s t,s<n→t<n→ent X s t=if s<i+1∧t<i+1 then ent (genM l k n) s t else ent (diaM l k n 6) s t)→E' 0= .ptr 0 0→E' 5= .sl 1 0 n 1 (some n)→E' 12=v12→E' 13=v13→Q (.exit 2) E' (tP l c (tapeK l k (n+triK (i+1)))++bO 1 n n X)):
  W Tryz.prog G 1 45 (.loop l41_1) E (tP l c (tapeK l k (n+triK i))++bO 1 n n X0) Q:=by
 refine W_loop (fun q E H=>∃j X,j+q=i∧Shp n X∧(∀s t,s<n→t<n→ent X s t=if (s<i∧t<i)∨(s=i∧t<j)∨(t=i∧s<j) then ent (genM l k n) s t else ent (diaM l k n 6) s t)∧H=tP l c (tapeK l k (n+triK i+j))++bO 1 n n X∧
  E 0= .ptr 0 0∧E 5= .sl 1 0 n 1 (some n)∧E 6= .int .i64 (i:Nat)∧E 7= .int .i64 (j:Nat)∧E 12=v12∧E 13=v13) (n:=i)
  ⟨0,X0,by omega,hX0,fun s t hs ht=>by
   rw [hx0 s t hs ht]
   by_cases e:s<i∧t<i
   ·rw [if_pos e,if_pos (.inl e)]
   ·rw [if_neg e,if_neg (by omega)],rfl,e0,e5,e6,e7,e12,e13⟩ ?_
 clear e0 e5 e6 e7 e12 e13 E hX0 hx0 X0
 rintro q E H ⟨j,X,hjq,hX,hx,rfl,e0,e5,e6,e7,e12,e13⟩
 refine wpC_sound mixed ?_
 simp only [l41_1,r41_6,SS,reduceIte,Nat.reduceEqDiff,e6,e7]
 refine ⟨fun hlt=>?_,fun hge=>?_⟩
 ·obtain ⟨q,rfl⟩:∃q',q=q'+1:=⟨q-1,by omega⟩
  have hj:j<i:=by omega
  have hXl:=hX.len
  have w5:IntKind.i64.wrap ((j:Int)+1)=((j+1:Nat):Int):=by rw [show (j:Int)+1=((j+1:Nat):Int) by omega];exact w64 (by omega) (by omega)
  have hK:=tapeK_le hk (n+triK i+j)
  have tN:=tNext (c:=c) h hK
  have hnk:nextK l (tapeK l k (n+triK i+j))=tapeK l k (n+triK i+(j+1)):=rfl
  rw [hnk] at tN
  obtain ⟨g1,g2⟩:=gen_ent (l:=l) (k:=k) hi hj
  have hoff:Int.tmod (nextZ l (tapeK l k (n+triK i+j))) 3=ent (genM l k n) i j:=by
   rw [g1]
   unfold offZ
   rw [tapeK_add,Nat.add_assoc]
  have hr:=offZ_rng l (tapeK l k n) i j
  have w6:IntKind.i64.wrap (Int.tmod (nextZ l (tapeK l k (n+triK i+j))) 3)=ent (genM l k n) i j:=by
   rw [hoff,g1];exact w64 (by omega) (by omega)
  have hP:=tP_len l c (tapeK l k (n+triK i+j))
  have hP':=tP_len l c (tapeK l k (n+triK i+(j+1)))
  have ko:=bO_outer (N:=n) (n:=n) (rows:=X) hP
  have ko':=bO_outer (N:=n) (n:=n) (rows:=setM X i j (ent (genM l k n) i j)) hP'
  rw [hXl] at ko
  rw [setM_len,hXl] at ko'
  have kl:=outO_len (o:=1) (N:=n) (n:=n) (i:=n) (Nat.le_refl _)
  have kg:=outO_get (o:=1) (N:=n) (n:=n) (i:=n) (k:=i) hi
  have kg2:=outO_get (o:=1) (N:=n) (n:=n) (i:=n) (k:=j) (by omega)
  have gr:=bO_row (N:=n) (n:=n) (rows:=X) hP' (i:=i) (by omega)
  have hs1:=bO_set (N:=n) (n:=n) (rows:=X) hP' (i:=i) ((X.getD i []).set j (ent (genM l k n) i j))
  have eM:X.set i ((X.getD i []).set j (ent (genM l k n) i j))=setM X i j (ent (genM l k n) i j):=rfl
  rw [eM] at hs1
  have hX1:Shp n (setM X i j (ent (genM l k n) i j)):=hX.set hi
  have gr1:=bO_row (N:=n) (n:=n) (rows:=setM X i j (ent (genM l k n) i j)) hP' (i:=i) (by rw [hX1.len];exact hi)
  have gr2:=bO_row (N:=n) (n:=n) (rows:=setM X i j (ent (genM l k n) i j)) hP' (i:=j) (by rw [hX1.len];omega)
  have lX:=hX.row i hi
  have l1:=hX1.row i hi
  have l2:=hX1.row j (by omega)
  have gz:(i64z ((setM X i j (ent (genM l k n) i j)).getD i [])).getD j .junk= .int .i64 (ent (genM l k n) i j):=by
   rw [i64z_getD _ j (by omega)]
   have:=hX.ent_set (z:=ent (genM l k n) i j) hi (show j<n by omega) i j
   unfold ent at this ⊢
   rw [this,if_pos ⟨rfl,rfl⟩]
  have hs2:=bO_set (N:=n) (n:=n) (rows:=setM X i j (ent (genM l k n) i j)) hP' (i:=j) (((setM X i j (ent (genM l k n) i j)).getD j []).set i (ent (genM l k n) i j))
  have eM2:(setM X i j (ent (genM l k n) i j)).set j (((setM X i j (ent (genM l k n) i j)).getD j []).set i (ent (genM l k n) i j))=setM (setM X i j (ent (genM l k n) i j)) j i (ent (genM l k n) i j):=rfl
  rw [eM2] at hs2
  simp only [r41_7,SS,forall_const,reduceCtorEq,reduceIte,Nat.reduceEqDiff,e0,e5,e6,e7,Int.toNat_natCast,ko,kl,kg]
  refine ⟨⟨by omega,by omega⟩,by omega,?_⟩
  refine callA_one0 (id:=0) tN (tP_get _ _ _ _) rfl ?_
  simp only [restA,applyE,keys,List.replicate_zero,List.append_nil,SS,reduceIte,Nat.reduceEqDiff,tP_set,hoff,gr,lX,i64z_len,Int.toNat_natCast,i64z_set]
  refine ⟨by decide,⟨by omega,by omega⟩,by omega,rfl,?_⟩
  rw [hs1]
  simp only [r41_8,SS,forall_const,reduceIte,Nat.reduceEqDiff,e5,e6,e7,Int.toNat_natCast,ko',kl,kg,kg2,gr1,gr2,l1,l2,gz,i64z_len,i64z_set]
  refine ⟨⟨by omega,by omega⟩,by omega,⟨by omega,by omega⟩,by omega,⟨by omega,by omega⟩,by omega,⟨by omega,by omega⟩,by omega,rfl,?_⟩
  rw [hs2]
  simp only [r41_9,SS,reduceIte,Nat.reduceEqDiff,e7,w5]
  refine ⟨q,_,_,by omega,⟨j+1,setM (setM X i j (ent (genM l k n) i j)) j i (ent (genM l k n) i j),by omega,hX1.set (by omega),fun s t hs ht=>?_,rfl,?_,?_,?_,?_,?_,?_⟩,.refl⟩
  ·rw [hX1.ent_set (by omega) hi,hX.ent_set hi (by omega),hx s t hs ht]
   by_cases a1:s=j∧t=i
   ·rw [if_pos a1,if_pos (.inr (.inr ⟨a1.2,by omega⟩)),a1.1,a1.2,g1,g2]
   ·rw [if_neg a1]
    by_cases a2:s=i∧t=j
    ·rw [if_pos a2,if_pos (.inr (.inl ⟨a2.1,by omega⟩)),a2.1,a2.2]
    ·rw [if_neg a2]
     by_cases a3:(s<i∧t<i)∨(s=i∧t<j)∨(t=i∧s<j)
     ·rw [if_pos a3,if_pos (by omega)]
     ·rw [if_neg a3,if_neg (by omega)]
  all_goals simp only [upd_app,Nat.reduceEqDiff,reduceIte,if_false, *]
 ·have hji:j=i:=by omega
  subst hji
  have htri:n+triK (j+1)=n+triK j+j:=by show n+(triK j+j)=_;omega
  rw [←htri]
  refine hQ _ X hX (fun s t hs ht=>?_) (by simp only [upd_app,Nat.reduceEqDiff,if_false,e0]) (by simp only [upd_app,Nat.reduceEqDiff,if_false,e5]) (by simp only [upd_app,Nat.reduceEqDiff,if_false,e12]) (by simp only [upd_app,Nat.reduceEqDiff,if_false,e13])
  rw [hx s t hs ht]
  by_cases e:s=j∧t=j
  ·rw [e.1,e.2,if_neg (by omega),if_pos (by omega),gen_diag hi]
  ·by_cases e2:s<j+1∧t<j+1
   ·rw [if_pos e2,if_pos (by omega)]
   ·rw [if_neg e2,if_neg (by omega)]
theorem tGeneral {l:List Int} {c:Option Nat} {k n:Nat} (h:Tape8 l) (hk:k≤l.length) (hn:1≤n∧n≤8):
  Ret Tryz.prog G 41 [.ptr 0 0,.int .i64 (n:Nat)] [some (tapeC l c k)] (.sl 1 0 n 1 (some n)) (tP l c (tapeK l k (n+triK n))++bO 1 n n (genM l k n)):=by
 have hG:Shp n (genM l k n):=mkM_shp _ _
 have tD:=tDiagonal (c:=c) (most:=6) h hk hn (by omega)
 have hlen:(bO 1 n n (diaM l k n 6)).length=n+1:=by simp [bO,(dia_shp l k n 6).len]
 have heff:=tape_eff (H:=[some (tapeC l c k)]) (id:=0) (n:=n) (cs':=tapeC l c (tapeK l k n)) (M:=diaM l k n 6) (Nat.zero_lt_one)
 refine Ret_of mixed Tryz.func41 comp41 _ 45 res41 nt41 (by simp) (by simp only [List.length_append,tP_len,List.length_cons,List.length_nil];omega) ?_
 simp only [c41,r41_0,r41_1,SS,reduceCtorEq,reduceIte,Nat.reduceEqDiff]
 refine callA_one (id:=0) (cs:=tapeC l c k) (cs':=tapeC l c (tapeK l k n)) (L:=bO 1 n n (diaM l k n 6)) tD rfl rfl rfl rfl rfl ?_
 have hv:(AV.sl 1 0 n 1 (some n)).ren (names [0] [some (tapeC l c k)].length)= .sl 1 0 n 1 (some n):=rfl
 rw [hv]
 simp only [restA]
 rw [heff]
 have e1:([some (tapeC l c k)].set 0 (some (tapeC l c (tapeK l k n)))++bO [some (tapeC l c k)].length n n (diaM l k n 6):Heap)=tP l c (tapeK l k n)++bO 1 n n (diaM l k n 6):=rfl
 rw [e1]
 simp only [SS,reduceIte,Nat.reduceEqDiff]
 simp only [r41_2,SS,reduceIte,Nat.reduceEqDiff]
 refine W_loop (fun q E H=>∃i X,i+q=n∧Shp n X∧(∀s t,s<n→t<n→ent X s t=if s<i∧t<i then ent (genM l k n) s t else ent (diaM l k n 6) s t)∧H=tP l c (tapeK l k (n+triK i))++bO 1 n n X∧E 0= .ptr 0 0∧E 5= .sl 1 0 n 1 (some n)∧E 12= .int .i64 (n:Nat)∧E 13= .int .i64 (i:Nat)) (n:=n)
  ⟨0,diaM l k n 6,by omega,dia_shp _ _ _ _,fun s t _ _=>by rw [if_neg (by omega)],rfl,by simp only [upd_app,argsE_app,List.getD_cons_zero,Nat.reduceEqDiff,if_false],by simp only [upd_app,argsE_app,List.getD_cons_succ,Nat.reduceEqDiff,reduceIte,if_false],by simp only [upd_app,argsE_app,List.getD_cons_succ,Nat.reduceEqDiff,reduceIte,if_false],by simp only [upd_app,argsE_app,List.getD_cons_succ,Nat.reduceEqDiff,reduceIte,if_false];rfl⟩ ?_
 rintro q E H ⟨i,X,hiq,hX,hx,rfl,e0,e5,e12,e13⟩
 refine wpC_sound mixed ?_
 simp only [l41_0,r41_3,SS,reduceCtorEq,reduceIte,e12,e13]
 refine ⟨fun hlt=>?_,fun hge=>?_⟩
 ·obtain ⟨q,rfl⟩:∃q',q=q'+1:=⟨q-1,by omega⟩
  have hi:i<n:=by omega
  have w5:IntKind.i64.wrap ((i:Int)+1)=((i+1:Nat):Int):=by rw [show (i:Int)+1=((i+1:Nat):Int) by omega];exact w64 (by omega) (by omega)
  simp only [r41_4,r41_5,SS,reduceIte,Nat.reduceEqDiff,e13]
  refine tGen_in (c:=c) h hk hn hi hX hx (by simp only [upd_app,Nat.reduceEqDiff,if_false,e0]) (by simp only [upd_app,Nat.reduceEqDiff,if_false,e5]) (by simp only [upd_app,Nat.reduceEqDiff,reduceIte,if_false]) (by simp only [upd_app,Nat.reduceEqDiff,reduceIte,if_false]) (by simp only [upd_app,Nat.reduceEqDiff,if_false];exact e12) (by simp only [upd_app,Nat.reduceEqDiff,if_false];exact e13) ?_
  intro E' X' hX' hx' f0 f5 f12 f13
  simp only [SS,reduceCtorEq,reduceIte,Nat.reduceEqDiff,r41_10,f13,w5]
  refine ⟨q,_,_,by omega,⟨i+1,X',by omega,hX',hx',rfl,?_,?_,?_,?_⟩,.refl⟩
  all_goals simp only [upd_app,Nat.reduceEqDiff,reduceIte,if_false, *]
 ·have hin:i=n:=by omega
  subst hin
  have e:X=genM l k i:=shp_ext hX hG fun s t hs ht=>by rw [hx s t hs ht,if_pos ⟨hs,ht⟩]
  subst e
  simp only [r41_11,SS,reduceIte,Nat.reduceEqDiff,e5]
  exact ⟨.inl trivial,_,rfl,.keep _ _⟩
end Go.Proofs.YtenboapacjlmoaaGreatDoor
namespace Go.Proofs.YtenboapacjlmoaaGreatDoor
set_option linter.unusedSimpArgs false
set_option linter.unusedVariables false
open Go Go.AL Go.Proofs Go.Limb
set_option maxRecDepth 100000
theorem zero_first (N n:Nat):∃H1 ps,applyE (effs (names [] 0) 0 (zH N n N)) (List.replicate (zH N n N).length none)=H1∧MatH H1 0 ps n (zmat N n):=
 ⟨_,_,effs_new (H:=[]) (names [] 0) (fun i=>names_nil 0 i) (zH N n N) [],zero_shift [] N n⟩
theorem mIdentity {n:Nat} (hn:1≤n∧n≤16) {I:List (List Int)} (h1:I.length=n) (h2:∀i,i<n→(I.getD i []).length=n) (h3:∀i j,i<n→j<n→ent I i j=if i=j then 1 else 0):
  Ret Tryz.prog G 35 [.int .i64 (n:Nat)] [] (.tup [matC I,.bool true]) []:=by
 refine Ret_ofw mixed Tryz.func35 comp35 _ 29 res35 nt35 (by simp) (by simp) ?_
 simp only [c35,r35_0,r35_1,SS,forall_const,reduceCtorEq,reduceIte,Nat.reduceEqDiff]
 refine ⟨fun _=>⟨fun h=>absurd h (by omega),fun _=>?_⟩,fun h=>absurd h (by omega)⟩
 simp only [r35_3,SS,reduceCtorEq,reduceIte,Nat.reduceEqDiff]
 refine callA_new (mZero hn.2 hn.2) rfl ?_
 obtain ⟨H1,ps,hH1,hz⟩:=zero_first n n
 simp only [restA,SS,reduceIte,Nat.reduceEqDiff,AV.ren,names_nil,Nat.add_zero,hH1]
 simp only [r35_4,SS,reduceIte,Nat.reduceEqDiff]
 refine W_loop (fun k E H=>∃i X,i+k=n∧MatH H 0 ps n X∧X.length=n∧(∀s t,ent X s t=if s<i∧s=t then 1 else 0)∧E 4= .sl 0 0 n 1 (some n)∧E 16= .int .i64 (n:Nat)∧E 17= .int .i64 (i:Nat)) (n:=n) ⟨0,zmat n n,by omega,hz,(zmat_shp _ _).1,fun s t=>by rw [if_neg (by omega),zmat_ent],by simp only [upd_app,argsE_app,List.getD_cons_succ,Nat.reduceEqDiff,reduceIte,if_false],by simp only [upd_app,argsE_app,List.getD_cons_succ,Nat.reduceEqDiff,reduceIte,if_false],by simp only [upd_app,argsE_app,List.getD_cons_succ,Nat.reduceEqDiff,reduceIte,if_false];rfl⟩ ?_
 rintro k E H ⟨i,X,hik,hM,hXl,hX,e4,e16,e17⟩
 refine wpC_sound mixed ?_
 simp only [l35_0,r35_5,SS,reduceCtorEq,reduceIte,e16,e17]
 refine ⟨fun hlt=>?_,fun hge=>?_⟩
 ·obtain ⟨k,rfl⟩:∃k',k=k'+1:=⟨k-1,by omega⟩
  have hi:i<n:=by omega
  obtain ⟨csk,gk,lk,rk,fk⟩:=mat_get hM (i:=i) (by omega)
  have ok:=mat_outer (ps:=ps) (n:=n) (i:=i) (by rw [hM.len];omega)
  have hol:(ps.map (slRow n)).length=n:=by rw [List.length_map,hM.len];exact hXl
  have hou:=hM.outer
  obtain ⟨v,hv,ts⟩:=zSmall 1 (by omega) (by omega)
  have hv0:=hv
  obtain ⟨lv,cv,_,_,_,rfl⟩:=hv0
  have hset:=mat_set hM (i:=i) (j:=i) (by omega) hi hv gk
  have w5:IntKind.i64.wrap ((i:Int)+1)=((i+1:Nat):Int):=by rw [show (i:Int)+1=((i+1:Nat):Int) by omega];exact w64 (by omega) (by omega)
  simp only [r35_6,r35_7,SS,forall_const,reduceIte,Nat.reduceEqDiff,e4,e17,Int.toNat_natCast,hou,hol,ok]
  refine ⟨⟨by omega,by omega⟩,by omega,?_⟩
  refine callA_pure ts ?_
  simp only [SS,reduceIte,Nat.reduceAdd,Nat.reduceEqDiff,gk,lk,Int.toNat_natCast]
  refine ⟨⟨by omega,by omega⟩,by omega,rfl,?_⟩
  simp only [r35_8,SS,reduceIte,Nat.reduceEqDiff,e17,w5]
  refine ⟨k,_,_,by omega,⟨i+1,setM X i i 1,by omega,hset,by rw [setM_len];exact hXl,?_,?_,?_,?_⟩,.refl⟩
  ·intro s t
   rw [ent_set' (by omega) (by rw [hM.cols i (by omega)];exact hi),hX]
   by_cases h1:s=i∧t=i
   ·rw [if_pos h1,if_pos ⟨by omega,by omega⟩]
   ·rw [if_neg h1]
    by_cases h2:s<i∧s=t
    ·rw [if_pos h2,if_pos ⟨by omega,h2.2⟩]
    ·rw [if_neg h2,if_neg (by omega)]
  all_goals simp only [upd_app,Nat.reduceEqDiff,reduceIte,if_false, *]
 ·have hin:i=n:=by omega
  subst hin
  have e:X=I:=by
   refine mat_ext hXl h1 (fun s hs=>hM.cols s (by omega)) h2 fun s t hs ht=>?_
   rw [hX,h3 s t hs ht]
   by_cases h:s=t
   ·rw [if_pos ⟨hs,h⟩,if_pos h]
   ·rw [if_neg (fun e=>h e.2),if_neg h]
  subst e
  simp only [r35_9,SS,reduceIte,Nat.reduceEqDiff,e4]
  obtain ⟨v,g1,g2⟩:=fin_matT (cap:=some i) (b:=true) hM
  rw [hXl] at g1
  exact ⟨.inl trivial,_,v,rfl,g1,g2⟩
end Go.Proofs.YtenboapacjlmoaaGreatDoor
namespace Go.Proofs.YtenboapacjlmoaaGreatDoor
set_option linter.unusedSimpArgs false
set_option linter.unusedVariables false
open Go Go.AL Go.Proofs Go.Limb
set_option maxRecDepth 100000
theorem mTr_in {M:List (List Int)} {rows:List AV} {c cap:Option Nat} {n:Nat} (hn:n≤16) (hN:M.length≤16) (hl:rows.length=M.length) (hr:∀i,i<M.length→IsRowV (M.getD i []) (rows.getD i .junk)) (hc:∀i,i<M.length→(M.getD i []).length=n)
  {i:Nat} (hi:i<M.length) {v22 v23:AV} {Q:Post} {ps:List (Nat×Option Nat)} {X0:List (List Int)} (hX0:X0.length=n)
  {E:Env} {H:Heap} (hM:MatH H 0 ps M.length X0) (e0:E 0= .vec rows M.length c) (e7:E 7= .sl 0 0 n 1 cap) (e8:E 8= .int .i64 (i:Nat)) (e22:E 22=v22) (e23:E 23=v23) (e30:E 30= .int .i64 (n:Nat)) (e31:E 31= .int .i64 0)
  (hQ:∀E' H' X,MatH H' 0 ps M.length X→X.length=n→(∀s t,ent X s t=if t=i∧s<n then ent M t s else ent X0 s t)→E' 0= .vec rows M.length c→E' 7= .sl 0 0 n 1 cap→E' 22=v22→E' 23=v23→Q (.exit 2) E' H'):
  W Tryz.prog G 0 51 (.loop l87_1) E H Q:=by
 refine W_loop (fun k E H=>∃j X,j+k=n∧MatH H 0 ps M.length X∧X.length=n∧(∀s t,ent X s t=if t=i∧s<j then ent M t s else ent X0 s t)∧E 0= .vec rows M.length c∧E 7= .sl 0 0 n 1 cap∧E 8= .int .i64 (i:Nat)∧E 22=v22∧E 23=v23∧
  E 30= .int .i64 (n:Nat)∧E 31= .int .i64 (j:Nat)) (n:=n) ⟨0,X0,by omega,hM,hX0,fun s t=>by rw [if_neg (by omega)],e0,e7,e8,e22,e23,e30,e31⟩ ?_
 clear hM e0 e7 e8 e22 e23 e30 e31 E H
 rintro k E H ⟨j,X,hjk,hM,hXl,hX,e0,e7,e8,e22,e23,e30,e31⟩
 refine wpC_sound mixed ?_
 simp only [l87_1,r87_9,SS,reduceIte,e30,e31]
 refine ⟨fun hlt=>?_,fun hge=>?_⟩
 ·obtain ⟨k,rfl⟩:∃k',k=k'+1:=⟨k-1,by omega⟩
  have hj:j<n:=by omega
  obtain ⟨csk,gk,lk,rk,fk⟩:=mat_get hM (i:=j) (by omega)
  have ok:=mat_outer (ps:=ps) (n:=M.length) (i:=j) (by rw [hM.len];omega)
  have hol:(ps.map (slRow M.length)).length=n:=by rw [List.length_map,hM.len];exact hXl
  have hou:=hM.outer
  obtain ⟨csi,ci,hei,hci⟩:=hr i hi
  have hcl:=rowC_len hci
  obtain ⟨u,v,hu,hz⟩:=rowC_get hci j (by rw [hc i hi];exact hj)
  obtain ⟨w,hw,ts⟩:=zNormalize hz
  obtain ⟨lz,cz,hz1,hz2⟩:=intCells hz
  subst hz1 hz2
  have hw0:=hw
  obtain ⟨lv,cv,_,_,_,rfl⟩:=hw0
  have hset:=mat_set hM (i:=j) (j:=i) (by omega) hi hw gk
  have w5:IntKind.i64.wrap ((j:Int)+1)=((j+1:Nat):Int):=by rw [show (j:Int)+1=((j+1:Nat):Int) by omega];exact w64 (by omega) (by omega)
  simp only [r87_10,r87_11,SS,forall_const,reduceCtorEq,reduceIte,Nat.reduceEqDiff,e0,e7,e8,e31,Int.toNat_natCast,hou,hol,ok,hl,hei,hcl,hc i hi,hu]
  refine ⟨⟨by omega,by omega⟩,by omega,⟨by omega,by omega⟩,by omega,⟨by omega,by omega⟩,by omega,?_⟩
  refine callA_pure ts ?_
  simp only [SS,reduceIte,Nat.reduceAdd,Nat.reduceEqDiff,gk,lk,Int.toNat_natCast]
  refine ⟨⟨by omega,by omega⟩,by omega,rfl,?_⟩
  simp only [r87_12,SS,reduceIte,Nat.reduceEqDiff,e31,w5]
  refine ⟨k,_,_,by omega,⟨j+1,setM X j i (ent M i j),by omega,hset,by rw [setM_len];exact hXl,?_,?_,?_,?_,?_,?_,?_,?_⟩,.refl⟩
  ·intro s t
   rw [ent_set' (by omega) (by rw [hM.cols j (by omega)];exact hi),hX]
   by_cases h1:s=j∧t=i
   ·rw [if_pos h1,if_pos ⟨h1.2,by omega⟩,h1.1,h1.2]
   ·rw [if_neg h1]
    by_cases h2:t=i∧s<j
    ·rw [if_pos h2,if_pos ⟨h2.1,by omega⟩]
    ·rw [if_neg h2,if_neg (by omega)]
  all_goals simp only [upd_app,Nat.reduceEqDiff,reduceIte,if_false, *]
 ·have hjn:j=n:=by omega
  subst hjn
  exact hQ _ _ X hM hXl hX (by simp only [upd_app,Nat.reduceEqDiff,if_false,e0]) (by simp only [upd_app,Nat.reduceEqDiff,if_false,e7]) (by simp only [upd_app,Nat.reduceEqDiff,if_false,e22]) (by simp only [upd_app,Nat.reduceEqDiff,if_false,e23])
theorem mTranspose {M:List (List Int)} {a:AV} {n:Nat} (h:MatV M a) (hn:1≤n∧n≤16) (hN:1≤M.length∧M.length≤16) (hc:∀i,i<M.length→(M.getD i []).length=n)
  {T:List (List Int)} (h1:T.length=n) (h2:∀i,i<n→(T.getD i []).length=M.length) (h3:∀i j,i<n→j<M.length→ent T i j=ent M j i):
  Ret Tryz.prog G 87 [a] [] (.tup [matC T,.bool true]) []:=by
 have ts:=mShape h ⟨hN.1,hN.2,fun i hi=>by rw [hc i hi,hc 0 (by omega)];exact ⟨hn.1,hn.2,rfl⟩⟩
 rw [hc 0 (by omega)] at ts
 obtain ⟨rows,c,rfl,hl,hr⟩:=h
 refine Ret_ofw mixed Tryz.func87 comp87 _ 51 res87 nt87 (by simp) (by simp) ?_
 simp only [c87,r87_0,r87_1,SS,reduceCtorEq,reduceIte]
 refine callA_pure ts ?_
 simp only [SS,forall_const,reduceIte,Nat.reduceEqDiff,r87_2,r87_4,List.getElem?_cons_zero,List.getElem?_cons_succ]
 refine callA_new (mZero hn.2 hN.2) rfl ?_
 obtain ⟨H1,ps,hH1,hz⟩:=zero_first n M.length
 simp only [restA,SS,reduceIte,Nat.reduceEqDiff,AV.ren,names_nil,Nat.add_zero,hH1]
 simp only [r87_5,SS,reduceCtorEq,reduceIte,Nat.reduceEqDiff]
 refine W_loop (fun k E H=>∃i X,i+k=M.length∧MatH H 0 ps M.length X∧X.length=n∧(∀s t,ent X s t=if t<i∧s<n then ent M t s else 0)∧E 0= .vec rows M.length c∧E 7= .sl 0 0 n 1 (some n)∧E 22= .int .i64 (M.length:Nat)∧E 23= .int .i64 (i:Nat)) (n:=M.length) ⟨0,zmat n M.length,by omega,hz,(zmat_shp _ _).1,fun s t=>by rw [if_neg (by omega),zmat_ent],by simp only [upd_app,argsE_app,List.getD_cons_zero,Nat.reduceEqDiff,if_false],by simp only [upd_app,argsE_app,List.getD_cons_succ,Nat.reduceEqDiff,reduceIte,if_false],by simp only [upd_app,argsE_app,List.getD_cons_succ,Nat.reduceEqDiff,reduceIte,if_false],by simp only [upd_app,argsE_app,List.getD_cons_succ,Nat.reduceEqDiff,reduceIte,if_false];rfl⟩ ?_
 rintro k E H ⟨i,X,hik,hM,hXl,hX,e0,e7,e22,e23⟩
 refine wpC_sound mixed ?_
 simp only [l87_0,r87_6,SS,reduceCtorEq,reduceIte,e22,e23]
 refine ⟨fun hlt=>?_,fun hge=>?_⟩
 ·obtain ⟨k,rfl⟩:∃k',k=k'+1:=⟨k-1,by omega⟩
  have hi:i<M.length:=by omega
  obtain ⟨csi,ci,hei,hci⟩:=hr i hi
  have hcl:=rowC_len hci
  have w5:IntKind.i64.wrap ((i:Int)+1)=((i+1:Nat):Int):=by rw [show (i:Int)+1=((i+1:Nat):Int) by omega];exact w64 (by omega) (by omega)
  simp only [r87_7,r87_8,SS,forall_const,reduceCtorEq,reduceIte,Nat.reduceEqDiff,e0,e23,Int.toNat_natCast,hei,hl,hc i hi]
  refine ⟨⟨by omega,by omega⟩,by omega,?_⟩
  refine mTr_in (c:=c) (cap:=some n) hn.2 hN.2 hl hr hc hi hXl hM (by simp only [upd_app,Nat.reduceEqDiff,if_false,e0]) (by simp only [upd_app,Nat.reduceEqDiff,if_false,e7]) (by simp only [upd_app,Nat.reduceEqDiff,reduceIte,if_false]) (by simp only [upd_app,Nat.reduceEqDiff,if_false];exact e22) (by simp only [upd_app,Nat.reduceEqDiff,if_false];exact e23) (by simp only [upd_app,Nat.reduceEqDiff,reduceIte,if_false]) (by simp only [upd_app,Nat.reduceEqDiff,reduceIte,if_false]) ?_
  intro E' H' X' hM' hXl' hX' f0 f7 f22 f23
  simp only [SS,reduceCtorEq,reduceIte,Nat.reduceEqDiff,r87_13,f23,w5]
  refine ⟨k,_,_,by omega,⟨i+1,X',by omega,hM',hXl',?_,?_,?_,?_,?_⟩,.refl⟩
  ·intro s t
   rw [hX',hX]
   by_cases h1:t=i∧s<n
   ·rw [if_pos h1,if_pos ⟨by omega,h1.2⟩]
   ·rw [if_neg h1]
    by_cases h2:t<i∧s<n
    ·rw [if_pos h2,if_pos ⟨by omega,h2.2⟩]
    ·rw [if_neg h2,if_neg (by omega)]
  all_goals simp only [upd_app,Nat.reduceEqDiff,reduceIte,if_false, *]
 ·have hin:i=M.length:=by omega
  subst hin
  have e:X=T:=by
   refine mat_ext hXl h1 (fun s hs=>hM.cols s (by omega)) h2 fun s t hs ht=>?_
   rw [hX,h3 s t hs ht,if_pos ⟨ht,hs⟩]
  subst e
  simp only [r87_14,SS,reduceIte,Nat.reduceEqDiff,e7]
  obtain ⟨v,g1,g2⟩:=fin_matT (cap:=some n) (b:=true) hM
  rw [hXl] at g1
  exact ⟨.inl trivial,_,v,rfl,g1,g2⟩
end Go.Proofs.YtenboapacjlmoaaGreatDoor
namespace Go.Proofs.YtenboapacjlmoaaGreatDoor
set_option linter.unusedSimpArgs false
set_option linter.unusedVariables false
open Go Go.AL Go.Proofs Go.Limb
set_option maxRecDepth 100000
def dotS (r s:List Int):Nat→Int
 | 0=>0
 | k+1=>dotS r s k+r.getD k 0*s.getD k 0
theorem mDot {r s:List Int} {a b:AV} (ha:IsRowV r a) (hb:IsRowV s b) (hl:s.length=r.length) (h16:r.length≤16) (hB:∀i,i<r.length→(r.getD i 0*s.getD i 0).natAbs<BIG) (hS:∀k,k≤r.length→(dotS r s k).natAbs<BIG):
  Ret Tryz.prog G 132 [a,b] [] (intV (dotS r s r.length)) []:=by
 obtain ⟨ra,ca,rfl,hra⟩:=ha
 obtain ⟨sb,cb,rfl,hsb⟩:=hb
 have la:=rowC_len hra
 have lb:=rowC_len hsb
 refine Ret_ofw mixed Tryz.func132 comp132 _ 26 res132 nt132 (by simp) (by simp) ?_
 simp only [c132,r132_0,r132_1,r132_2,SS,reduceCtorEq,reduceIte,Nat.reduceAdd,Nat.reduceEqDiff,Nat.reduceLeDiff]
 refine W_loop (fun m E H=>∃k u v,k+m=r.length∧H=[some [AV.bool false,AV.vec [] 0 (some 0)],some [u,v]]∧IsInt (dotS r s k) (.agg [u,v])∧E 0= .vec ra r.length ca∧E 1= .vec sb s.length cb∧E 4= .ptr 0 0∧E 5= .ptr 1 0∧E 9= .int .i64 (r.length:Nat)∧E 10= .int .i64 (k:Nat)) (n:=r.length)
  ⟨0,_,_,by omega,rfl,isInt_zero,by simp only [upd_app,argsE_app,List.getD_cons_zero,Nat.reduceEqDiff,if_false],by simp only [upd_app,argsE_app,List.getD_cons_zero,List.getD_cons_succ,Nat.reduceEqDiff,if_false],by simp only [upd_app,argsE_app,List.getD_cons_succ,Nat.reduceEqDiff,reduceIte,if_false],by simp only [upd_app,argsE_app,List.getD_cons_succ,Nat.reduceEqDiff,reduceIte,if_false],by simp only [upd_app,argsE_app,List.getD_cons_succ,Nat.reduceEqDiff,reduceIte,if_false],by simp only [upd_app,argsE_app,List.getD_cons_succ,Nat.reduceEqDiff,reduceIte,if_false];rfl⟩ ?_
 rintro m E H ⟨k,u,v,hkm,rfl,hz,e0,e1,e4,e5,e9,e10⟩
 refine wpC_sound mixed ?_
 obtain ⟨lz,cz,hz1,hz2⟩:=intCells hz
 subst hz1 hz2
 simp only [l132_0,r132_3,SS,reduceCtorEq,reduceIte,e9,e10]
 refine ⟨fun hlt=>?_,fun hge=>?_⟩
 ·obtain ⟨m,rfl⟩:∃m',m=m'+1:=⟨m-1,by omega⟩
  have hk:k<r.length:=by omega
  obtain ⟨u1,v1,g1,hz1⟩:=rowC_get hra k hk
  obtain ⟨u2,v2,g2,hz2⟩:=rowC_get hsb k (by omega)
  obtain ⟨p,hp,t1⟩:=zMul hz1 hz2 (hB k hk)
  obtain ⟨q,hq,t2⟩:=zAdd hz hp (hS (k+1) hk)
  obtain ⟨l1,c1,x1,y1⟩:=intCells hz1
  obtain ⟨l2,c2,x2,y2⟩:=intCells hz2
  subst x1 y1 x2 y2
  obtain ⟨lp,cp,_,_,_,rfl⟩:=id hp
  obtain ⟨lq,cq,_,_,_,rfl⟩:=id hq
  have w5:IntKind.i64.wrap ((k:Int)+1)=((k+1:Nat):Int):=by rw [show (k:Int)+1=((k+1:Nat):Int) by omega];exact w64 (by omega) (by omega)
  simp only [r132_4,r132_5,SS,reduceCtorEq,reduceIte,Nat.reduceAdd,Nat.reduceEqDiff,Nat.reduceLeDiff,e0,e1,e5,e10,Int.toNat_natCast,g1,g2,la,lb,hl]
  refine ⟨⟨by omega,by omega⟩,by omega,⟨by omega,by omega⟩,by omega,?_⟩
  refine callA_pure t1 ?_
  simp only [SS,reduceIte,Nat.reduceEqDiff]
  refine callA_pure t2 ?_
  simp only [SS,reduceIte,Nat.reduceAdd,Nat.reduceEqDiff,Nat.reduceLeDiff,e5]
  refine ⟨rfl,?_⟩
  simp only [r132_6,SS,reduceIte,Nat.reduceEqDiff,e10,w5]
  refine ⟨m,_,_,by omega,⟨k+1,_,_,by omega,rfl,hq,?_,?_,?_,?_,?_,?_⟩,.refl⟩
  all_goals first | (simp only [upd_app,Nat.reduceEqDiff,reduceIte,if_false, *];done) | (simp only [upd_app,argsE_app,List.getD_cons_zero,List.getD_cons_succ,Nat.reduceEqDiff,reduceIte,if_false, *];rw [hl])
 ·have hkr:k=r.length:=by omega
  subst hkr
  simp only [r132_7,SS,reduceIte,Nat.reduceAdd,Nat.reduceEqDiff,Nat.reduceLeDiff,e4,e5]
  exact ⟨.inl trivial,_,_,resA_int (id:=0) (by simp only [upd_app,Nat.reduceEqDiff,if_false,e4]) rfl,.drop _ _ rfl (by intro i cs h;omega),hz.wk⟩
end Go.Proofs.YtenboapacjlmoaaGreatDoor
namespace Go.Proofs.YtenboapacjlmoaaGreatDoor
set_option linter.unusedSimpArgs false
set_option linter.unusedVariables false
open Go Go.AL Go.Proofs Go.Limb Go.Det
set_option maxRecDepth 100000
theorem bnd_fits {A0:Nat} {M:List (List Int)} (hb:Bnd A0 M) (hA:A0<BIG):FitsM M:=by
 intro r hr z hz
 obtain ⟨i,hi,rfl⟩:=List.getElem_of_mem hr
 obtain ⟨j,hj,rfl⟩:=List.getElem_of_mem hz
 have:=hb i j
 unfold ent at this
 rw [List.getD_eq_getElem?_getD (l:=M),List.getElem?_eq_getElem hi,Option.getD_some,List.getD_eq_getElem?_getD,List.getElem?_eq_getElem hj,Option.getD_some] at this
 omega
theorem sq_mk {n A0:Nat} {M:List (List Int)} (hS:Shp n M) (hn:1≤n∧n≤8) (hb:Bnd A0 M) (hA:A0<BIG):Sq n M (matC M):=⟨matC_ok (bnd_fits hb hA),hS.len,hS.row,hn.1,hn.2⟩
end Go.Proofs.YtenboapacjlmoaaGreatDoor
namespace Go.Proofs.YtenboapacjlmoaaGreatDoor
set_option linter.unusedSimpArgs false
set_option linter.unusedVariables false
open Go Go.AL Go.Det
def MuOK (n:Nat) (a:Nat→Row) (k:Nat):Prop:=(∀i j,CurA n a i j→prodL a n*100+(n-i)*10+j+1≤k)∧∀i,CurS n a i→prodL a n*100+(n-i)*10≤k
theorem mu_start {n:Nat} {a:Nat→Row} (h8:n≤8):MuOK n a (prodL a n*100+99):=
 ⟨fun i j c=>by have:=c.hi;have:=c.hj;omega,fun i c=>by omega⟩
theorem mu_add {n:Nat} {D K:Int} {a:Nat→Row} {i j:Nat} {c:Int} {k:Nat} (h:Pos n D a) (h8:n≤8) (hK:1≤K) (hKD:8*D≤K) (hc:CurA n a i j) (hg:Good n D K a) (hz:2*(stg a j i j+c*lead a (j+1))≤lead a (j+1)∧ -(2*(stg a j i j+c*lead a (j+1)))≤lead a (j+1))
  (hm:MuOK n a k):∃k',k'<k∧MuOK n (addG a i j c) k':=by
 obtain ⟨_,_,_,g1,g2⟩:=good_add h h8 hK hKD hc hg hz
 have hi:=hc.hi
 have hj:=hc.hj
 have hp:prodL (addG a i j c) n=prodL a n:=prod_congr n (fun t ht=>add_lead hj hi (h.ne (Nat.le_refl _)) ht)
 have:=hm.1 i j hc
 refine ⟨prodL a n*100+(n-i)*10+j,by omega,fun i' j' c'=>?_,fun i' c'=>?_⟩
 ·obtain ⟨l1,l2⟩:=g1 i' j' c'
  have:=c'.hi
  have:=c'.hj
  rw [hp]
  by_cases e:i'=i
  ·have:=l2 e
   subst e
   omega
  ·omega
 ·have:=g2 i' c'
  rw [hp]
  omega
theorem mu_sw {n:Nat} {D K:Int} {a:Nat→Row} {i:Nat} {k:Nat} (h:Pos n D a) (h8:n≤8) (hK:1≤K) (hc:CurS n a i) (hg:Good n D K a) (hm:MuOK n a k):∃k',k'<k∧MuOK n (swG a (i-1)) k':=by
 obtain ⟨gp,_,g1,g2⟩:=good_sw h hK hc hg
 have hlt:=prod_lt (b:=swG a (i-1)) hc.h0 g2 (gp.pos i (by have:=hc.hi;omega)) n (by have:=hc.hi;omega) g1 h.pos
 have:=hm.2 i hc
 exact ⟨prodL (swG a (i-1)) n*100+99,by omega,mu_start h8⟩
def nearZ (l d:Int):Int:=(2*l+d)/(2*d)
theorem near_ok {l d:Int} (hd:0<d):2*(l+ -(nearZ l d)*d)≤d∧ -(2*(l+ -(nearZ l d)*d))≤d:=by
 unfold nearZ
 have h1:=Int.ediv_mul_le (2*l+d) (show 2*d≠0 by omega)
 have h2:=Int.lt_ediv_add_one_mul_self (2*l+d) (show 0<2*d by omega)
 generalize (2*l+d)/(2*d)=q at*
 have e1:q*(2*d)=2*(q*d):=by grind
 have e2:(q+1)*(2*d)=2*(q*d)+2*d:=by grind
 have e3: -q*d= -(q*d):=by grind
 omega
structure LState (n:Nat) (D K:Int) (M0 M T:List (List Int)):Prop where
 shM:Shp n M
 shT:Shp n T
 pos:Pos n D (rowF M)
 good:Good n D K (rowF M)
 rel:∀s t,s<n→t<n→ent M s t=gramT (rowF M0) n (fun x y=>ent T x y) s t
theorem id_gram {n:Nat} (a:Nat→Row) {s t:Nat} (hs:s<n) (ht:t<n):gramT a n (fun x y=>ent (idM n) x y) s t=a s t:=by
 unfold gramT
 have e:sumR (fun x=>sumR (fun y=>a x y*ent (idM n) y t) n*ent (idM n) x s) n=sumR (fun x=>if x=s then a s t else 0) n:=by
  refine sumR_congr fun x hx=>?_
  have e2:sumR (fun y=>a x y*ent (idM n) y t) n=a x t:=by
   have e3:sumR (fun y=>a x y*ent (idM n) y t) n=sumR (fun y=>if y=t then a x t else 0) n:=by
    refine sumR_congr fun y hy=>?_
    rw [id_ent hy ht]
    split
    ·rename_i e;rw [e];omega
    ·omega
   rw [e3,sumR_one ht (fun z _ hne=>if_neg hne),if_pos rfl]
  rw [e2,id_ent hx hs]
  split
  ·rename_i e;rw [e];omega
  ·omega
 rw [e,sumR_one hs (fun z _ hne=>if_neg hne),if_pos rfl]
theorem gram_congr {n:Nat} (a:Nat→Row) {T T':Nat→Nat→Int} {s t:Nat} (hs:∀x,x<n→T x s=T' x s) (ht:∀x,x<n→T x t=T' x t):gramT a n T s t=gramT a n T' s t:=by
 unfold gramT
 refine sumR_congr fun x hx=>?_
 rw [hs x hx]
 congr 1
 exact sumR_congr fun y hy=>by rw [ht y hy]
section
variable {n:Nat} {D K:Int} {M0 M T:List (List Int)}
theorem LState.start (h1:Shp n M0) (hp:Pos n D (rowF M0)) (hK:1≤K) (ha:∀s,s<n→ent M0 s s≤K):LState n D K M0 M0 (idM n):=
 ⟨h1,mkM_shp n _,hp,good_all hp hK ha,fun s t hs ht=>(id_gram (rowF M0) hs ht).symm⟩
theorem LState.add {i j:Nat} (h:LState n D K M0 M T) (h8:n≤8) (hK:1≤K) (hKD:8*D≤K) (hc:CurA n (rowF M) i j):
  LState n D K M0 (cgM n M (addU n i j (-(nearZ (stg (rowF M) j i j) (lead (rowF M) (j+1)))))) (mulM n T (addU n i j (-(nearZ (stg (rowF M) j i j) (lead (rowF M) (j+1))))))∧
   ∀k,MuOK n (rowF M) k→∃k',k'<k∧MuOK n (rowF (cgM n M (addU n i j (-(nearZ (stg (rowF M) j i j) (lead (rowF M) (j+1))))))) k':=by
 have hi:=hc.hi
 have hj:=hc.hj
 have hz:=near_ok (l:=stg (rowF M) j i j) (h.pos.pos (j+1) (by omega))
 generalize -(nearZ (stg (rowF M) j i j) (lead (rowF M) (j+1)))=c at*
 have e:=cg_add (c:=c) h.shM (show i≠j by omega) hi (show j<n by omega)
 obtain ⟨_,g1,g2,_,_⟩:=good_add h.pos h8 hK hKD hc h.good hz
 refine ⟨⟨mkM_shp n _,mkM_shp n _,by rw [e];exact g1,by rw [e];exact g2,fun s t hs ht=>?_⟩,fun k hk=>by rw [e];exact mu_add h.pos h8 hK hKD hc h.good hz hk⟩
 have e2:ent (cgM n M (addU n i j c)) s t=addG (rowF M) i j c s t:=congrFun (congrFun e s) t
 rw [e2,gram_congr (rowF M0) (T':=fun x s=>ent T x s+if s=i then c*ent T x j else 0) (fun x hx=>mul_add (show i≠j by omega) hi (by omega) hx hs) (fun x hx=>mul_add (show i≠j by omega) hi (by omega) hx ht)]
 rw [gramT_add (a:=rowF M0) (n:=n) (fun x s=>ent T x s) i j c]
 unfold addG
 have r:=h.rel
 rw [←r s t hs ht,←r j t (by omega) ht,←r s j hs (by omega),←r j j (by omega) (by omega)]
 rfl
theorem LState.sw {p:Nat} (h:LState n D K M0 M T) (h8:n≤8) (hK:1≤K) (hc:CurS n (rowF M) (p+1)):LState n D K M0 (cgM n M (swapM (idM n) (p+1) p)) (mulM n T (swapM (idM n) (p+1) p))∧
   ∀k,MuOK n (rowF M) k→∃k',k'<k∧MuOK n (rowF (cgM n M (swapM (idM n) (p+1) p))) k':=by
 have hi:=hc.hi
 have e:=cg_sw h.shM hi
 obtain ⟨g1,g2,_,_⟩:=good_sw h.pos hK hc h.good
 simp only [Nat.add_sub_cancel] at g1 g2
 refine ⟨⟨mkM_shp n _,mkM_shp n _,by rw [e];exact g1,by rw [e];exact g2,fun s t hs ht=>?_⟩,fun k hk=>by
  rw [e]
  have:=mu_sw h.pos h8 hK hc h.good hk
  simpa using this⟩
 have e2:ent (cgM n M (swapM (idM n) (p+1) p)) s t=ent M (Det.sw p s) (Det.sw p t):=congrFun (congrFun e s) t
 rw [e2,gram_congr (rowF M0) (T':=fun x s=>ent T x (Det.sw p s)) (fun x hx=>mul_sw hi hx hs) (fun x hx=>mul_sw hi hx ht),h.rel _ _ (sw_lt hi hs) (sw_lt hi ht)]
 rfl
theorem LState.bound (h:LState n D K M0 M T) (h8:n≤8) (hK:1≤K) (hp:Pos n D (rowF M0)) (ha:∀s,s<n→ent M0 s s≤K) (hcase:(∃i j,CurA n (rowF M) i j)∨(∃i,CurS n (rowF M) i)∨∀i,i<n→OKr (rowF M) i):
  (∀s t,s<n→t<n→ent M s t≤bigK D K∧ -(bigK D K)≤ent M s t)∧∀s t,s<n→t<n→ent T s t≤vecB D K (bigK D K) 7∧ -(vecB D K (bigK D K) 7)≤ent T s t:=by
 have hn:=fun s hs=>good_norm (s:=s) h.pos h8 hK h.good hcase hs
 refine ⟨fun s t hs ht=>h.pos.bound hn hs ht,fun s t hs ht=>?_⟩
 refine vec_all hp h8 hK ha (fun x=>ent T x t) ?_ hs
 rw [←gramT_norm (a:=rowF M0) (n:=n) (fun x y=>ent T x y) t,←h.rel t t ht ht]
 exact hn t ht
end
end Go.Proofs.YtenboapacjlmoaaGreatDoor
namespace Go.Proofs.YtenboapacjlmoaaGreatDoor
set_option linter.unusedSimpArgs false
set_option linter.unusedVariables false
open Go Go.AL Go.Det
theorem diag_stg {a:Nat→Row} {n:Nat} (h0:∀i j,i≠j→a i j=0) (h1:∀i,i<n→0<a i i):∀k,k≤n→(∀t,t≤k→0<lead a t)∧∀i j,k≤i→k≤j→stg a k i j=lead a k*a i j:=by
 intro k
 induction k with
 | zero=>
  intro _
  refine ⟨fun t ht=>?_,fun i j _ _=>by rw [stg_zero,lead_zero,Int.one_mul]⟩
  obtain rfl:t=0:=by omega
  rw [lead_zero];decide
 | succ k ih=>
  intro hk
  obtain ⟨p,q⟩:=ih (by omega)
  have e:lead a (k+1)=lead a k*a k k:=by rw [lead_stg,q k k (Nat.le_refl _) (Nat.le_refl _)]
  have pk:=p k (Nat.le_refl _)
  have pk1:0<lead a (k+1):=by rw [e];exact Int.mul_pos pk (h1 k (by omega))
  refine ⟨fun t ht=>?_,fun i j hi hj=>?_⟩
  ·rcases (by omega:t≤k∨t=k+1) with h | h
   ·exact p t h
   ·rw [h];exact pk1
  ·have r:=stg_rec (a:=a) (k:=k) (fun t ht=>by have:=p t ht;omega) i j
   rw [q i j (by omega) (by omega),q i k (by omega) (Nat.le_refl _),q k j (Nat.le_refl _) (by omega),h0 i k (by omega),Int.mul_zero,Int.zero_mul,Int.sub_zero] at r
   have e2:lead a (k+1)*(lead a k*a i j)=lead a k*(lead a (k+1)*a i j):=Int.mul_left_comm _ _ _
   rw [e2] at r
   exact Int.eq_of_mul_eq_mul_left (by omega) r
theorem diag_lead {a:Nat→Row} {n:Nat} {c:Int} (h0:∀i j,i≠j→a i j=0) (h1:∀i,i<n→0<a i i) (h2:∀i,i<n→a i i≤c) (hc:0≤c):∀k,k≤n→lead a k≤c^k:=by
 intro k
 induction k with
 | zero=>intro _;rw [lead_zero,Int.pow_zero];exact Int.le_refl _
 | succ k ih=>
  intro hk
  obtain ⟨p,q⟩:=diag_stg h0 h1 k (by omega)
  rw [lead_stg,q k k (Nat.le_refl _) (Nat.le_refl _),Int.pow_succ]
  exact Int.mul_le_mul (ih (by omega)) (h2 k (by omega)) (by have:=h1 k (by omega);omega) (Int.pow_nonneg hc)
theorem pos_some {a:Nat→Row} {n:Nat} (hs:∀i j,i<n→j<n→a i j=a j i) (hp:∀k,k≤n→0<lead a k):∃D,Pos n D a:=by
 have:∀m,m≤n→∃D,∀k,k≤m→lead a k≤D:=by
  intro m
  induction m with
  | zero=>intro _;exact ⟨lead a 0,fun k hk=>by
    have e:k=0:=by omega
    rw [e];exact Int.le_refl _⟩
  | succ m ih=>
   intro hm
   obtain ⟨D,h⟩:=ih (by omega)
   refine ⟨max D (lead a (m+1)),fun k hk=>?_⟩
   rcases (by omega:k≤m∨k=m+1) with h1 | h1
   ·have:=h k h1;omega
   ·rw [h1];omega
 obtain ⟨D,h⟩:=this n (Nat.le_refl _)
 exact ⟨D,hs,hp,h⟩
theorem pos_lead {a:Nat→Row} {n:Nat} {c:Int} (hs:∀i j,i<n→j<n→a i j=a j i) (hp:∀k,k≤n→0<lead a k) (hd:∀s,s<n→a s s≤c) (hc:1≤c):Pos n (c^n) a:=by
 obtain ⟨D,h⟩:=pos_some hs hp
 have key:∀k,k≤n→lead a k≤c^k:=by
  intro k
  induction k with
  | zero=>intro _;rw [lead_zero,Int.pow_zero];exact Int.le_refl _
  | succ k ih=>
   intro hk
   have d:=h.down (s:=k) (by omega) k (Nat.le_refl _)
   rw [←lead_stg] at d
   have p:=hp k (by omega)
   have m1:lead a k*a k k≤lead a k*c:=Int.mul_le_mul_of_nonneg_left (hd k (by omega)) (by omega)
   have m2:lead a k*c≤c^k*c:=Int.mul_le_mul_of_nonneg_right (ih (by omega)) (by omega)
   rw [Int.pow_succ]
   omega
 refine ⟨hs,hp,fun k hk=>Int.le_trans (key k hk) ?_⟩
 obtain ⟨m,rfl⟩:∃m,n=k+m:=⟨n-k,by omega⟩
 clear key h hs hp hd hk D
 induction m with
 | zero=>exact Int.le_refl _
 | succ m ih=>
  rw [←Nat.add_assoc,Int.pow_succ]
  have:0≤c^(k+m):=Int.pow_nonneg (by omega)
  have:=Int.mul_le_mul_of_nonneg_left hc this
  omega
def goodD (n:Nat) (M:List (List Int)):Prop:=(∀k,k<n+1→0<lead (rowF M) k)∧lead (rowF M) n≤10000
instance (n:Nat) (M:List (List Int)):Decidable (goodD n M):=inferInstanceAs (Decidable (_∧_))
def gramM (l:List Int) (kind n:Nat):List (List Int):=if goodD n (rawM l kind n) then rawM l kind n else diaM l (rawK l kind n) n 2
theorem dia_good {l:List Int} {k n:Nat} (h8:n≤8):goodD n (diaM l k n 2):=by
 have h0:∀i j,i≠j→rowF (diaM l k n 2) i j=0:=by
  intro i j hij
  show ent (diaM l k n 2) i j=0
  by_cases h:i<n∧j<n
  ·rw [dia_get h.1 h.2,if_neg hij]
  ·exact (dia_small (l:=l) (k:=k) (n:=n) (most:=2) (by decide) (by decide)).shp.out (by omega)
 have hd:∀i,i<n→0<rowF (diaM l k n 2) i i∧rowF (diaM l k n 2) i i≤2:=by
  intro i hi
  show 0<ent (diaM l k n 2) i i∧ent (diaM l k n 2) i i≤2
  rw [dia_get hi hi,if_pos rfl]
  have:=byte_mod l (tapeK l k i) (show (1:Int)≤2 by decide)
  omega
 refine ⟨fun t ht=>(diag_stg h0 (fun i hi=>(hd i hi).1) n (Nat.le_refl _)).1 t (by omega),?_⟩
 have:=diag_lead h0 (fun i hi=>(hd i hi).1) (fun i hi=>(hd i hi).2) (by decide) n (Nat.le_refl _)
 have h2:(2:Int)^n≤2^8:=by
  have:=Nat.pow_le_pow_right (n:=2) (by decide) h8
  exact_mod_cast this
 have e8:(2:Int)^8=256:=by decide
 omega
theorem gram_ok {l:List Int} {kind n:Nat} (hn:1≤n) (h8:n≤8):SmallG n (gramM l kind n)∧goodD n (gramM l kind n):=by
 unfold gramM
 split
 ·rename_i h;exact ⟨raw_small hn,h⟩
 ·exact ⟨dia_small (by decide) (by decide),dia_good h8⟩
theorem good_pos {n:Nat} {M:List (List Int)} (h:SmallG n M) (hg:goodD n M):Pos n (16^n) (rowF M):=
 pos_lead h.sym (fun k hk=>hg.1 k (by omega)) (fun s _=>(h.bnd s s).2) (by decide)
end Go.Proofs.YtenboapacjlmoaaGreatDoor
namespace Go.Proofs.YtenboapacjlmoaaGreatDoor
set_option linter.unusedSimpArgs false
set_option linter.unusedVariables false
open Go Go.AL Go.Det
instance (a:Nat→Row) (i j:Nat):Decidable (SZ a i j):=inferInstanceAs (Decidable (_∧_))
instance (a:Nat→Row) (i:Nat):Decidable (LV a i):=inferInstanceAs (Decidable (_≤_))
theorem curA_one {n:Nat} {a:Nat→Row} {i j i' j':Nat} (h:CurA n a i j) (h':CurA n a i' j'):i=i'∧j=j':=by
 have e:i=i':=by
  rcases Nat.lt_or_ge i i' with h1 | h1
  ·exact absurd ((h'.pre i h1).1 j h.hj) h.no
  ·rcases Nat.lt_or_ge i' i with h2 | h2
   ·exact absurd ((h.pre i' h2).1 j' h'.hj) h'.no
   ·omega
 subst e
 refine ⟨rfl,?_⟩
 rcases Nat.lt_or_ge j j' with h1 | h1
 ·exact absurd (h.up j' h1 h'.hj) h'.no
 ·rcases Nat.lt_or_ge j' j with h2 | h2
  ·exact absurd (h'.up j h2 h.hj) h.no
  ·omega
theorem curS_one {n:Nat} {a:Nat→Row} {i i':Nat} (h:CurS n a i) (h':CurS n a i'):i=i':=by
 rcases Nat.lt_or_ge i i' with h1 | h1
 ·exact absurd ((h'.pre i h1).2 h.h0) h.no
 ·rcases Nat.lt_or_ge i' i with h2 | h2
  ·exact absurd ((h.pre i' h2).2 h'.h0) h'.no
  ·omega
theorem curA_S {n:Nat} {a:Nat→Row} {i j i':Nat} (h:CurA n a i j) (h':CurS n a i'):False:=by
 rcases Nat.lt_or_ge i i' with h1 | h1
 ·exact h.no ((h'.pre i h1).1 j h.hj)
 ·rcases Nat.lt_or_ge i' i with h2 | h2
  ·exact h'.no ((h.pre i' h2).2 h'.h0)
  ·have e:i=i':=by omega
   subst e
   exact h.no (h'.up j h.hj)
theorem cur_any {n:Nat} (a:Nat→Row):(∃i j,CurA n a i j)∨(∃i,CurS n a i)∨∀i,i<n→OKr a i:=by
 have key:∀m,m≤n→(∃i j,CurA n a i j)∨(∃i,CurS n a i)∨∀i,i<m→OKr a i:=by
  intro m
  induction m with
  | zero=>intro _;exact .inr (.inr fun i h=>absurd h (by omega))
  | succ m ih=>
   intro hm
   rcases ih (by omega) with h | h | h
   ·exact .inl h
   ·exact .inr (.inl h)
   ·have inner:∀c j,j+c=m→(∀l,j≤l→l<m→SZ a m l)→(∃j,CurA n a m j)∨∀l,l<m→SZ a m l:=by
     intro c
     suffices H:∀j,j≤m→(∀l,j≤l→l<m→SZ a m l)→(∃j,CurA n a m j)∨∀l,l<m→SZ a m l by
      intro j hj hl;exact H j (by omega) hl
     intro j
     induction j with
     | zero=>intro _ hl;exact .inr fun l hlm=>hl l (Nat.zero_le _) hlm
     | succ j ihj=>
      intro hj hl
      by_cases hz:SZ a m j
      ·refine ihj (by omega) fun l h1 h2=>?_
       rcases (by omega:l=j∨j+1≤l) with e | e
       ·rw [e];exact hz
       ·exact hl l e h2
      ·exact .inl ⟨j,by omega,by omega,h,fun l h1 h2=>hl l (by omega) h2,hz⟩
    rcases inner 0 m rfl (fun l h1 h2=>absurd h2 (by omega)) with ⟨j,hj⟩ | hz
    ·exact .inl ⟨m,j,hj⟩
    ·by_cases h0:0<m
     ·by_cases hl:LV a m
      ·refine .inr (.inr fun i hi=>?_)
       rcases (by omega:i<m∨i=m) with e | e
       ·exact h i e
       ·subst e;exact ⟨hz,fun _=>hl⟩
      ·exact .inr (.inl ⟨m,by omega,h0,h,hz,hl⟩)
     ·refine .inr (.inr fun i hi=>?_)
      have e:i=m:=by omega
      subst e
      exact ⟨hz,fun h=>absurd h h0⟩
 exact key n (Nat.le_refl _)
def nearU (n:Nat) (M:List (List Int)) (i j:Nat):List (List Int):=addU n i j (-(nearZ (stg (rowF M) j i j) (lead (rowF M) (j+1))))
def swapU (n i:Nat):List (List Int):=swapM (idM n) i (i-1)
inductive Ends (n:Nat) (M' T':List (List Int)):Nat→List (List Int)→List (List Int)→Prop
 | done {k:Nat}:(∀i,i<n→OKr (rowF M') i)→Ends n M' T' k M' T'
 | add {k i j:Nat} {M T:List (List Int)}:CurA n (rowF M) i j→Ends n M' T' k (cgM n M (nearU n M i j)) (mulM n T (nearU n M i j))→Ends n M' T' (k+1) M T
 | sw {k i:Nat} {M T:List (List Int)}:CurS n (rowF M) i→Ends n M' T' k (cgM n M (swapU n i)) (mulM n T (swapU n i))→Ends n M' T' (k+1) M T
theorem ends_some {n:Nat} {D K:Int} {M0:List (List Int)} (h8:n≤8) (hK:1≤K) (hKD:8*D≤K):∀(m:Nat) (M T:List (List Int)),LState n D K M0 M T→MuOK n (rowF M) m→∃k M' T',Ends n M' T' k M T∧LState n D K M0 M' T':=by
 intro m
 induction m using Nat.strongRecOn with
 | _ m ih=>
  intro M T hL hm
  rcases cur_any (n:=n) (rowF M) with ⟨i,j,hc⟩ | ⟨i,hc⟩ | h
  ·obtain ⟨hL',hmu⟩:=hL.add h8 hK hKD hc
   obtain ⟨m',hlt,hm'⟩:=hmu m hm
   obtain ⟨k,M',T',he,hl⟩:=ih m' hlt _ _ hL' hm'
   exact ⟨k+1,M',T',.add hc he,hl⟩
  ·obtain ⟨p,rfl⟩:∃p,i=p+1:=⟨i-1,by have:=hc.h0;omega⟩
   obtain ⟨hL',hmu⟩:=hL.sw h8 hK hc
   obtain ⟨m',hlt,hm'⟩:=hmu m hm
   obtain ⟨k,M',T',he,hl⟩:=ih m' hlt _ _ hL' hm'
   exact ⟨k+1,M',T',.sw hc he,hl⟩
  ·exact ⟨0,M,T,.done h,hL⟩
theorem ends_step {n k:Nat} {D K:Int} {M0 M' T' M T:List (List Int)} (h8:n≤8) (hK:1≤K) (hKD:8*D≤K) (hL:LState n D K M0 M T) (h:Ends n M' T' k M T):
  ((∀i,i<n→OKr (rowF M) i)∧M=M'∧T=T')∨(∃k' i j,k=k'+1∧CurA n (rowF M) i j∧LState n D K M0 (cgM n M (nearU n M i j)) (mulM n T (nearU n M i j))∧Ends n M' T' k' (cgM n M (nearU n M i j)) (mulM n T (nearU n M i j)))∨
   ∃k' i,k=k'+1∧CurS n (rowF M) i∧LState n D K M0 (cgM n M (swapU n i)) (mulM n T (swapU n i))∧Ends n M' T' k' (cgM n M (swapU n i)) (mulM n T (swapU n i)):=by
 cases h with
 | done h=>exact .inl ⟨h,rfl,rfl⟩
 | add hc he=>
  rename_i k' i j
  exact .inr (.inl ⟨k',i,j,rfl,hc,(hL.add h8 hK hKD hc).1,he⟩)
 | sw hc he=>
  rename_i k' i
  obtain ⟨p,rfl⟩:∃p,i=p+1:=⟨i-1,by have:=hc.h0;omega⟩
  exact .inr (.inr ⟨k',p+1,rfl,hc,(hL.sw h8 hK hc).1,he⟩)
theorem ends_det {n:Nat} {D K:Int} {M0 M' T':List (List Int)} (h8:n≤8) (hK:1≤K) (hKD:8*D≤K):∀{k:Nat} {M T:List (List Int)},Ends n M' T' k M T→LState n D K M0 M T→lead (rowF M') n=lead (rowF M) n:=by
 intro k M T h
 induction h with
 | done h=>intro _;rfl
 | add hc he ih=>
  rename_i k i j M T
  intro hL
  have hi:=hc.hi
  have hj:=hc.hj
  rw [ih (hL.add h8 hK hKD hc).1]
  have e:=cg_add (c:= -(nearZ (stg (rowF M) j i j) (lead (rowF M) (j+1)))) hL.shM (show i≠j by omega) hi (show j<n by omega)
  unfold nearU
  rw [e]
  exact add_lead hj hi (hL.pos.ne (Nat.le_refl _)) (Nat.le_refl _)
 | sw hc he ih=>
  rename_i k i M T
  intro hL
  obtain ⟨p,rfl⟩:∃p,i=p+1:=⟨i-1,by have:=hc.h0;omega⟩
  have hi:=hc.hi
  rw [ih (hL.sw h8 hK hc).1]
  have e:=cg_sw hL.shM hi
  obtain ⟨_,_,g,_⟩:=good_sw hL.pos hK hc hL.good
  simp only [Nat.add_sub_cancel] at g
  show lead (rowF (cgM n M (swapM (idM n) (p+1) p))) n=_
  rw [e]
  exact g n (Nat.le_refl _) (by omega)
theorem run_gram {n:Nat} {M0:List (List Int)} (h1:1≤n) (h8:n≤8) (h:SmallG n M0) (hg:goodD n M0):∃k M' T',Ends n M' T' k M0 (idM n)∧LState n (16^n) (8*16^n) M0 M0 (idM n)∧LState n (16^n) (8*16^n) M0 M' T'∧Red n (rowF M'):=by
 have hp:=good_pos h hg
 have h16:(1:Int)≤16^n:=by
  have:=Nat.one_le_pow n 16 (by decide)
  exact_mod_cast this
 have hst:LState n (16^n) (8*16^n) M0 M0 (idM n):=by
  refine LState.start h.shp hp (by omega) fun s _=>?_
  have:=(h.bnd s s).2
  rcases Nat.eq_zero_or_pos n with e | e
  ·omega
  ·have:(16:Int)^1≤16^n:=by
    have:=Nat.pow_le_pow_right (n:=16) (by decide) e
    exact_mod_cast this
   have e1:(16:Int)^1=16:=by decide
   omega
 obtain ⟨k,M',T',he,hl⟩:=ends_some h8 (by omega) (Int.le_refl _) _ _ _ hst (mu_start h8)
 have hdet:=ends_det h8 (by omega) (Int.le_refl _) he hst
 have hok:∀i,i<n→OKr (rowF M') i:=by
  clear hdet hl hst hp
  generalize idM n=T at he
  clear h hg
  induction he with
  | done h=>exact h
  | add _ _ ih=>exact ih
  | sw _ _ ih=>exact ih
 refine ⟨k,M',T',he,hst,hl,h1,h8,hl.pos.sym,fun k hk=>hl.pos.pos (k+1) (by omega),by rw [hdet];exact hg.2,fun i j hi hj=>(hok i hi).1 j hj,fun i h0 hi=>(hok i hi).2 h0⟩
end Go.Proofs.YtenboapacjlmoaaGreatDoor
namespace Go.Proofs.YtenboapacjlmoaaGreatDoor
set_option linter.unusedSimpArgs false
set_option linter.unusedVariables false
open Go Go.AL Go.Det
section
variable {n N B A0:Nat} {M:List (List Int)} {ds:List Int}
theorem sized_dec (hF:FitN N B A0) (hb:Bnd A0 M) (hnN:n≤N) (h:leadL B M n=some ds) (hp:∀t,t≤n→0<lead (rowF M) t) {i j:Nat} (hj:j<n):sizedO B M ds i j=some (decide (SZ (rowF M) i j)):=by
 obtain ⟨b,hbs⟩:=sizedO_ok (ds:=ds) hF hb (i:=i) (j:=j) (by omega)
 have hi:=sized_iff h hp hj hbs
 rw [hbs]
 congr 1
 by_cases hz:SZ (rowF M) i j
 ·rw [decide_eq_true hz];exact hi.2 hz
 ·rw [decide_eq_false hz]
  cases b with
  | false=>rfl
  | true=>exact absurd (hi.1 rfl) hz
theorem lov_dec (hF:FitN N B A0) (hb:Bnd A0 M) (hnN:n≤N) (h:leadL B M n=some ds) (hf:∀z∈ds,z.natAbs≤bndS A0 N) (hp:∀t,t≤n→0<lead (rowF M) t) {i:Nat} (h0:0<i) (hi:i<n):lovO B M ds i=some (decide (LV (rowF M) i)):=by
 obtain ⟨b,hbs⟩:=lovO_ok (ds:=ds) hF hb hf (i:=i) (by omega)
 have hv:=lov_iff h hp h0 hi hbs
 rw [hbs]
 congr 1
 by_cases hz:LV (rowF M) i
 ·rw [decide_eq_true hz];exact hv.2 hz
 ·rw [decide_eq_false hz]
  cases b with
  | false=>rfl
  | true=>exact absurd (hv.1 rfl) hz
theorem lam_val (hF:FitN N B A0) (hb:Bnd A0 M) (hnN:n≤N) (hp:∀t,t≤n→0<lead (rowF M) t) {i j:Nat} (hj:j<n):lamO B M i j=some (stg (rowF M) j i j)∧(stg (rowF M) j i j).natAbs≤bndS A0 N:=by
 obtain ⟨l,h1,h2⟩:=lamO_ok hF hb (i:=i) (j:=j) (by omega)
 have e:=lam_spec (i:=i) (j:=j) (fun t ht=>by have:=hp t (by omega);omega) (lamO_some h1).1
 rw [e] at h1 h2
 exact ⟨h1,h2⟩
end
theorem sumR_le {f:Nat→Int} {n c:Nat} (h:∀t,t<n→(f t).natAbs≤c):(sumR f n).natAbs≤n*c:=by
 have:=sumR_abs (f:=f) (n:=n) (c:=(c:Int)) fun t ht=>by have:=h t ht;omega
 have e:((n*c:Nat):Int)=(n:Int)*c:=by simp
 omega
theorem near_le {l d:Int} (hd:0<d):(nearZ l d).natAbs≤l.natAbs+1:=by
 have h:=near_ok (l:=l) (d:=d) hd
 rw [Int.neg_mul] at h
 have h1:2*(nearZ l d*d)≤2*l+d:=by omega
 have h2:2*l-d≤2*(nearZ l d*d):=by omega
 generalize nearZ l d=q at*
 rcases Int.le_total 0 q with hq | hq
 ·rcases (by omega:q≤l.natAbs+1∨(l.natAbs:Int)+2≤q) with e | e
  ·omega
  ·exfalso
   have m:=Int.mul_le_mul_of_nonneg_right e (show (0:Int)≤d by omega)
   have m2:(l.natAbs:Int)*1≤l.natAbs*d:=Int.mul_le_mul_of_nonneg_left (by omega) (by omega)
   rw [Int.add_mul] at m
   omega
 ·rcases (by omega: -q≤l.natAbs+1∨(l.natAbs:Int)+2≤ -q) with e | e
  ·omega
  ·exfalso
   have m:=Int.mul_le_mul_of_nonneg_right e (show (0:Int)≤d by omega)
   have m2:(l.natAbs:Int)*1≤l.natAbs*d:=Int.mul_le_mul_of_nonneg_left (by omega) (by omega)
   rw [Int.add_mul,Int.neg_mul] at m
   omega
end Go.Proofs.YtenboapacjlmoaaGreatDoor
namespace Go.Proofs.YtenboapacjlmoaaGreatDoor
set_option linter.unusedSimpArgs false
set_option linter.unusedVariables false
open Go Go.AL Go.Proofs Go.Limb Go.Det
set_option maxRecDepth 100000
theorem dot_sum (r s:List Int):∀k,dotS r s k=sumR (fun t=>r.getD t 0*s.getD t 0) k:=by
 intro k
 induction k with
 | zero=>rfl
 | succ k ih=>show dotS r s k+_=sumR _ k+_;rw [ih]
structure MulB (n x y:Nat) (A B:List (List Int)):Prop where
 a:Bnd x A
 b:Bnd y B
 fit:8*(x*y)+x+y<BIG
theorem MulB.term {n x y:Nat} {A B:List (List Int)} (h:MulB n x y A B) (i j k:Nat):(ent A i k*ent B k j).natAbs≤x*y:=natAbs_mul_le (h.a i k) (h.b k j)
theorem MulB.bnd {n x y:Nat} {A B:List (List Int)} (h:MulB n x y A B) (hn:n≤8):Bnd (8*(x*y)) (mulM n A B):=by
 intro i j
 by_cases hij:i<n∧j<n
 ·unfold mulM
  rw [ent_mk hij.1 hij.2]
  have:=sumR_le (f:=fun k=>ent A i k*ent B k j) (n:=n) (c:=x*y) fun t _=>h.term i j t
  have:=Nat.mul_le_mul_right (x*y) hn
  omega
 ·rw [(mul_shp n A B).out (by omega)];simp
theorem mMul_in {n x y:Nat} {A B:List (List Int)} {ar tr:List AV} {ac tc cap:Option Nat} (hn:1≤n∧n≤8) (hM:MulB n x y A B) (hsA:Shp n A) (hal:ar.length=n) (har:∀i,i<n→IsRowV (A.getD i []) (ar.getD i .junk)) (htl:tr.length=n) (htr:∀i,i<n→IsRowV ((trM n B).getD i []) (tr.getD i .junk))
  {i:Nat} (hi:i<n) {v43 v44:AV} {Q:Post} {ps:List (Nat×Option Nat)} {X0:List (List Int)} (hX0:X0.length=n)
  {E:Env} {H:Heap} (hH:MatH H 0 ps n X0) (e0:E 0= .vec ar n ac) (e9:E 9= .vec tr n tc) (e11:E 11= .sl 0 0 n 1 cap) (e12:E 12= .int .i64 (i:Nat)) (e43:E 43=v43) (e44:E 44=v44) (e48:E 48= .int .i64 (n:Nat)) (e49:E 49= .int .i64 0)
  (hQ:∀E' H' X,MatH H' 0 ps n X→X.length=n→(∀s t,ent X s t=if s=i∧t<n then ent (mulM n A B) s t else ent X0 s t)→E' 0= .vec ar n ac→E' 9= .vec tr n tc→E' 11= .sl 0 0 n 1 cap→E' 43=v43→E' 44=v44→Q (.exit 2) E' H'):
  W Tryz.prog G 0 70 (.loop l88_1) E H Q:=by
 refine W_loop (fun k E H=>∃j X,j+k=n∧MatH H 0 ps n X∧X.length=n∧(∀s t,ent X s t=if s=i∧t<j then ent (mulM n A B) s t else ent X0 s t)∧E 0= .vec ar n ac∧E 9= .vec tr n tc∧E 11= .sl 0 0 n 1 cap∧E 12= .int .i64 (i:Nat)∧E 43=v43∧E 44=v44∧
  E 48= .int .i64 (n:Nat)∧E 49= .int .i64 (j:Nat)) (n:=n) ⟨0,X0,by omega,hH,hX0,fun s t=>by rw [if_neg (by omega)],e0,e9,e11,e12,e43,e44,e48,e49⟩ ?_
 clear hH e0 e9 e11 e12 e43 e44 e48 e49 E H
 rintro k E H ⟨j,X,hjk,hH,hXl,hX,e0,e9,e11,e12,e43,e44,e48,e49⟩
 refine wpC_sound mixed ?_
 simp only [l88_1,r88_10,SS,reduceIte,e48,e49]
 refine ⟨fun hlt=>?_,fun hge=>?_⟩
 ·obtain ⟨k,rfl⟩:∃k',k=k'+1:=⟨k-1,by omega⟩
  have hj:j<n:=by omega
  obtain ⟨csk,gk,lk,rk,fk⟩:=mat_get hH (i:=i) (by omega)
  have ok:=mat_outer (ps:=ps) (n:=n) (i:=i) (by rw [hH.len];omega)
  have hol:(ps.map (slRow n)).length=n:=by rw [List.length_map,hH.len];exact hXl
  have hou:=hH.outer
  have rA:=har i hi
  have rT:=htr j hj
  have lA:=hsA.row i hi
  have lT:((trM n B).getD j []).length=n:=(mkM_shp n _).row j hj
  have hfit:=hM.fit
  have e1:∀t,t<n→((trM n B).getD j []).getD t 0=ent B t j:=by
   intro t ht
   show ent (trM n B) j t=_
   unfold trM
   rw [ent_mk hj ht]
  have hdot:∀m,m≤n→dotS (A.getD i []) ((trM n B).getD j []) m=sumR (fun t=>ent A i t*ent B t j) m:=by
   intro m hm
   rw [dot_sum]
   refine sumR_congr fun t ht=>?_
   rw [e1 t (by omega)]
   rfl
  have hval:dotS (A.getD i []) ((trM n B).getD j []) (A.getD i []).length=ent (mulM n A B) i j:=by
   rw [lA,hdot n (Nat.le_refl _)]
   unfold mulM
   rw [ent_mk hi hj]
  have td:=mDot rA rT (by rw [lA,lT]) (by omega) (fun t ht=>by
    rw [e1 t (by omega)]
    have:=hM.term i j t
    have e:(A.getD i []).getD t 0=ent A i t:=rfl
    rw [e];omega) (fun m hm=>by
    rw [hdot m (by omega)]
    have h1:=sumR_le (f:=fun t=>ent A i t*ent B t j) (n:=m) (c:=x*y) fun t _=>hM.term i j t
    have h2:m*(x*y)≤8*(x*y):=Nat.mul_le_mul_right _ (by omega)
    omega)
  rw [hval] at td
  have hbv:=hM.bnd hn.2 i j
  have hiv:IsInt (ent (mulM n A B) i j) (intV (ent (mulM n A B) i j)):=intV_isInt (by omega)
  have hv0:=hiv
  obtain ⟨lv,cv,hcv1,hcv2,hcv3,hev⟩:=hiv
  rw [hev] at td hv0
  have hset:=mat_set hH (i:=i) (j:=j) (by omega) hj hv0 gk
  have w5:IntKind.i64.wrap ((j:Int)+1)=((j+1:Nat):Int):=by rw [show (j:Int)+1=((j+1:Nat):Int) by omega];exact w64 (by omega) (by omega)
  obtain ⟨acs,aci,hae,hac⟩:=rA
  obtain ⟨tcs,tci,hte,htc⟩:=rT
  rw [hae,hte] at td
  simp only [r88_11,r88_12,SS,forall_const,reduceCtorEq,reduceIte,Nat.reduceEqDiff,e0,e9,e11,e12,e49,Int.toNat_natCast,hou,hol,ok,hal,htl,hae,hte]
  refine ⟨⟨by omega,by omega⟩,by omega,⟨by omega,by omega⟩,by omega,⟨by omega,by omega⟩,by omega,?_⟩
  refine callA_pure td ?_
  simp only [SS,reduceIte,Nat.reduceAdd,Nat.reduceEqDiff,gk,lk,Int.toNat_natCast]
  refine ⟨⟨by omega,by omega⟩,by omega,rfl,?_⟩
  simp only [r88_13,SS,reduceIte,Nat.reduceEqDiff,e49,w5]
  refine ⟨k,_,_,by omega,⟨j+1,setM X i j (ent (mulM n A B) i j),by omega,hset,by rw [setM_len];exact hXl,?_,?_,?_,?_,?_,?_,?_,?_,?_⟩,.refl⟩
  ·intro s t
   rw [ent_set' (by omega) (by rw [hH.cols i (by omega)];exact hj),hX]
   by_cases h1:s=i∧t=j
   ·rw [if_pos h1,if_pos ⟨h1.1,by omega⟩,h1.1,h1.2]
   ·rw [if_neg h1]
    by_cases h2:s=i∧t<j
    ·rw [if_pos h2,if_pos ⟨h2.1,by omega⟩]
    ·rw [if_neg h2,if_neg (by omega)]
  all_goals simp only [upd_app,Nat.reduceEqDiff,reduceIte,if_false, *]
 ·have hjn:j=n:=by omega
  subst hjn
  exact hQ _ _ X hH hXl hX (by simp only [upd_app,Nat.reduceEqDiff,if_false,e0]) (by simp only [upd_app,Nat.reduceEqDiff,if_false,e9]) (by simp only [upd_app,Nat.reduceEqDiff,if_false,e11]) (by simp only [upd_app,Nat.reduceEqDiff,if_false,e43]) (by simp only [upd_app,Nat.reduceEqDiff,if_false,e44])
theorem mMul {n x y:Nat} {A B:List (List Int)} {a b:AV} (ha:Sq n A a) (hb:Sq n B b) (hM:MulB n x y A B):Ret Tryz.prog G 88 [a,b] [] (.tup [matC (mulM n A B),.bool true]) []:=by
 have hn:1≤n∧n≤8:=⟨ha.lo,ha.hi⟩
 have hfit:=hM.fit
 have hsA:Shp n A:=⟨ha.len,ha.cols⟩
 have hsB:Shp n B:=⟨hb.len,hb.cols⟩
 have t1:=mShape ha.mat ha.shape
 rw [ha.cols 0 (by omega),ha.len] at t1
 have hTs:Shp n (trM n B):=mkM_shp n _
 have t2:=mTranspose (n:=n) hb.mat (by omega) (by rw [hb.len];omega) (fun i hi=>hb.cols i (by rw [hb.len] at hi;exact hi)) (T:=trM n B) hTs.len (fun i hi=>by rw [hb.len];exact hTs.row i hi) (fun i j hi hj=>by unfold trM;rw [ent_mk hi (by rw [hb.len] at hj;exact hj)])
 have hTb:Bnd y (trM n B):=by
  intro i j
  by_cases hij:i<n∧j<n
  ·unfold trM
   rw [ent_mk hij.1 hij.2];exact hM.b j i
  ·rw [hTs.out (by omega)];simp
 have hT:MatV (trM n B) (matC (trM n B)):=matC_ok (bnd_fits hTb (by omega))
 have c1:AV.closed.closedL [a]=true:=by simp only [AV.closed.closedL,ha.closed,Bool.and_self]
 have c2:AV.closed.closedL [b]=true:=by simp only [AV.closed.closedL,hb.closed,Bool.and_self]
 obtain ⟨tr,tc,hte,htl,htr⟩:=hT
 rw [hte] at t2
 have hbl:=hb.len
 obtain ⟨ar,ac,hae,hal,har⟩:=ha.mat
 obtain ⟨br,bc,hbe,hbl2,hbr⟩:=hb.mat
 subst hae hbe
 rw [ha.len] at hal har t1 c1 ⊢
 rw [hb.len] at t2 c2 ⊢
 rw [hTs.len] at htl htr t2
 refine Ret_ofw mixed Tryz.func88 comp88 _ 70 res88 nt88 (by simp) (by simp) ?_
 simp only [c88,r88_0,r88_1,SS,reduceCtorEq,reduceIte]
 refine callA_pure t1 ?_ c1
 simp only [SS,reduceIte,Nat.reduceEqDiff,List.getElem?_cons_zero,List.getElem?_cons_succ]
 simp only [r88_2,SS,reduceIte,Nat.reduceEqDiff]
 refine callA_pure t2 ?_ c2
 simp only [SS,reduceIte,Nat.reduceEqDiff,List.getElem?_cons_zero,List.getElem?_cons_succ]
 simp only [r88_3,SS,forall_const,reduceIte,Nat.reduceEqDiff]
 refine ⟨fun hne=>absurd rfl hne,fun _=>?_⟩
 simp only [r88_5,SS,reduceCtorEq,reduceIte,Nat.reduceEqDiff]
 refine callA_new (mZero (by omega) (by omega)) rfl ?_
 obtain ⟨H1,ps,hH1,hz⟩:=zero_first n n
 simp only [restA,SS,reduceIte,Nat.reduceEqDiff,AV.ren,names_nil,Nat.add_zero,hH1]
 simp only [r88_6,SS,reduceCtorEq,reduceIte,Nat.reduceEqDiff]
 refine W_loop (fun k E H=>∃i X,i+k=n∧MatH H 0 ps n X∧X.length=n∧(∀s t,ent X s t=if s<i∧t<n then ent (mulM n A B) s t else 0)∧E 0= .vec ar n ac∧E 9= .vec tr n tc∧E 11= .sl 0 0 n 1 (some n)∧E 43= .int .i64 (n:Nat)∧E 44= .int .i64 (i:Nat)) (n:=n)
  ⟨0,zmat n n,by omega,hz,(zmat_shp _ _).1,fun s t=>by rw [if_neg (by omega),zmat_ent],by simp only [upd_app,argsE_app,List.getD_cons_zero,Nat.reduceEqDiff,if_false],by simp only [upd_app,argsE_app,List.getD_cons_succ,Nat.reduceEqDiff,reduceIte,if_false],by simp only [upd_app,argsE_app,List.getD_cons_succ,Nat.reduceEqDiff,reduceIte,if_false],by simp only [upd_app,argsE_app,List.getD_cons_succ,Nat.reduceEqDiff,reduceIte,if_false],by simp only [upd_app,argsE_app,List.getD_cons_succ,Nat.reduceEqDiff,reduceIte,if_false];rfl⟩ ?_
 rintro k E H ⟨i,X,hik,hH,hXl,hX,e0,e9,e11,e43,e44⟩
 refine wpC_sound mixed ?_
 simp only [l88_0,r88_7,SS,reduceCtorEq,reduceIte,e43,e44]
 refine ⟨fun hlt=>?_,fun hge=>?_⟩
 ·obtain ⟨k,rfl⟩:∃k',k=k'+1:=⟨k-1,by omega⟩
  have hi:i<n:=by omega
  have w5:IntKind.i64.wrap ((i:Int)+1)=((i+1:Nat):Int):=by rw [show (i:Int)+1=((i+1:Nat):Int) by omega];exact w64 (by omega) (by omega)
  simp only [r88_8,r88_9,SS,reduceIte,Nat.reduceEqDiff,e9,e44]
  refine mMul_in (ar:=ar) (tr:=tr) (ac:=ac) (tc:=tc) (cap:=some n) hn hM hsA hal har htl htr hi hXl hH (by simp only [upd_app,Nat.reduceEqDiff,if_false,e0]) (by simp only [upd_app,Nat.reduceEqDiff,if_false,e9]) (by simp only [upd_app,Nat.reduceEqDiff,if_false,e11]) (by simp only [upd_app,Nat.reduceEqDiff,reduceIte,if_false]) (by simp only [upd_app,Nat.reduceEqDiff,if_false];exact e43) (by simp only [upd_app,Nat.reduceEqDiff,if_false];exact e44) (by simp only [upd_app,Nat.reduceEqDiff,reduceIte,if_false]) (by simp only [upd_app,Nat.reduceEqDiff,reduceIte,if_false]) ?_
  intro E' H' X' hH' hXl' hX' f0 f9 f11 f43 f44
  simp only [SS,reduceCtorEq,reduceIte,Nat.reduceEqDiff,r88_14,f44,w5]
  refine ⟨k,_,_,by omega,⟨i+1,X',by omega,hH',hXl',?_,?_,?_,?_,?_,?_⟩,.refl⟩
  ·intro s t
   rw [hX',hX]
   by_cases h1:s=i∧t<n
   ·rw [if_pos h1,if_pos ⟨by omega,h1.2⟩]
   ·rw [if_neg h1]
    by_cases h2:s<i∧t<n
    ·rw [if_pos h2,if_pos ⟨by omega,h2.2⟩]
    ·rw [if_neg h2,if_neg (by omega)]
  all_goals simp only [upd_app,Nat.reduceEqDiff,reduceIte,if_false, *]
 ·have hin:i=n:=by omega
  subst hin
  have e:X=mulM i A B:=by
   refine mat_ext hXl (mul_shp i A B).len (fun s hs=>hH.cols s (by omega)) (mul_shp i A B).row fun s t hs ht=>?_
   rw [hX,if_pos ⟨hs,ht⟩]
  subst e
  simp only [r88_15,SS,reduceIte,Nat.reduceEqDiff,e11]
  obtain ⟨v,g1,g2⟩:=fin_matT (cap:=some i) (b:=true) hH
  rw [hXl] at g1
  exact ⟨.inl trivial,_,v,rfl,g1,g2⟩
theorem mProduct {n x y:Nat} {A B:List (List Int)} {a b:AV} (ha:Sq n A a) (hb:Sq n B b) (hM:MulB n x y A B):Ret Tryz.prog G 39 [a,b] [] (matC (mulM n A B)) []:=by
 have t1:=mMul ha hb hM
 have c1:AV.closed.closedL [a,b]=true:=by simp only [AV.closed.closedL,ha.closed,hb.closed,Bool.and_self]
 refine Ret_of mixed Tryz.func39 comp39 _ 14 res39 nt39 (by simp) (by simp) ?_
 simp only [c39,r39_0,r39_1,SS,reduceCtorEq,reduceIte,Nat.reduceEqDiff]
 refine callA_pure t1 ?_ c1
 simp only [SS,reduceIte,Nat.reduceEqDiff,r39_2,List.getElem?_cons_zero,List.getElem?_cons_succ]
 exact ⟨.inl trivial,_,rfl,.drop _ _ rfl (by intro i cs h;omega)⟩
theorem gCongruent {n x y:Nat} {A U:List (List Int)} {a u:AV} (ha:Sq n A a) (hu:Sq n U u) (hbA:Bnd x A) (hbU:Bnd y U) (hf:64*(y*x*y)+8*(y*x)+x+y<BIG):Ret Tryz.prog G 38 [a,u] [] (matC (cgM n A U)) []:=by
 have hn:1≤n∧n≤8:=⟨ha.lo,ha.hi⟩
 have hTs:Shp n (trM n U):=mkM_shp n _
 have hTb:Bnd y (trM n U):=by
  intro i j
  by_cases hij:i<n∧j<n
  ·unfold trM
   rw [ent_mk hij.1 hij.2];exact hbU j i
  ·rw [hTs.out (by omega)];simp
 have t1:=mTranspose (n:=n) hu.mat (by omega) (by rw [hu.len];omega) (fun i hi=>hu.cols i (by rw [hu.len] at hi;exact hi)) (T:=trM n U) hTs.len (fun i hi=>by rw [hu.len];exact hTs.row i hi) (fun i j hi hj=>by unfold trM;rw [ent_mk hi (by rw [hu.len] at hj;exact hj)])
 have hsT:=sq_mk hTs hn hTb (by omega)
 have hM1:MulB n y x (trM n U) A:=⟨hTb,hbA,by omega⟩
 have t2:=mProduct hsT ha hM1
 have hb1:=hM1.bnd hn.2
 have hs1:=sq_mk (mul_shp n (trM n U) A) hn hb1 (by omega)
 have e1:8*(8*(y*x)*y)=64*(y*x*y):=by rw [Nat.mul_assoc 8,←Nat.mul_assoc]
 have hM2:MulB n (8*(y*x)) y (mulM n (trM n U) A) U:=⟨hb1,hbU,by omega⟩
 have t3:=mProduct hs1 hu hM2
 have c1:AV.closed.closedL [u]=true:=by simp only [AV.closed.closedL,hu.closed,Bool.and_self]
 have c2:AV.closed.closedL [matC (trM n U),a]=true:=by simp only [AV.closed.closedL,ha.closed,hsT.closed,Bool.and_self]
 have c3:AV.closed.closedL [matC (mulM n (trM n U) A),u]=true:=by simp only [AV.closed.closedL,hu.closed,hs1.closed,Bool.and_self]
 refine Ret_of mixed Tryz.func38 comp38 _ 17 res38 nt38 (by simp) (by simp) ?_
 simp only [c38,r38_0,r38_1,SS,reduceCtorEq,reduceIte,Nat.reduceEqDiff]
 refine callA_pure t1 ?_ c1
 simp only [SS,reduceCtorEq,reduceIte,Nat.reduceEqDiff,r38_2,List.getElem?_cons_zero,List.getElem?_cons_succ]
 refine callA_pure t2 ?_ c2
 simp only [SS,reduceIte,Nat.reduceEqDiff]
 refine callA_pure t3 ?_ c3
 simp only [SS,reduceIte,Nat.reduceEqDiff]
 exact ⟨.inl trivial,_,rfl,.drop _ _ rfl (by intro i cs h;omega)⟩
end Go.Proofs.YtenboapacjlmoaaGreatDoor
namespace Go.Limb
set_option linter.unusedSimpArgs false
set_option linter.unusedVariables false
def setBit (l:List Nat) (i:Nat):List Nat:=l.set (i/32) (l.getD (i/32) 0 ||| 2^(i%32))
theorem setBit_len (l:List Nat) (i:Nat):(setBit l i).length=l.length:=by simp [setBit]
theorem pow32 (w:Nat):(4294967296:Nat)^w=2^(32*w):=by rw [Nat.pow_mul]
theorem low_zero {l:List Nat} {i:Nat} (h:Dig l) (h0:val l%2^(i+1)=0):l.getD (i/32) 0%2^(i%32+1)=0:=by
 rw [val_digit l _ h,pow32]
 have hs:i%32<32:=Nat.mod_lt _ (by decide)
 have hi:i+1=32*(i/32)+(i%32+1):=by omega
 obtain ⟨t,ht⟩:2^(i+1)∣val l:=Nat.dvd_of_mod_eq_zero h0
 rw [ht]
 have hp:2^(i+1)=2^(32*(i/32))*2^(i%32+1):=by rw [←Nat.pow_add,←hi]
 rw [hp,Nat.mul_assoc,Nat.mul_div_cancel_left _ (Nat.pow_pos (by decide))]
 generalize i%32=s at*
 have e3:(4294967296:Nat)=2^(s+1)*2^(31-s):=by
  rw [←Nat.pow_add,show s+1+(31-s)=32 by omega]
 rw [e3,Nat.mod_mul_right_mod,Nat.mul_mod_right]
theorem setBit_spec {l:List Nat} {i:Nat} (h:Dig l) (hi:i/32<l.length) (h0:val l%2^(i+1)=0):val (setBit l i)=val l+2^i∧Dig (setBit l i):=by
 have hz:=low_zero h h0
 have hs:i%32<32:=Nat.mod_lt _ (by decide)
 have hb:=h.getD (i/32)
 have hpl:2^(i%32)<4294967296:=by
  have:2^(i%32)<2^32:=Nat.pow_lt_pow_right (by decide) hs
  exact this
 have hor:l.getD (i/32) 0 ||| 2^(i%32)<4294967296:=Nat.or_lt_two_pow (n:=32) hb hpl
 refine ⟨?_,h.set hor⟩
 have hv:=val_set (l:=l) (i:=i/32) (v:=l.getD (i/32) 0 ||| 2^(i%32)) hi
 rw [or_pow hz,Nat.mul_add] at hv
 have e:4294967296^(i/32)*2^(i%32)=2^i:=by
  rw [pow32,←Nat.pow_add]
  congr 1
  omega
 rw [e] at hv
 unfold setBit
 rw [or_pow hz]
 omega
structure DivS (m n:List Nat) (k:Nat) (qs r:List Nat):Prop where
 len:qs.length=m.length
 dig:Dig qs
 canon:Canon r
 lt:val r<val n
 ex:∃Q,val qs=Q*2^k∧val m/2^k=Q*val n+val r
theorem DivS.start {m n:List Nat} (hm:Dig m) (hn:val n≠0):DivS m n (32*m.length) (List.replicate m.length 0) []:=by
 have hr:∀k,val (List.replicate k 0)=0:=by
  intro k
  induction k with
  | zero=>rfl
  | succ k ih=>rw [List.replicate_succ,val,ih]
 refine ⟨by simp,?_,Canon.nil,by show 0<val n;omega,0,by rw [hr];omega,?_⟩
 ·intro d hd
  rw [List.eq_of_mem_replicate hd];decide
 ·have:=val_lt hm
  rw [pow32] at this
  rw [Nat.div_eq_of_lt this]
  show 0=0*val n+0
  omega
theorem bit_next {m:List Nat} {k:Nat}:val m/2^(k+1)=val m/2^k/2:=by
 rw [Nat.div_div_eq_div_mul,Nat.pow_succ]
theorem pow_step (Q k:Nat):Q*2^(k+1)=2*Q*2^k:=by
 rw [Nat.pow_succ,←Nat.mul_assoc,Nat.mul_comm _ 2,Nat.mul_assoc]
theorem DivS.low {m n qs r r2:List Nat} {k:Nat} (h:DivS m n (k+1) qs r) (c2:Canon r2) (hv:val r2=2*val r+val m/2^k%2) (hlt:val r2<val n):DivS m n k qs r2:=by
 obtain ⟨Q,e1,e2⟩:=h.ex
 rw [bit_next] at e2
 have:=(div_step (V:=val m/2^k) (b:=val m/2^k%2) (Nat.mod_lt _ (by decide)) e2 h.lt rfl).1 (by omega)
 exact ⟨h.len,h.dig,c2,hlt,2*Q,by rw [e1,pow_step],by rw [hv];exact this⟩
theorem DivS.high {m n qs r r2:List Nat} {k:Nat} (h:DivS m n (k+1) qs r) (hk:k<32*m.length) (c2:Canon r2) (hge:val n≤2*val r+val m/2^k%2) (hv:val r2+val n=2*val r+val m/2^k%2):DivS m n k (setBit qs k) r2:=by
 obtain ⟨Q,e1,e2⟩:=h.ex
 rw [bit_next] at e2
 have h2:=(div_step (V:=val m/2^k) (b:=val m/2^k%2) (Nat.mod_lt _ (by decide)) e2 h.lt rfl).2 hge
 have hs:=setBit_spec (i:=k) h.dig (by rw [h.len];omega) (by rw [e1];exact Nat.mul_mod_left _ _)
 refine ⟨by rw [setBit_len,h.len],hs.2,c2,by omega,2*Q+1,?_,?_⟩
 ·rw [hs.1,e1,pow_step,Nat.add_mul,Nat.one_mul]
 ·have e:val r2=2*val r+val m/2^k%2-val n:=by omega
  rw [e];exact h2.1
theorem DivS.done {m n qs r:List Nat} (h:DivS m n 0 qs r):val qs=val m/val n∧val r=val m%val n:=by
 obtain ⟨Q,e1,e2⟩:=h.ex
 simp only [Nat.pow_zero,Nat.mul_one,Nat.div_one] at e1 e2
 have hlt:=h.lt
 rw [e1,e2]
 constructor
 ·rw [Nat.mul_comm,Nat.mul_add_div (by omega),Nat.div_eq_of_lt hlt];omega
 ·rw [Nat.mul_comm,Nat.mul_add_mod,Nat.mod_eq_of_lt hlt]
end Go.Limb
namespace Go.Proofs.YtenboapacjlmoaaGreatDoor
set_option linter.unusedSimpArgs false
set_option linter.unusedVariables false
open Go Go.AL Go.Proofs Go.Limb
set_option maxRecDepth 100000
theorem canon_len {m n:List Nat} (hm:Canon m) (hn:Canon n) (h:val m≤val n):m.length≤n.length:=by
 rcases Nat.lt_or_ge n.length m.length with h1 | h1
 ·have h2:=val_lt hn.1
  have h3:=val_pos hm.2 (by intro e;rw [e] at h1;simp at h1)
  have h4:4294967296^n.length≤4294967296^(m.length-1):=Nat.pow_le_pow_right (by decide) (by omega)
  omega
 ·exact h1
theorem and1 {x:Nat} (hx:x<4294967296):IntKind.u32.wrap (((BitVec.ofInt IntKind.u32.bits (x:Int) &&& BitVec.ofInt IntKind.u32.bits 1).toNat:Nat):Int)=((x%2:Nat):Int):=by
 have h:(BitVec.ofInt IntKind.u32.bits (x:Int) &&& BitVec.ofInt IntKind.u32.bits 1).toNat=x%2:=by
  show (BitVec.ofInt 32 (x:Int) &&& BitVec.ofInt 32 ((1:Nat):Int)).toNat=x%2
  rw [BitVec.toNat_and,BitVec.ofInt_natCast,BitVec.ofInt_natCast,BitVec.toNat_ofNat,BitVec.toNat_ofNat,Nat.mod_eq_of_lt hx]
  exact Nat.and_one_is_mod x
 rw [h]
 exact wu32' (by omega)
theorem shrN {x s:Nat} (hs:s<32):Int.fdiv (x:Int) (2^min s IntKind.u32.bits)=((x/2^s:Nat):Int):=by
 have e:min s IntKind.u32.bits=s:=by show min s 32=s;omega
 rw [e]
 have e2:(2:Int)^s=((2^s:Nat):Int):=by simp
 rw [e2,Int.fdiv_eq_ediv_of_nonneg _ (Int.natCast_nonneg _)]
 rfl
theorem shlN {s:Nat} (hs:s<32):IntKind.u32.wrap ((1:Int)*2^min s IntKind.u32.bits)=((2^s:Nat):Int):=by
 have e:min s IntKind.u32.bits=s:=by show min s 32=s;omega
 rw [e,Int.one_mul]
 have e2:(2:Int)^s=((2^s:Nat):Int):=by simp
 rw [e2]
 refine wu32' ?_
 have:2^s<2^32:=Nat.pow_lt_pow_right (by decide) hs
 exact this
theorem zdiv_loop {m n:List Nat} {c d:Option Nat} (cm:Canon m) (cn:Canon n) (lm:m.length≤1100) (ln:n.length≤1100) (hn0:val n≠0) {E:Env} {Q:Post} (e0:E 0= .vec (u32s m) m.length c) (e1:E 1= .vec (u32s n) n.length d)
  (e4:E 4= .sl 0 0 m.length 1 (some m.length)) (e5:E 5= .vec [] 0 (some 0)) (e8:E 8= .int .i64 (((32*m.length:Nat):Int)-1))
  (hQ:∀E' qs r cr,DivS m n 0 qs r→E' 4= .sl 0 0 m.length 1 (some m.length)→E' 5= .vec (u32s r) r.length cr→Q (.exit 0) E' [some (u32s qs)]):
  W Tryz.prog G 0 75 (.loop l159_0) E [some (u32s (List.replicate m.length 0))] Q:=by
 refine W_loop (fun k E H=>∃qs r cr,DivS m n k qs r∧k≤32*m.length∧E 0= .vec (u32s m) m.length c∧E 1= .vec (u32s n) n.length d∧E 4= .sl 0 0 m.length 1 (some m.length)∧E 5= .vec (u32s r) r.length cr∧E 8= .int .i64 ((k:Int)-1)∧H=[some (u32s qs)])
  (n:=32*m.length) ⟨_,[],some 0,DivS.start cm.1 hn0,Nat.le_refl _,e0,e1,e4,e5,e8,rfl⟩ ?_
 clear e0 e1 e4 e5 e8
 rintro k E H ⟨qs,r,cr,hD,hk,e0,e1,e4,e5,e8,rfl⟩
 refine wpC_sound mixed ?_
 simp only [l159_0,r159_6,SS,reduceIte,Nat.reduceEqDiff,e8]
 refine ⟨fun hge=>?_,fun hlt=>?_⟩
 ·obtain ⟨k,rfl⟩:∃k',k=k'+1:=⟨k-1,by omega⟩
  have e5k:((k+1:Nat):Int)-1=(k:Nat):=by omega
  rw [e5k] at e8
  have hw:k/32<m.length:=by omega
  have hs:k%32<32:=Nat.mod_lt _ (by decide)
  have g1:=u32s_getD m (k/32) hw AV.junk
  have bm:=cm.1.getD (k/32)
  have lr:=canon_len hD.canon cn (Nat.le_of_lt hD.lt)
  have hb1:m.getD (k/32) 0/2^(k%32)<4294967296:=Nat.lt_of_le_of_lt (Nat.div_le_self _ _) bm
  have hbit:=val_bit m k cm.1
  have hbl:m.getD (k/32) 0/2^(k%32)%2≤1:=by omega
  obtain ⟨c1,t1⟩:=zdouble r cr (m.getD (k/32) 0/2^(k%32)%2) hD.canon.1 hbl (by omega)
  have dd:=dblL_dig r _ hD.canon.1 hbl
  have dl:=dblL_len r (m.getD (k/32) 0/2^(k%32)%2)
  have dv:=dblL_val r (m.getD (k/32) 0/2^(k%32)%2)
  generalize hdb:dblL r (m.getD (k/32) 0/2^(k%32)%2)=db at*
  obtain ⟨c2,t2⟩:=zTrim db c1 (by omega)
  have kc:=trimL_canon dd
  have kv:=val_trimL db
  have kl:=trimL_le db
  generalize trimL db=r1 at*
  rw [dv,hbit] at kv
  have t3:=zcmp r1 n c2 d (by omega) (by omega)
  rw [cmpL_spec kc cn] at t3
  have w3:IntKind.i64.wrap ((k:Int)-1)=(k:Int)-1:=w64 (by omega) (by omega)
  have q1:Int.tdiv (k:Int) 32=((k/32:Nat):Int):=rfl
  have q2:Int.tmod (k:Int) 32=((k%32:Nat):Int):=rfl
  have q3:IntKind.i64.wrap ((k/32:Nat):Int)=((k/32:Nat):Int):=w64 (by omega) (by omega)
  have q4:IntKind.i64.wrap ((k%32:Nat):Int)=((k%32:Nat):Int):=w64 (by omega) (by omega)
  simp only [r159_7,SS,forall_const,reduceCtorEq,reduceIte,Nat.reduceEqDiff,e0,e5,e8,q1,q2,q3,Int.toNat_natCast,g1,u32s_len,shrN hs,and1 hb1]
  refine ⟨by omega,⟨by omega,by omega⟩,by omega,by omega,by omega,?_⟩
  refine callA_pure t1 ?_
  simp only [SS,reduceIte,Nat.reduceEqDiff]
  refine callA_pure t2 ?_
  simp only [SS,reduceIte,Nat.reduceEqDiff]
  simp only [r159_8,SS,reduceIte,Nat.reduceEqDiff,e1]
  refine callA_pure t3 ?_
  simp only [SS,reduceIte,Nat.reduceEqDiff]
  refine ⟨fun hc=>?_,fun hc=>?_⟩
  ·have hle:val n≤val r1:=by
    unfold sgn at hc
    split at hc
    ·omega
    ·split at hc<;>omega
   have hl2:=canon_len cn kc hle
   obtain ⟨c3,t4⟩:=zdifference r1 n c2 d (by omega) hl2 kc.1 cn.1
   obtain ⟨v1,v2,v3⟩:=difL_spec r1 n kc.1 cn.1 hl2 hle r1.length 0 0 [] (by decide) rfl Dig.nil (by omega) (by simp [Limb.val])
   generalize difL r1 n r1.length 0 0 []=r2 at*
   obtain ⟨c4,t5⟩:=zTrim r2 c3 (by omega)
   have mc:=trimL_canon v2
   have mv:=val_trimL r2
   generalize trimL r2=r3 at*
   have hD2:=hD.high (r2:=r3) (by omega) mc (by rw [←kv];exact hle) (by rw [mv,v1,kv])
   have bq:=hD.dig.getD (k/32)
   have g2:=u32s_getD qs (k/32) (by rw [hD.len];exact hw) AV.junk
   have hpl:2^(k%32)<4294967296:=by
    have:2^(k%32)<2^32:=Nat.pow_lt_pow_right (by decide) hs
    exact this
   have wo:=or32 bq hpl
   simp only [r159_9,SS,reduceIte,Nat.reduceEqDiff,e1]
   refine callA_pure t4 ?_
   simp only [SS,reduceIte,Nat.reduceEqDiff]
   refine callA_pure t5 ?_
   simp only [SS,reduceIte,Nat.reduceEqDiff]
   simp only [r159_10,SS,forall_const,reduceIte,Nat.reduceEqDiff,e4,e8,q1,q2,q3,Int.toNat_natCast,g2,u32s_len,hD.len,shlN hs,wo,u32s_set]
   refine ⟨by omega,⟨by omega,by omega⟩,by omega,by omega,by omega,⟨by omega,by omega⟩,by omega,rfl,?_⟩
   simp only [r159_11,SS,reduceIte,Nat.reduceEqDiff,e8,w3]
   refine ⟨k,_,_,by omega,⟨setBit qs k,r3,c4,hD2,by omega,?_,?_,?_,?_,?_,rfl⟩,.refl⟩<;>simp only [upd_app,Nat.reduceEqDiff,reduceIte,if_false, *]
  ·have hle:val r1<val n:=by
    unfold sgn at hc
    split at hc
    ·assumption
    ·exfalso
     split at hc<;>omega
   have hD2:=hD.low (r2:=r1) kc kv hle
   simp only [r159_11,SS,reduceIte,Nat.reduceEqDiff,e8,w3]
   refine ⟨k,_,_,by omega,⟨qs,r1,c2,hD2,by omega,?_,?_,?_,?_,?_,rfl⟩,.refl⟩<;>simp only [upd_app,Nat.reduceEqDiff,reduceIte,if_false, *]
 ·have hk0:k=0:=by omega
  subst hk0
  exact hQ _ qs r cr hD (by simp only [upd_app,Nat.reduceEqDiff,if_false,e4]) (by simp only [upd_app,Nat.reduceEqDiff,if_false,e5])
theorem zdivide (m n:List Nat) (c d:Option Nat) (cm:Canon m) (cn:Canon n) (lm:m.length≤1100) (ln:n.length≤1100) (hn0:val n≠0):DivC m n c d:=by
 by_cases hsm:m.length≤2∧n.length≤2
 ·have p2:∀l:List Nat,Dig l→l.length≤2→val l<18446744073709551616:=by
   intro l hl h
   have h1:=val_lt hl
   have h2:4294967296^l.length≤4294967296^2:=Nat.pow_le_pow_right (by decide) h
   omega
  exact zdivide_small m n c d cm cn (p2 m cm.1 hsm.1) (p2 n cn.1 hsm.2) hn0
 have dq:val m/val n≤val m:=Nat.div_le_self _ _
 have dr:val m%val n≤val m:=Nat.mod_le _ _
 have lq:=canon_len (limbsOf_canon (val m/val n)) cm (by rw [val_limbsOf];exact dq)
 have lr:=canon_len (limbsOf_canon (val m%val n)) cm (by rw [val_limbsOf];exact dr)
 refine ⟨limbsOf (val m/val n),limbsOf (val m%val n),none,none,limbsOf_canon _,limbsOf_canon _,by omega,by omega,val_limbsOf _,val_limbsOf _,?_⟩
 have w1:IntKind.i64.wrap (32*(m.length:Int))=((32*m.length:Nat):Int):=by rw [show 32*(m.length:Int)=((32*m.length:Nat):Int) by omega];exact w64 (by omega) (by omega)
 have w2:IntKind.i64.wrap (((32*m.length:Nat):Int)-1)=((32*m.length:Nat):Int)-1:=w64 (by omega) (by omega)
 have hrep:List.replicate m.length (AV.int IntKind.u32 0)=u32s (List.replicate m.length 0):=by simp [u32s]
 refine Ret_ofw mixed Tryz.func159 comp159 _ 75 res159 nt159 (by simp) (by simp) ?_
 have fin:∀E' qs r cr,DivS m n 0 qs r→E' 4= .sl 0 0 m.length 1 (some m.length)→E' 5= .vec (u32s r) r.length cr→
   wpC Tryz.prog G 0 75 (.seq (.reg r159_12 none) .ret) E' [some (u32s qs)] (fun x E' H'=>(x= .ret∨x= .normal)∧∃v' v'',resA Tryz.prog [(.tmp 4),(.tmp 5)] E' H'=some v'∧AL.Fin 0 v' H' v'' []∧v''.wk=(.tup [.vec (u32s (limbsOf (val m/val n))) (limbsOf (val m/val n)).length none,.vec (u32s (limbsOf (val m%val n))) (limbsOf (val m%val n)).length none])):=by
  intro E' qs r cr hD e4 e5
  obtain ⟨v1,v2⟩:=hD.done
  obtain ⟨c3,t1⟩:=zTrim qs (some m.length) (by rw [hD.len];omega)
  have eq:trimL qs=limbsOf (val m/val n):=canon_inj (trimL_canon hD.dig) (limbsOf_canon _) (by rw [val_trimL,v1,val_limbsOf])
  have er:r=limbsOf (val m%val n):=canon_inj hD.canon (limbsOf_canon _) (by rw [v2,val_limbsOf])
  rw [eq] at t1
  subst er
  simp only [r159_12,SS,reduceCtorEq,reduceIte,e4]
  refine callA_frz (id:=0) (cs:=u32s qs) (d:=2) (args0:=[.sl 0 0 m.length 1 (some m.length)]) (args':=[.vec (u32s qs) qs.length (some m.length)]) t1 rfl ?_ rfl ?_ rfl (u32s_closed _) rfl
  ·have:=frz_mag (l:=qs) (n:=m.length) (c:=some m.length) hD.len.symm
   rw [List.mapM_cons,this]
   simp [hD.len]
  simp only [restA,applyE,List.replicate_zero,List.append_nil,SS,reduceIte,Nat.reduceEqDiff,e5]
  refine ⟨.inl trivial,_,_,rfl,.drop _ _ rfl (by intro i cs h;omega),?_⟩
  simp only [AV.wk,AV.wk.wkL,wk_u32s,upd_app,Nat.reduceEqDiff,reduceIte,if_false]
 rcases Nat.lt_or_ge 2 m.length with h2 | h2
 ·have d1:decide ((m.length:Int)≤2)=false:=decide_eq_false (by omega)
  simp only [c159,r159_0,r159_1,SS,forall_const,reduceCtorEq,reduceIte,Nat.reduceEqDiff,d1]
  simp only [r159_4,r159_5,SS,reduceCtorEq,reduceIte,Nat.reduceEqDiff,Int.toNat_natCast,w1,w2,hrep]
  refine ⟨by omega,⟨by omega,by omega,by omega,by omega⟩,?_⟩
  refine zdiv_loop (c:=c) (d:=d) cm cn lm ln hn0 (by simp only [upd_app,argsE_app,List.getD_cons_zero,Nat.reduceEqDiff,if_false]) (by simp only [upd_app,argsE_app,List.getD_cons_zero,List.getD_cons_succ,Nat.reduceEqDiff,if_false]) (by simp only [upd_app,argsE_app,List.getD_cons_succ,Nat.reduceEqDiff,reduceIte,if_false]) (by simp only [upd_app,argsE_app,List.getD_cons_succ,Nat.reduceEqDiff,reduceIte,if_false]) (by simp only [upd_app,argsE_app,List.getD_cons_succ,Nat.reduceEqDiff,reduceIte,if_false]) ?_
  intro E' qs r cr hD f4 f5
  have:=fin E' qs r cr hD f4 f5
  simp only [SS,reduceCtorEq,reduceIte] at this ⊢
  exact this
 ·have d1:decide ((m.length:Int)≤2)=true:=decide_eq_true (by omega)
  have d2:decide ((n.length:Int)≤2)=false:=decide_eq_false (by omega)
  simp only [c159,r159_0,r159_1,SS,forall_const,reduceCtorEq,reduceIte,Nat.reduceEqDiff,d1,d2]
  simp only [r159_4,r159_5,SS,reduceCtorEq,reduceIte,Nat.reduceEqDiff,Int.toNat_natCast,w1,w2,hrep]
  refine ⟨by omega,⟨by omega,by omega,by omega,by omega⟩,?_⟩
  refine zdiv_loop (c:=c) (d:=d) cm cn lm ln hn0 (by simp only [upd_app,argsE_app,List.getD_cons_zero,Nat.reduceEqDiff,if_false]) (by simp only [upd_app,argsE_app,List.getD_cons_zero,List.getD_cons_succ,Nat.reduceEqDiff,if_false]) (by simp only [upd_app,argsE_app,List.getD_cons_succ,Nat.reduceEqDiff,reduceIte,if_false]) (by simp only [upd_app,argsE_app,List.getD_cons_succ,Nat.reduceEqDiff,reduceIte,if_false]) (by simp only [upd_app,argsE_app,List.getD_cons_succ,Nat.reduceEqDiff,reduceIte,if_false]) ?_
  intro E' qs r cr hD f4 f5
  have:=fin E' qs r cr hD f4 f5
  simp only [SS,reduceCtorEq,reduceIte] at this ⊢
  exact this
theorem divB_all:DivB BIG:=⟨Nat.le_refl _,fun x y _ _ h0 m n c d cm cn lm ln _ hn=>zdivide m n c d cm cn lm ln (by omega)⟩
end Go.Proofs.YtenboapacjlmoaaGreatDoor
namespace Go.Proofs.YtenboapacjlmoaaGreatDoor
set_option linter.unusedSimpArgs false
set_option linter.unusedVariables false
open Go Go.AL Go.Proofs Go.Limb
set_option maxRecDepth 100000
theorem zQuoA {x y:Int} {a b:AV} (ha:IsInt x a) (hb:IsInt y b) (hy:y≠0):∃v,IsInt (x/y) v∧Ret Tryz.prog G 65 [a,b] [] v []:=
 zQuo ha hb hy (divB_all.2 x y ha.fits hb.fits hy) (Nat.lt_of_le_of_lt (Int.natAbs_ediv_le_natAbs x y) ha.fits)
theorem zRem {x y:Int} {a b:AV} (ha:IsInt x a) (hb:IsInt y b) (hy:y≠0):∃v,IsInt (x%y) v∧Ret Tryz.prog G 118 [a,b] [] v []:=by
 obtain ⟨v,w,hv,hw,t⟩:=zDivMod ha hb hy (divB_all.2 x y ha.fits hb.fits hy) (Nat.lt_of_le_of_lt (Int.natAbs_ediv_le_natAbs x y) ha.fits)
 obtain ⟨l,ca,_,_,_,rfl⟩:=ha
 obtain ⟨n,cb,_,_,_,rfl⟩:=hb
 have hw0:=hw
 obtain ⟨lv,cv,_,_,_,rfl⟩:=hv
 obtain ⟨lw,cw,_,_,_,rfl⟩:=hw
 refine ⟨_,hw0,?_⟩
 refine Ret_of mixed Tryz.func118 comp118 _ 16 res118 nt118 (by simp) (by simp) ?_
 simp only [c118,r118_0,r118_1,SS,reduceCtorEq,reduceIte,Nat.reduceAdd,Nat.reduceEqDiff,Nat.reduceLeDiff]
 refine callA_pure t ?_
 simp only [SS,reduceIte,Nat.reduceAdd,Nat.reduceEqDiff,Nat.reduceLeDiff,List.getElem?_cons_zero,List.getElem?_cons_succ]
 simp only [r118_2,SS,reduceIte,Nat.reduceAdd,Nat.reduceEqDiff,Nat.reduceLeDiff]
 exact ⟨.inl trivial,_,rfl,.drop _ _ rfl (by intro i cs h;omega)⟩
theorem zGcd {x y:Int} {a b:AV} (ha:IsInt x a) (hb:IsInt y b):Ret Tryz.prog G 64 [a,b] [] (intV (Int.gcd x y:Int)) []:=by
 obtain ⟨va,hva,t1⟩:=zAbs ha
 obtain ⟨vb,hvb,t2⟩:=zAbs hb
 obtain ⟨l,ca,_,_,_,rfl⟩:=ha
 obtain ⟨n,cb,_,_,_,rfl⟩:=hb
 obtain ⟨la,da,_,_,_,hea⟩:=id hva
 obtain ⟨lb,db,_,_,_,heb⟩:=id hvb
 subst hea heb
 refine Ret_ofw mixed Tryz.func64 comp64 _ 19 res64 nt64 (by simp) (by simp) ?_
 simp only [c64,r64_0,r64_1,SS,reduceCtorEq,reduceIte,Nat.reduceAdd,Nat.reduceEqDiff,Nat.reduceLeDiff]
 refine callA_pure t1 ?_
 simp only [SS,reduceIte,Nat.reduceAdd,Nat.reduceEqDiff,Nat.reduceLeDiff]
 refine callA_pure t2 ?_
 simp only [SS,reduceIte,Nat.reduceAdd,Nat.reduceEqDiff,Nat.reduceLeDiff]
 refine ⟨rfl,?_⟩
 refine W_loop (fun k E H=>∃(p q:Nat) (u1 v1 u2 v2:AV),q=k∧Nat.gcd p q=Int.gcd x y∧IsInt (p:Int) (.agg [u1,v1])∧IsInt (q:Int) (.agg [u2,v2])∧E 4= .ptr 2 0∧E 5= .ptr 3 0∧E 6= .ptr 4 0∧
  H=[some [.bool (decide (x<0)),.vec (u32s l) l.length ca],some [.bool (decide (y<0)),.vec (u32s n) n.length cb],some [.bool false,.vec [] 0 (some 0)],some [u1,v1],some [u2,v2]]) (n:=y.natAbs)
  ⟨x.natAbs,y.natAbs,_,_,_,_,rfl,rfl,hva,hvb,by simp only [upd_app,argsE_app,List.getD_cons_succ,Nat.reduceEqDiff,reduceIte,if_false],by simp only [upd_app,argsE_app,List.getD_cons_succ,Nat.reduceEqDiff,reduceIte,if_false],by simp only [upd_app,argsE_app,List.getD_cons_succ,Nat.reduceEqDiff,reduceIte,if_false],rfl⟩ ?_
 rintro k E H ⟨p,q,u1,v1,u2,v2,rfl,hg,h1,h2,e4,e5,e6,rfl⟩
 refine wpC_sound mixed ?_
 have t3:=zSign h2
 obtain ⟨l1,c1,x1,y1⟩:=intCells h1
 obtain ⟨l2,c2,x2,y2⟩:=intCells h2
 subst x1 y1 x2 y2
 simp only [l64_0,r64_2,SS,reduceCtorEq,reduceIte,Nat.reduceAdd,Nat.reduceEqDiff,Nat.reduceLeDiff,e6]
 refine callA_pure t3 ?_
 simp only [SS,reduceIte,Nat.reduceEqDiff]
 refine ⟨fun hne=>?_,fun heq=>?_⟩
 ·have hq:(q:Int)≠0:=by
   intro e
   rw [e] at hne
   exact hne rfl
  obtain ⟨w,hw,t4⟩:=zRem h1 h2 hq
  obtain ⟨lw,cw,_,_,_,rfl⟩:=id hw
  have em:((p:Int)%(q:Int))=((p%q:Nat):Int):=by omega
  rw [em] at hw
  have hlt:p%q<q:=Nat.mod_lt _ (by omega)
  simp only [r64_3,SS,reduceIte,Nat.reduceAdd,Nat.reduceEqDiff,Nat.reduceLeDiff,e5,e6]
  refine callA_pure t4 ?_
  simp only [SS,reduceIte,Nat.reduceAdd,Nat.reduceEqDiff,Nat.reduceLeDiff,e5,e6]
  refine ⟨rfl,?_⟩
  refine ⟨p%q,_,_,hlt,⟨q,p%q,_,_,_,_,rfl,?_,h2,hw,?_,?_,?_,?_⟩,.refl⟩
  ·rw [←hg,Nat.gcd_comm p q,Nat.gcd_rec q p,Nat.gcd_comm]
  ·simp only [upd_app,Nat.reduceEqDiff,if_false,e4]
  ·simp only [upd_app,Nat.reduceEqDiff,if_false,e5]
  ·simp only [upd_app,Nat.reduceEqDiff,if_false,e6]
  ·rw [em]
 ·have hq:q=0:=by
   have h0:((q:Nat):Int).sign=0:=Decidable.not_not.1 heq
   have:=Int.sign_eq_zero_iff_zero.1 h0
   omega
  subst hq
  rw [Nat.gcd_zero_right] at hg
  rw [hg] at h1
  simp only [r64_4,SS,reduceIte,Nat.reduceAdd,Nat.reduceEqDiff,Nat.reduceLeDiff,e4,e5]
  exact ⟨.inl trivial,_,_,resA_int (id:=2) (by simp only [upd_app,Nat.reduceEqDiff,if_false,e4]) rfl,.drop _ _ rfl (by intro i cs h;omega),h1.wk⟩
end Go.Proofs.YtenboapacjlmoaaGreatDoor
namespace Go.Proofs.YtenboapacjlmoaaGreatDoor
set_option linter.unusedSimpArgs false
set_option linter.unusedVariables false
open Go Go.AL Go.Det
def numR (n d:Int):Int:=n/(Int.gcd n d:Int)
def denR (n d:Int):Int:=d/(Int.gcd n d:Int)
theorem gcd_pos {n d:Int} (hd:0<d):0<(Int.gcd n d:Int):=by
 have:=Int.gcd_pos_of_ne_zero_right n (show d≠0 by omega)
 omega
theorem num_mul (n d:Int):numR n d*(Int.gcd n d:Int)=n:=Int.ediv_mul_cancel (Int.gcd_dvd_left ..)
theorem den_mul (n d:Int):denR n d*(Int.gcd n d:Int)=d:=Int.ediv_mul_cancel (Int.gcd_dvd_right ..)
theorem den_pos {n d:Int} (hd:0<d):0<denR n d:=by
 have h1:=gcd_pos (n:=n) hd
 have h2:=den_mul n d
 rcases Int.lt_or_le 0 (denR n d) with h | h
 ·exact h
 ·have:=Int.mul_le_mul_of_nonneg_right h (show (0:Int)≤(Int.gcd n d:Int) by omega)
  omega
theorem num_le (n d:Int):(numR n d).natAbs≤n.natAbs:=Int.natAbs_ediv_le_natAbs _ _
theorem den_le (n d:Int):(denR n d).natAbs≤d.natAbs:=Int.natAbs_ediv_le_natAbs _ _
theorem gcd_one {n d:Int} (hd:0<d):Int.gcd (numR n d) (denR n d)=1:=by
 have h1:=gcd_pos (n:=n) hd
 exact Int.gcd_ediv_gcd_ediv_gcd (by omega)
theorem num_num {n d:Int} (hd:0<d):numR (numR n d) (denR n d)=numR n d:=by
 show numR n d/(Int.gcd (numR n d) (denR n d):Int)=_
 rw [gcd_one hd];exact Int.ediv_one _
theorem den_den {n d:Int} (hd:0<d):denR (numR n d) (denR n d)=denR n d:=by
 show denR n d/(Int.gcd (numR n d) (denR n d):Int)=_
 rw [gcd_one hd];exact Int.ediv_one _
theorem quo_low {n d:Int} (hd:0<d):numR n d/denR n d=n/d:=by
 have h1:=gcd_pos (n:=n) hd
 have e1:=num_mul n d
 have e2:=den_mul n d
 have e3:(numR n d*(Int.gcd n d:Int))/(denR n d*(Int.gcd n d:Int))=numR n d/denR n d:=Int.mul_ediv_mul_of_pos_left _ _ h1
 rw [e1,e2] at e3
 exact e3.symm
theorem near_low {l d:Int} (hd:0<d):(numR l d*2+1*denR l d)/(denR l d*2)=nearZ l d:=by
 unfold nearZ
 have h1:=gcd_pos (n:=l) hd
 have e1:=num_mul l d
 have e2:=den_mul l d
 have e3:((numR l d*2+1*denR l d)*(Int.gcd l d:Int))/((denR l d*2)*(Int.gcd l d:Int))=(numR l d*2+1*denR l d)/(denR l d*2):=Int.mul_ediv_mul_of_pos_left _ _ h1
 rw [←e3]
 congr 1
 ·rw [Int.add_mul,Int.one_mul,e2,Int.mul_assoc,Int.mul_comm 2,←Int.mul_assoc,e1];omega
 ·rw [Int.mul_assoc,Int.mul_comm 2,←Int.mul_assoc,e2];omega
theorem half_num:numR 1 2=1:=by decide
theorem half_den:denR 1 2=2:=by decide
end Go.Proofs.YtenboapacjlmoaaGreatDoor
