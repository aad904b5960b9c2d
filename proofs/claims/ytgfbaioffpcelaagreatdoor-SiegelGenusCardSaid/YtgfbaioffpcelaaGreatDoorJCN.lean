/- quadformlaw40.SiegelGenus returns true at every input, in every world in which the package variable quadform/prime.offsets holds what the program's text lays: the densities at a prime, and Siegel's means, of two reduced forms of one lattice are the same rational numbers, and the means are not negative. Conditions: none beyond the card's own. -/
import Derived.Test.YtgfbaioffpcelaaGreatDoorCards
import Derived.Test.YtgfbaioffpcelaaGreatDoorTie
import Derived.Test.YtgfbaioffpcelaaGreatDoorPI
import Derived.WalkKit
import Derived.ProofKit
import Derived.OpenShut
import Derived.Deep.DeepHandedRow
import Derived.Lib.LaidTab
set_option linter.all false
set_option maxRecDepth 100000
open List renaming append_nil -> qQ
namespace Go.Proofs.YtgfbaioffpcelaaGreatDoor.siegelGenus
open Go Go.AL Go.Proofs Go.ChangeShapes Go.WideShapes Go.ChangeAt Go.RowKit
theorem own:ownKnob Tryz.prog.godebug=none:=by kernel_rfl
theorem gTab:Tryz.prog.globalNamed "quadform/prime.offsets" = some 0:=by kernel_rfl
theorem qwk:(Tryz.prog.globals[0]?).map (·.type)=some 171:=by kernel_rfl
theorem jib:Tryz.prog.cellsOf 171=8:=by kernel_rfl
theorem jic:Tryz.prog.cellsOf 2=1:=by kernel_rfl
theorem table{W:World}(h:laidMetH Tryz.prog Rows.siegelGenusRow.laid W):Lib.TabIs Tryz.prog W "quadform/prime.offsets" .i64 [7,11,13,17,19,23,29,31]:=
 Lib.tabIs_of_head (rest:=[]) gTab qwk Tryz.underlying171 Tryz.underlying2 jic jib h
theorem glob{W:World}(h:laidMetH Tryz.prog Rows.siegelGenusRow.laid W):∀g cs,(g,cs)∈G.globs->IRep W (λ_=>False) (.iptr cs 0) (.pointer (some ⟨g,0,none⟩)):=by
 intro g cs hm;simp only[G,List.mem_singleton,Prod.mk.injEq]at hm;obtain⟨rfl,rfl⟩:=hm;have hc:=λi hi=>(table h).cell gTab i hi
 refine .iptr _ 0 0 0 (λj=> .int .i64 (([7,11,13,17,19,23,29,31]:List Int).getD j 0)) (λ_ h=>h) (λj hj=>?_) (λj a ha=>?_)
 ·have hj:j<8:=hj;have:=hc j hj;rw[Nat.zero_add]
  match j,hj with
  |0,_=>exact this
  |1,_=>exact this
  |2,_=>exact this
  |3,_=>exact this
  |4,_=>exact this
  |5,_=>exact this
  |6,_=>exact this
  |7,_=>exact this
  |n+8,h=>exact absurd h (by omega)
 ·match j,ha with
  |0,ha=>cases ha;exact .int _ _
  |1,ha=>cases ha;exact .int _ _
  |2,ha=>cases ha;exact .int _ _
  |3,ha=>cases ha;exact .int _ _
  |4,ha=>cases ha;exact .int _ _
  |5,ha=>cases ha;exact .int _ _
  |6,ha=>cases ha;exact .int _ _
  |7,ha=>cases ha;exact .int _ _
  |n+8,ha=>simp at ha
theorem u8r{n:Int}(h:(Lit.int .u8 n).wf=true):0<=n/\n<256:=by
 simp[Lit.wf,IntKind.min,IntKind.max,IntKind.bits,IntKind.signed]at h;omega
theorem zny{H:Type}{enc:TypeId×Value->H}{W:World}{base:Nat}{sp:Nat->Bool}{hd:Bool}{t:TypeId}{ts:List TypeId}{v:Value}{vs:List Value}{d:DataW H}{ds:List (DataW H)}{p:List MemPlace}(h:DataW.Trod enc Tryz.prog W base sp hd t v d p)
  (h':DataW.TrodAll enc Tryz.prog W base sp hd ts vs ds []):DataW.TrodAll enc Tryz.prog W base sp hd (t::ts) (v::vs) (d::ds) p:=⟨p,[],h,h',by simp⟩
theorem qqb{W W':World}(hk:Kept (λ_=>False) W W'){x:MemPlace}(hx:x.block<W.heap.size):W.sameAt W' x:=by
 have e:=hk.same x.block hx (λh=>h);cases x with
 |cell b o=>show W'.cell? ⟨b,o,none⟩=W.cell? ⟨b,o,none⟩;simp only[World.cell?];rw[show W'.heap[b]?=W.heap[b]? from e]
 |map b=>exact e
theorem qqc{H:Type}{enc:TypeId×Value->H}{W W':World}{v:Value}{d:DataW H}{p:List MemPlace}(hk:Kept (λ_=>False) W W')(h:DataW.Trod enc Tryz.prog W 0 (λ_=>true) true 25 v d p){sp:Nat->Bool}(hs:∀x∈p,sp x.block=true):DataW.Trod enc Tryz.prog W' 0 sp true 25 v d p:=by
 obtain⟨n,hn⟩:=h;have hlt:=DataW.trod_lt n _ _ _ hn;exact Go.WideElems.Trod_stays (by kernel_rfl) (by kernel_rfl) (by decide +kernel) ⟨n,hn⟩ (λx hx=>qqb hk (hlt x hx)) hs
theorem contract(H:Type)(enc:TypeId×Value->H)(W:World)(base:Nat)(args:Array Value)(ds gs:List (DataW H))(before:List MemPlace)
  (hval:∀(j:Nat) t v,Tryz.f4.params[j]?=some t->args[j]?=some v->Value.okWide Tryz.prog W .any base t v)
  (hW:DataW.Whole enc Tryz.prog Tryz.f4.params.toList Rows.siegelGenusSpec.vars false W args.toList ds gs before) (hL:laidMetH Tryz.prog Rows.siegelGenusRow.laid W):
  Calls Tryz.prog 4 args W λe W'=>∃v,e= .returned v/\Rows.siegelGenusSpec.post enc Tryz.prog Tryz.f4 false true false false W args v W':=by
 have hW':=hW;obtain⟨p,q1,hA0,hV,rfl,hfz,hnd⟩:=hW;have hA:DataW.TrodAll enc Tryz.prog W 0 (λ_=>true) true Tryz.f4.params.toList args.toList ds p:=hA0;rw[Tryz.params4]at hA hval;obtain⟨v0,vs0,d0,ds0,p0,q0,hargs,rfl,rfl,h0,r0⟩:=trodAll_cons hA;obtain⟨v1,vs1,d1,ds1,p1,q1,rfl,rfl,rfl,h1,r1⟩:=trodAll_cons r0;obtain⟨v2,vs2,d2,ds2,p2,q2,rfl,rfl,rfl,h2,r2⟩:=trodAll_cons r1;obtain⟨rfl,rfl,rfl⟩:=trodAll_nil r2;obtain rfl:args= #[v0,v1,v2]:=by cases args;simp_all
 obtain⟨rfl,rfl⟩:=trodVars_none hV;obtain⟨z,k,l,q,c,c2,hT,hT2,hz,hk,hrep⟩:=qwi (hval 0 25 v0 rfl rfl) h0;obtain⟨a1,rfl,rfl,rfl,w1⟩:=open_int Tryz.underlying5 (hval 1 5 v1 rfl rfl) h1;obtain⟨a2,rfl,rfl,rfl,w2⟩:=open_int Tryz.underlying5 (hval 2 5 v2 rfl rfl) h2;clear hA0;simp only[qQ]at hW';refine(zyz (qwh (c:=c) (c2:=c2) (q:=q) hT hT2 hz hk (u8r w1) (u8r w2)) (by decide) (glob hL) rfl (λj a u h hu=>?_)).mono λe W' ⟨u,he,hkp,hr⟩=>?_
 ·match j,h,hu with
  |0,h,hu=>simp at h hu;subst h hu;exact hrep
  |1,h,hu=>simp at h hu;subst h hu;exact .int _ _
  |2,h,hu=>simp at h hu;subst h hu;exact .int _ _
  |n+3,h,hu=>simp at h
 subst he;obtain rfl:u= .bool true:=by cases hr;rfl
 exact⟨_,rfl,qwj (pa:=p0) (pv:=[]) hW' (λ_ _ _=>trodAll_cons_mk (shut_bool Tryz.underlying4 _) trodAll_mk0) (λ_ hsp=>(zny (qqc hkp h0 hsp) (trodAll_cons_mk (shut_int Tryz.underlying5 w1) (trodAll_cons_mk (shut_int Tryz.underlying5 w2) trodAll_mk0)))) (λ_ _=>rfl) (qQ _).symm
  hkp (ok_one (by kernel_rfl) rfl (okWide_bool_mk Tryz.underlying4 _))⟩
noncomputable def zrp(os:Os):World:=
 { World.holding Tryz.prog os ⟨#[],#[.agg #[.int .u8 0,.int .u8 0,.slice none 0 0,.slice none 0 0],.int .u8 0,.int .u8 0],[]⟩with heap:=(World.holding Tryz.prog os ⟨#[],#[.agg #[.int .u8 0,.int .u8 0,.slice none 0 0,.slice none 0 0],.int .u8 0,.int .u8 0],[]⟩).heap.modify 0 fun
   |.cells _ t frozen=> .cells #[.int .i64 7,.int .i64 11,.int .i64 13,.int .i64 17,.int .i64 19,.int .i64 23,.int .i64 29,.int .i64 31] t frozen
   |o=>o }
theorem laid_met(os:Os):laidMet Tryz.prog Rows.siegelGenusRow.laid ((zrp os).forCall (λ_ _=>0) ⟨#[],#[.agg #[.int .u8 0,.int .u8 0,.slice none 0 0,.slice none 0 0],.int .u8 0,.int .u8 0],[]⟩).memory:=
 laidMet_of_run' 8 (by kernel_rfl) (by kernel_rfl)
theorem reads(os:Os){H:Type}(enc:TypeId×Value->H):∃zry,DataW.whole enc Tryz.prog ((zrp os).forCall (λ_ _=>0) ⟨#[],#[.agg #[.int .u8 0,.int .u8 0,.slice none 0 0,.slice none 0 0],.int .u8 0,.int .u8 0],[]⟩).memory Tryz.f4.params.toList Rows.siegelGenusSpec.vars false (#[.agg #[.int .u8 0,.int .u8 0,.slice none 0 0,.slice none 0 0],.int .u8 0,.int .u8 0]:Array Value).toList 8=some ([.agg [.lit (.int .u8 0),.lit (.int .u8 0),.nil,.nil],.lit (.int .u8 0),.lit (.int .u8 0)],[],zry):=
 ⟨[],by kernel_rfl⟩
theorem lifted(os:Os)(started:os.Started)(H:Type)(enc:TypeId×Value->H)(F:Stop.Interp):
  ReturnsInHanded {} Tryz.checked os 4 .any ((OpenSpec.ofChange Rows.siegelGenusSpec).preRow enc Tryz.prog Tryz.f4 Rows.siegelGenusRow.domain false Rows.siegelGenusRow.laid) (((OpenSpec.ofChange Rows.siegelGenusSpec).at F).post enc Tryz.prog Tryz.f4 false true false false):=by
 obtain⟨zry,hx⟩:=reads os enc
 refine returnsInHanded_of_row (C:= Tryz.checked) (s:=OpenSpec.ofChange Rows.siegelGenusSpec) own started (by kernel_rfl) Tryz.func4
  (witness_row_at (enc:=enc) (C:= Tryz.checked) false (zrp os) #[.agg #[.int .u8 0,.int .u8 0,.slice none 0 0,.slice none 0 0],.int .u8 0,.int .u8 0] rfl (by kernel_rfl) (by kernel_rfl) (by kernel_rfl)
   (OpenSpec.preRow_of_cond 8 hx (by kernel_rfl) (λk hk=>by cases hk) (by kernel_rfl) (laid_met os))) ?_
 intro W base args ds gs before hval hW _ _ _ hL _ _;exact contract H enc W base args ds gs before hval hW hL
theorem said:Rows.SiegelGenusSaid:=
 OpenClaim.holds_of_cond 4 Tryz.f4 rfl rfl rfl rfl rfl rfl rfl ⟨rfl,rfl,rfl,rfl,rfl⟩ rfl rfl rfl rfl rfl (by kernel_rfl) Tryz.func4 (by kernel_rfl)
  (of_decide_eq_true (by kernel_rfl)) (by unfold Func.isWrapper;first | (rw[if_pos (by decide +kernel)];kernel_rfl) | (rw[if_neg (by decide +kernel)];exact⟨rfl,rfl⟩))
  (λos started H enc _ F=>by rw[OpenClaim.pre_eq_preRow];exact lifted os started H enc F)
theorem plain(f:FuncId)(fn:Func)(hf:Tryz.pinned.checked.prog.funcNamed "quadform/quadformlaw40.SiegelGenus" = some f)(hfn:Tryz.pinned.checked.prog.funcs[f]?=some fn):
  false= Tryz.pinned.checked.prog.looks []/\∀(j:Nat) t,fn.params[j]?=some t->Tryz.pinned.checked.prog.wantsStandIn t=false:=by
 obtain rfl:f=4:=Option.some.inj ((show Tryz.prog.funcNamed "quadform/quadformlaw40.SiegelGenus" = some 4 by kernel_rfl).symm.trans hf) |>.symm
 obtain rfl:fn= Tryz.f4:=(Option.some.inj (Tryz.func4.symm.trans hfn)).symm;refine⟨by kernel_rfl,λj t ht=>?_⟩;rw[Tryz.params4]at ht
 match j,ht with
 |0,ht=>simp at ht;subst ht;show Tryz.prog.wantsStandIn 25=false;kernel_rfl
 |1,ht=>simp at ht;subst ht;show Tryz.prog.wantsStandIn 5=false;kernel_rfl
 |2,ht=>simp at ht;subst ht;show Tryz.prog.wantsStandIn 5=false;kernel_rfl
 |n+3,ht=>simp at ht
theorem card:Rows.SiegelGenusCardSaid:=
 Claim7.holds_tied_plain_at .later [] _ _ _ _ said (λ_ h=>by cases h) (by kernel_rfl) (λ_ h=>by cases h) siegelGenus_row_tie rfl ⟨rfl,rfl⟩ (by kernel_rfl) rfl plain (by kernel_rfl)
