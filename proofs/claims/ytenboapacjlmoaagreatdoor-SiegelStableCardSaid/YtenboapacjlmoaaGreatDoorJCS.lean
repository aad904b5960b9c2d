/- quadformlaw40.SiegelStable returns true at every input, in every world in which the package variable quadform/prime.offsets holds what the program's text lays: the density of a number at a prime does not change when the solutions are counted modulo a greater power. Conditions: none beyond the card's own. -/
import Derived.Test.YtenboapacjlmoaaGreatDoorCards
import Derived.Test.YtenboapacjlmoaaGreatDoorTie
import Derived.Test.YtenboapacjlmoaaGreatDoorPH
import Derived.Test.YtenboapacjlmoaaGreatDoorAL36
import Derived.WalkKit
import Derived.ProofKit
import Derived.OpenShut
import Derived.Deep.DeepHandedRow
import Derived.Lib.LaidTab
namespace Go.Proofs.YtenboapacjlmoaaGreatDoor.siegelStable
open List renaming append_nil → qQ
set_option linter.unusedSimpArgs false
set_option linter.unusedVariables false
open Go Go.AL Go.Proofs Go.ChangeShapes Go.WideShapes Go.ChangeAt Go.RowKit
set_option maxRecDepth 100000
set_option linter.unusedVariables false
theorem own:ownKnob Tryz.prog.godebug=none:=by kernel_rfl
theorem gTab:Tryz.prog.globalNamed "quadform/prime.offsets" = some 0:=by kernel_rfl
theorem gTabType:(Tryz.prog.globals[0]?).map (·.type)=some 155:=by kernel_rfl
theorem cellsT:Tryz.prog.cellsOf 155=8:=by kernel_rfl
theorem cellsE:Tryz.prog.cellsOf 2=1:=by kernel_rfl
theorem table {W:World} (h:laidMetH Tryz.prog Rows.siegelStableRow.laid W):Lib.TabIs Tryz.prog W "quadform/prime.offsets" .i64 [7,11,13,17,19,23,29,31]:=
 Lib.tabIs_of_head (rest:=[]) gTab gTabType Tryz.underlying155 Tryz.underlying2 cellsE cellsT h
theorem glob {W:World} (h:laidMetH Tryz.prog Rows.siegelStableRow.laid W):∀g cs,(g,cs)∈G.globs→IRep W (fun _=>False) (.iptr cs 0) (.pointer (some ⟨g,0,none⟩)):=by
 intro g cs hm
 simp only [G,List.mem_singleton,Prod.mk.injEq] at hm
 obtain ⟨rfl,rfl⟩:=hm
 have hc:=fun i hi=>(table h).cell gTab i hi
 refine .iptr _ 0 0 0 (fun j=> .int .i64 (([7,11,13,17,19,23,29,31]:List Int).getD j 0)) (fun _ h=>h) (fun j hj=>?_) (fun j a ha=>?_)
 ·have hj:j<8:=hj
  have:=hc j hj
  rw [Nat.zero_add]
  match j,hj with
  | 0,_=>exact this
  | 1,_=>exact this
  | 2,_=>exact this
  | 3,_=>exact this
  | 4,_=>exact this
  | 5,_=>exact this
  | 6,_=>exact this
  | 7,_=>exact this
  | n+8,h=>exact absurd h (by omega)
 ·match j,ha with
  | 0,ha=>cases ha;exact .int _ _
  | 1,ha=>cases ha;exact .int _ _
  | 2,ha=>cases ha;exact .int _ _
  | 3,ha=>cases ha;exact .int _ _
  | 4,ha=>cases ha;exact .int _ _
  | 5,ha=>cases ha;exact .int _ _
  | 6,ha=>cases ha;exact .int _ _
  | 7,ha=>cases ha;exact .int _ _
  | n+8,ha=>simp at ha
theorem u8r {n:Int} (h:(Lit.int .u8 n).wf=true):0≤n∧n<256:=by
 simp [Lit.wf,IntKind.min,IntKind.max,IntKind.bits,IntKind.signed] at h
 omega
theorem trodAll_cons_mk0 {H:Type} {enc:TypeId×Value→H} {W:World} {base:Nat} {sp:Nat→Bool} {hd:Bool} {t:TypeId} {ts:List TypeId} {v:Value} {vs:List Value} {d:DataW H} {ds:List (DataW H)} {p:List MemPlace} (h:DataW.Trod enc Tryz.prog W base sp hd t v d p)
  (h':DataW.TrodAll enc Tryz.prog W base sp hd ts vs ds []):DataW.TrodAll enc Tryz.prog W base sp hd (t::ts) (v::vs) (d::ds) p:=⟨p,[],h,h',by simp⟩
theorem kept_same {W W':World} (hk:Kept (fun _=>False) W W') {x:MemPlace} (hx:x.block<W.heap.size):W.sameAt W' x:=by
 have e:=hk.same x.block hx (fun h=>h)
 cases x with
 | cell b o=>show W'.cell? ⟨b,o,none⟩=W.cell? ⟨b,o,none⟩;simp only [World.cell?];rw [show W'.heap[b]?=W.heap[b]? from e]
 | map b=>exact e
theorem lat_stays {H:Type} {enc:TypeId×Value→H} {W W':World} {v:Value} {d:DataW H} {p:List MemPlace} (hk:Kept (fun _=>False) W W') (h:DataW.Trod enc Tryz.prog W 0 (fun _=>true) true 24 v d p) {sp:Nat→Bool} (hs:∀x∈p,sp x.block=true):DataW.Trod enc Tryz.prog W' 0 sp true 24 v d p:=by
 obtain ⟨n,hn⟩:=h
 have hlt:=DataW.trod_lt n _ _ _ hn
 exact Go.WideElems.Trod_stays (by kernel_rfl) (by kernel_rfl) (by decide +kernel) ⟨n,hn⟩ (fun x hx=>kept_same hk (hlt x hx)) hs
theorem contract (H:Type) (enc:TypeId×Value→H) (W:World) (base:Nat) (args:Array Value) (ds gs:List (DataW H)) (before:List MemPlace)
  (hval:∀(j:Nat) t v,Tryz.f4.params[j]?=some t→args[j]?=some v→Value.okWide Tryz.prog W .any base t v)
  (hW:DataW.Whole enc Tryz.prog Tryz.f4.params.toList Rows.siegelStableSpec.vars false W args.toList ds gs before) (hL:laidMetH Tryz.prog Rows.siegelStableRow.laid W):
  Calls Tryz.prog 4 args W fun e W'=>∃v,e= .returned v∧Rows.siegelStableSpec.post enc Tryz.prog Tryz.f4 false true false false W args v W':=by
 have hW':=hW
 obtain ⟨p,q1,hA0,hV,rfl,hfz,hnd⟩:=hW
 have hA:DataW.TrodAll enc Tryz.prog W 0 (fun _=>true) true Tryz.f4.params.toList args.toList ds p:=hA0
 rw [Tryz.params4] at hA hval
 obtain ⟨v0,vs0,d0,ds0,p0,q0,hargs,rfl,rfl,h0,r0⟩:=trodAll_cons hA
 obtain ⟨v1,vs1,d1,ds1,p1,q1,rfl,rfl,rfl,h1,r1⟩:=trodAll_cons r0
 obtain ⟨v2,vs2,d2,ds2,p2,q2,rfl,rfl,rfl,h2,r2⟩:=trodAll_cons r1
 obtain ⟨rfl,rfl,rfl⟩:=trodAll_nil r2
 obtain rfl:args= #[v0,v1,v2]:=by cases args;simp_all
 obtain ⟨rfl,rfl⟩:=trodVars_none hV
 obtain ⟨z,k,l,q,c,c2,hT,hz,hk,hrep⟩:=open_lat (hval 0 24 v0 rfl rfl) h0
 obtain ⟨a1,rfl,rfl,rfl,w1⟩:=open_int Tryz.underlying5 (hval 1 5 v1 rfl rfl) h1
 obtain ⟨a2,rfl,rfl,rfl,w2⟩:=open_int Tryz.underlying5 (hval 2 5 v2 rfl rfl) h2
 clear hA0
 simp only [qQ] at hW'
 refine (calls_of_ret (law_retS (c:=c) (c2:=c2) (q:=q) hT hz hk (u8r w1) (u8r w2)) (by decide) (glob hL) rfl (fun j a u h hu=>?_)).mono fun e W' ⟨u,he,hkp,hr⟩=>?_
 ·match j,h,hu with
  | 0,h,hu=>simp at h hu;subst h hu;exact hrep
  | 1,h,hu=>simp at h hu;subst h hu;exact .int _ _
  | 2,h,hu=>simp at h hu;subst h hu;exact .int _ _
  | n+3,h,hu=>simp at h
 subst he
 obtain rfl:u= .bool true:=by cases hr;rfl
 exact ⟨_,rfl,post_old (pa:=p0) (pv:=[]) hW' (fun _ _ _=>trodAll_cons_mk (shut_bool Tryz.underlying4 _) trodAll_mk0) (fun _ hsp=>(trodAll_cons_mk0 (lat_stays hkp h0 hsp) (trodAll_cons_mk (shut_int Tryz.underlying5 w1) (trodAll_cons_mk (shut_int Tryz.underlying5 w2) trodAll_mk0)))) (fun _ _=>rfl) (qQ _).symm
  hkp (ok_one (by kernel_rfl) rfl (okWide_bool_mk Tryz.underlying4 _))⟩
noncomputable def laidWorld (os:Os):World:=
 { World.holding Tryz.prog os ⟨#[],#[.agg #[.int .u8 0,.int .u8 0,.slice none 0 0,.slice none 0 0],.int .u8 0,.int .u8 0],[]⟩ with heap:=(World.holding Tryz.prog os ⟨#[],#[.agg #[.int .u8 0,.int .u8 0,.slice none 0 0,.slice none 0 0],.int .u8 0,.int .u8 0],[]⟩).heap.modify 0 fun
   | .cells _ t frozen=> .cells #[.int .i64 7,.int .i64 11,.int .i64 13,.int .i64 17,.int .i64 19,.int .i64 23,.int .i64 29,.int .i64 31] t frozen
   | o=>o }
theorem laid_met (os:Os):laidMet Tryz.prog Rows.siegelStableRow.laid ((laidWorld os).forCall (fun _ _=>0) ⟨#[],#[.agg #[.int .u8 0,.int .u8 0,.slice none 0 0,.slice none 0 0],.int .u8 0,.int .u8 0],[]⟩).memory:=
 laidMet_of_run' 8 (by kernel_rfl) (by kernel_rfl)
theorem reads (os:Os) {H:Type} (enc:TypeId×Value→H):∃places,DataW.whole enc Tryz.prog ((laidWorld os).forCall (fun _ _=>0) ⟨#[],#[.agg #[.int .u8 0,.int .u8 0,.slice none 0 0,.slice none 0 0],.int .u8 0,.int .u8 0],[]⟩).memory Tryz.f4.params.toList Rows.siegelStableSpec.vars false (#[.agg #[.int .u8 0,.int .u8 0,.slice none 0 0,.slice none 0 0],.int .u8 0,.int .u8 0]:Array Value).toList 8=some ([.agg [.lit (.int .u8 0),.lit (.int .u8 0),.nil,.nil],.lit (.int .u8 0),.lit (.int .u8 0)],[],places):=
 ⟨[],by kernel_rfl⟩
theorem lifted (os:Os) (started:os.Started) (H:Type) (enc:TypeId×Value→H) (F:Stop.Interp):
  ReturnsInHanded {} Tryz.checked os 4 .any ((OpenSpec.ofChange Rows.siegelStableSpec).preRow enc Tryz.prog Tryz.f4 Rows.siegelStableRow.domain false Rows.siegelStableRow.laid) (((OpenSpec.ofChange Rows.siegelStableSpec).at F).post enc Tryz.prog Tryz.f4 false true false false):=by
 obtain ⟨places,hx⟩:=reads os enc
 refine returnsInHanded_of_row (C:= Tryz.checked) (s:=OpenSpec.ofChange Rows.siegelStableSpec) own started (by kernel_rfl) Tryz.func4
  (witness_row_at (enc:=enc) (C:= Tryz.checked) false (laidWorld os) #[.agg #[.int .u8 0,.int .u8 0,.slice none 0 0,.slice none 0 0],.int .u8 0,.int .u8 0] rfl (by kernel_rfl) (by kernel_rfl) (by kernel_rfl)
   (OpenSpec.preRow_of_cond 8 hx (by kernel_rfl) (fun k hk=>by cases hk) (by kernel_rfl) (laid_met os))) ?_
 intro W base args ds gs before hval hW _ _ _ hL _ _
 exact contract H enc W base args ds gs before hval hW hL
theorem said:Rows.SiegelStableSaid:=
 OpenClaim.holds_of_cond 4 Tryz.f4 rfl rfl rfl rfl rfl rfl rfl ⟨rfl,rfl,rfl,rfl,rfl⟩ rfl rfl rfl rfl rfl (by kernel_rfl) Tryz.func4 (by kernel_rfl)
  (of_decide_eq_true (by kernel_rfl)) (by unfold Func.isWrapper;first | (rw [if_pos (by decide +kernel)];kernel_rfl) | (rw [if_neg (by decide +kernel)];exact ⟨rfl,rfl⟩))
  (fun os started H enc _ F=>by rw [OpenClaim.pre_eq_preRow];exact lifted os started H enc F)
theorem plain (f:FuncId) (fn:Func) (hf:Tryz.pinned.checked.prog.funcNamed "quadform/quadformlaw40.SiegelStable" = some f) (hfn:Tryz.pinned.checked.prog.funcs[f]?=some fn):
  false= Tryz.pinned.checked.prog.looks []∧∀(j:Nat) t,fn.params[j]?=some t→Tryz.pinned.checked.prog.wantsStandIn t=false:=by
 obtain rfl:f=4:=Option.some.inj ((show Tryz.prog.funcNamed "quadform/quadformlaw40.SiegelStable" = some 4 by kernel_rfl).symm.trans hf) |>.symm
 obtain rfl:fn= Tryz.f4:=(Option.some.inj (Tryz.func4.symm.trans hfn)).symm
 refine ⟨by kernel_rfl,fun j t ht=>?_⟩
 rw [Tryz.params4] at ht
 match j,ht with
 | 0,ht=>simp at ht;subst ht;show Tryz.prog.wantsStandIn 24=false;kernel_rfl
 | 1,ht=>simp at ht;subst ht;show Tryz.prog.wantsStandIn 5=false;kernel_rfl
 | 2,ht=>simp at ht;subst ht;show Tryz.prog.wantsStandIn 5=false;kernel_rfl
 | n+3,ht=>simp at ht
theorem card:Rows.SiegelStableCardSaid:=
 Claim7.holds_tied_plain_at .later [] _ _ _ _ said (fun _ h=>by cases h) (by kernel_rfl) (fun _ h=>by cases h) siegelStable_row_tie rfl ⟨rfl,rfl⟩ (by kernel_rfl) rfl plain (by kernel_rfl)
end Go.Proofs.YtenboapacjlmoaaGreatDoor.siegelStable
