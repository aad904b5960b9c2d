/- quadformlaw30.ConstructCovers returns true at every input, in every world in which the package variable quadform/minkowski.conditions holds what the program's text lays: every form of a lattice of at most three rows with a determinant of at most 40 is isometric to exactly one of the forms of its dimension and determinant that construct.All gives. Conditions: none beyond the card's own. -/
import Derived.Test.YtbjdfanphdfkdaaGreatDoorJCVL
import Derived.Test.YtbjdfanphdfkdaaGreatDoorJCVS
import Derived.Test.YtbjdfanphdfkdaaGreatDoorCards
import Derived.Test.YtbjdfanphdfkdaaGreatDoorTie
import Derived.Test.YtbjdfanphdfkdaaGreatDoorPN
import Derived.WalkKit
import Derived.ProofKit
import Derived.OpenShut
import Derived.Deep.DeepHandedRow
import Derived.Lib.LaidTab
set_option linter.all false
set_option maxRecDepth 100000
open List renaming append_nil -> qX
namespace Go.Proofs.YtbjdfanphdfkdaaGreatDoor.constructCovers
open Go Go.AL Go.Proofs Go.ChangeShapes Go.WideShapes Go.ChangeAt Go.RowKit
theorem qsj{P:Program}{f:FuncId}{fn:Func}{s:ChangeSpec}{c:OpenClaim}(k0:(c.wf (OpenSpec.ofChange s))=true)(k1:(laidOutB P)=true)(k2:(mapsRowed P)=true)(k3:(fn.params.all (P.readableRec ·))=true)(k4:(namedTie P c.named s.vars)=true)(k5:(c.stops == [])=true)(k6:(P.stops == [])=true)(k7:(c.knobs == [])=true)(k8:(P.stopKnobs == [])=true)(k9:(c.inPlace == P.inPlace f)=true)(k10:(c.unfollowed == P.unfollowed f)=true)(k11:(c.recurses == P.recurses f)=true)(k12:(c.named == P.varsNamed f)=true)(k13:(c.maps == (fn.params.toList++s.plain.varTypes P).any (P.mapsRec ·))=true)(k14:(c.ifaces == (fn.params.toList++s.plain.varTypes P).any (P.ifacesRec ·))=true)(k15:(c.mapsOut == P.mapsAmong fn.resultTypes.toList)=true)(k16:(c.loops == (fn.params.toList++s.plain.varTypes P).any (P.loopsFrom ·))=true)(k17:(c.wideKeys == (fn.params.toList++s.plain.varTypes P++fn.resultTypes.toList).any (P.wideKeysFrom ·))=true)(k18:(s.vars.all (P.varReadable ·))=true)(k19:(fn.resultTypes.all (λt=>P.readableRec t && decide (t<P.types.size)))=true)(k20:(c.ifacesOut == fn.resultTypes.toList.any (P.ifacesRec ·))=true)(k21:(c.loopsOut == fn.resultTypes.toList.any (P.loopsFrom ·))=true)(k22:(c.plainKeys == P.plainKeys)=true)(k23:(c.shortTexts.isNone)=true)(k24:(P.stopsHeard)=true)(k25:(P.mayEnter)=true)(k26:(c.lifted == P.liftsFinal)=true)(k27:(P.make == some c.make)=true)(k28:(c.kinds == (if c.domain.isEmpty then[]else fn.params.toList.map λt=>match P.underlying t with | some (.int k)=>some k | _=>none))=true)(k29:(c.pinned == c.pinnedBy)=true)(k30:(c.veiled == (fn.params.toList++s.plain.varTypes P++fn.resultTypes.toList).any (P.veiledRec ·))=true)(k31:(c.veiledFits P fn.params.toList (fn.params.toList++s.plain.varTypes P++fn.resultTypes.toList))=true):joinedFacts P f fn s c=true:=by
 unfold joinedFacts;simp only[k0,k1,k2,k3,k4,k5,k6,k7,k8,k9,k10,k11,k12,k13,k14,k15,k16,k17,k18,k19,k20,k21,k22,k23,k24,k25,k26,k27,k29,k30,k31,Bool.and_true,Bool.true_and];exact k28
theorem own:ownKnob Tryz.prog.godebug=none:=by kernel_rfl
theorem kpw:Tryz.prog.globalNamed "quadform/minkowski.conditions" = some 0:=by kernel_rfl
theorem qsk:(Tryz.prog.globals[0]?).map (·.type)=some 288:=by kernel_rfl
theorem xwo:Tryz.prog.cellsOf 288=4:=by kernel_rfl
theorem xwp:Tryz.prog.cellsOf 3=1:=by kernel_rfl
theorem kpx{W:World}(h:laidMetH Tryz.prog Rows.constructCoversRow.laid W):Lib.TabIs Tryz.prog W "quadform/minkowski.conditions" .i64 [1,3,9,27]:=
 Lib.tabIs_of_head (rest:=[]) kpw qsk Tryz.underlying288 Tryz.underlying3 xwp xwo h
theorem glob{W:World}(h:laidMetH Tryz.prog Rows.constructCoversRow.laid W):∀g cs,(g,cs)∈G.globs->IRep W (λ_=>False) (.iptr cs 0) (.pointer (some ⟨g,0,none⟩)):=by
 intro g cs hm;simp only[G,mkG,List.mem_cons,List.not_mem_nil,or_false,Prod.mk.injEq]at hm;obtain⟨rfl,rfl⟩:=hm;have hc:=λi hi=>(kpx h).cell kpw i hi
 refine .iptr _ 0 0 0 (λj=> .int .i64 (([1,3,9,27]:List Int).getD j 0)) (λ_ h=>h) (λj hj=>?_) (λj a ha=>?_)
 ·have hj:j<4:=hj;have:=hc j hj;rw[Nat.zero_add]
  match j,hj with
  |0,_=>exact this
  |1,_=>exact this
  |2,_=>exact this
  |3,_=>exact this
  |n+4,h=>exact absurd h (by omega)
 ·match j,ha with
  |0,ha=>cases ha;exact .int _ _
  |1,ha=>cases ha;exact .int _ _
  |2,ha=>cases ha;exact .int _ _
  |3,ha=>cases ha;exact .int _ _
  |n+4,ha=>simp at ha
theorem zns{H:Type}{enc:TypeId×Value->H}{W:World}{base:Nat}{sp:Nat->Bool}{hd:Bool}{t:TypeId}{ts:List TypeId}{v:Value}{vs:List Value}{d:DataW H}{ds:List (DataW H)}{p:List MemPlace}(h:DataW.Trod enc Tryz.prog W base sp hd t v d p)
  (h':DataW.TrodAll enc Tryz.prog W base sp hd ts vs ds []):DataW.TrodAll enc Tryz.prog W base sp hd (t::ts) (v::vs) (d::ds) p:=⟨p,[],h,h',by simp⟩
theorem qsm{W W':World}(hk:Kept (λ_=>False) W W'){x:MemPlace}(hx:x.block<W.heap.size):W.sameAt W' x:=by
 have e:=hk.same x.block hx (λh=>h);cases x with
 |cell b o=>show W'.cell? ⟨b,o,none⟩=W.cell? ⟨b,o,none⟩;simp only[World.cell?];rw[show W'.heap[b]?=W.heap[b]? from e]
 |map b=>exact e
theorem qsn{H:Type}{enc:TypeId×Value->H}{W W':World}{v:Value}{d:DataW H}{p:List MemPlace}(hk:Kept (λ_=>False) W W')(h:DataW.Trod enc Tryz.prog W 0 (λ_=>true) true 24 v d p){sp:Nat->Bool}(hs:∀x∈p,sp x.block=true):DataW.Trod enc Tryz.prog W' 0 sp true 24 v d p:=by
 obtain⟨n,hn⟩:=h;have hlt:=DataW.trod_lt n _ _ _ hn;exact Go.WideElems.Trod_stays (by kernel_rfl) (by kernel_rfl) (by decide +kernel) ⟨n,hn⟩ (λx hx=>qsm hk (hlt x hx)) hs
theorem contract(H:Type)(enc:TypeId×Value->H)(W:World)(base:Nat)(args:Array Value)(ds gs:List (DataW H))(before:List MemPlace)
  (hval:∀(j:Nat) t v,Tryz.f3.params[j]?=some t->args[j]?=some v->Value.okWide Tryz.prog W .any base t v)
  (hW:DataW.Whole enc Tryz.prog Tryz.f3.params.toList Rows.constructCoversSpec.vars false W args.toList ds gs before) (hL:laidMetH Tryz.prog Rows.constructCoversRow.laid W):
  Calls Tryz.prog 3 args W λe W'=>∃v,e= .returned v/\Rows.constructCoversSpec.post enc Tryz.prog Tryz.f3 false true false false W args v W':=by
 have hW':=hW;obtain⟨p,q1,hA0,hV,rfl,hfz,hnd⟩:=hW;have hA:DataW.TrodAll enc Tryz.prog W 0 (λ_=>true) true Tryz.f3.params.toList args.toList ds p:=hA0;rw[Tryz.params3]at hA hval;obtain⟨v0,vs0,d0,ds0,p0,q0,hargs,rfl,rfl,h0,r0⟩:=trodAll_cons hA;obtain⟨rfl,rfl,rfl⟩:=trodAll_nil r0;obtain rfl:args= #[v0]:=by cases args;simp_all
 obtain⟨rfl,rfl⟩:=trodVars_none hV;obtain⟨z,k,l,q,c,c2,hT,_,hz,hk,hrep⟩:=jut (hval 0 24 v0 rfl rfl) h0;clear hA0;simp only[qX]at hW';refine(zyh (lawF (c:=c) (c2:=c2) (q:=q) hT hz hk) (by decide) (glob hL) rfl (λj a u h hu=>?_)).mono λe W' ⟨u,he,hkp,hr⟩=>?_
 ·match j,h,hu with
  |0,h,hu=>simp at h hu;subst h hu;exact hrep
  |n+1,h,hu=>simp at h
 subst he;obtain rfl:u= .bool true:=by cases hr;rfl
 exact⟨_,rfl,juu (pa:=p0) (pv:=[]) hW' (λ_ _ _=>trodAll_cons_mk (shut_bool Tryz.underlying4 _) trodAll_mk0) (λ_ hsp=>(zns (qsn hkp h0 hsp) trodAll_mk0)) (λ_ _=>rfl) (qX _).symm
  hkp (ok_one (by kernel_rfl) rfl (okWide_bool_mk Tryz.underlying4 _))⟩
def kpy(c:Array Value):Obj->Obj
 |.cells _ t frozen=> .cells c t frozen
 |o=>o
noncomputable def zrc(os:Os):World:=
 { World.holding Tryz.prog os ⟨#[],#[.agg #[.int .u8 0,.int .u8 0,.slice none 0 0,.slice none 0 0]],[]⟩with heap:=((World.holding Tryz.prog os ⟨#[],#[.agg #[.int .u8 0,.int .u8 0,.slice none 0 0,.slice none 0 0]],[]⟩).heap.modify 0 (kpy #[.int .i64 1,.int .i64 3,.int .i64 9,.int .i64 27])).modify 1 (kpy #[.int .i64 7,.int .i64 11,.int .i64 13,.int .i64 17,.int .i64 19,.int .i64 23,.int .i64 29,.int .i64 31]) }
theorem laid_met(os:Os):laidMet Tryz.prog Rows.constructCoversRow.laid ((zrc os).forCall (λ_ _=>0) ⟨#[],#[.agg #[.int .u8 0,.int .u8 0,.slice none 0 0,.slice none 0 0]],[]⟩).memory:=
 laidMet_of_run' 8 (by kernel_rfl) (by kernel_rfl)
theorem reads(os:Os){H:Type}(enc:TypeId×Value->H):∃zrk,DataW.whole enc Tryz.prog ((zrc os).forCall (λ_ _=>0) ⟨#[],#[.agg #[.int .u8 0,.int .u8 0,.slice none 0 0,.slice none 0 0]],[]⟩).memory Tryz.f3.params.toList Rows.constructCoversSpec.vars false (#[.agg #[.int .u8 0,.int .u8 0,.slice none 0 0,.slice none 0 0]]:Array Value).toList 8=some ([.agg [.lit (.int .u8 0),.lit (.int .u8 0),.nil,.nil]],[],zrk):=
 ⟨[],by kernel_rfl⟩
theorem lifted(os:Os)(started:os.Started)(H:Type)(enc:TypeId×Value->H)(F:Stop.Interp):
  ReturnsInHanded {} Tryz.checked os 3 .any ((OpenSpec.ofChange Rows.constructCoversSpec).preRow enc Tryz.prog Tryz.f3 Rows.constructCoversRow.domain false Rows.constructCoversRow.laid) (((OpenSpec.ofChange Rows.constructCoversSpec).at F).post enc Tryz.prog Tryz.f3 false true false false):=by
 obtain⟨zrk,hx⟩:=reads os enc
 refine returnsInHanded_of_row (C:= Tryz.checked) (s:=OpenSpec.ofChange Rows.constructCoversSpec) own started (by kernel_rfl) Tryz.func3
  (witness_row_at (enc:=enc) (C:= Tryz.checked) false (zrc os) #[.agg #[.int .u8 0,.int .u8 0,.slice none 0 0,.slice none 0 0]] rfl (by kernel_rfl) (by kernel_rfl) (by kernel_rfl)
   (OpenSpec.preRow_of_cond 8 hx (by kernel_rfl) (λk hk=>by cases hk) (by kernel_rfl) (laid_met os))) ?_
 intro W base args ds gs before hval hW _ _ _ hL _ _;exact contract H enc W base args ds gs before hval hW hL
theorem said:Rows.ConstructCoversSaid:=
 OpenClaim.holds_of_cond 3 Tryz.f3 rfl rfl rfl rfl rfl rfl rfl ⟨rfl,rfl,rfl,rfl,rfl⟩ rfl rfl rfl rfl rfl fa Tryz.func3 (qsj jl0 jl1 jl2 jl3 jl4 jl5 jl6 jl7 jl8 jl9 jl10 jl11 jl12 jl13 jl14 jl15 jl16 jl17 jl18 jl19 jl20 jl21 jl22 jl23 jl24 jl25 jl26 jl27 jl28 jl29 jl30 jl31)
  fc (by unfold Func.isWrapper;first | (rw[if_pos (by decide +kernel)];kernel_rfl) | (rw[if_neg (by decide +kernel)];exact⟨rfl,rfl⟩))
  (λos started H enc _ F=>by rw[OpenClaim.pre_eq_preRow];exact lifted os started H enc F)
theorem plain(f:FuncId)(fn:Func)(hf:Tryz.pinned.checked.prog.funcNamed "quadform/quadformlaw30.ConstructCovers" = some f)(hfn:Tryz.pinned.checked.prog.funcs[f]?=some fn):
  false= Tryz.pinned.checked.prog.looks []/\∀(j:Nat) t,fn.params[j]?=some t->Tryz.pinned.checked.prog.wantsStandIn t=false:=by
 obtain rfl:f=3:=Option.some.inj ((show Tryz.prog.funcNamed "quadform/quadformlaw30.ConstructCovers" = some 3 by kernel_rfl).symm.trans hf) |>.symm
 obtain rfl:fn= Tryz.f3:=(Option.some.inj (Tryz.func3.symm.trans hfn)).symm;refine⟨by kernel_rfl,λj t ht=>?_⟩;rw[Tryz.params3]at ht
 match j,ht with
 |0,ht=>simp at ht;subst ht;show Tryz.prog.wantsStandIn 24=false;kernel_rfl
 |n+1,ht=>simp at ht
theorem card:Rows.ConstructCoversCardSaid:=
 Claim7.holds_tied_plain_at .later [] _ _ _ _ said (λ_ h=>by cases h) cw (λ_ h=>by cases h) constructCovers_row_tie rfl ⟨rfl,rfl⟩ (by kernel_rfl) rfl plain cg
