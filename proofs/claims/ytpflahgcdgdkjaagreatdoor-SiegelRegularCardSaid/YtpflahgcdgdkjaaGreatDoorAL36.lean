/- A part of the proof. -/
import Derived.Test.YtpflahgcdgdkjaaGreatDoorAL20
import Derived.ChangeSame
set_option linter.all false
namespace Go.AL
open Go Go.ChangeShapes Go.WideShapes
theorem zxw{P:Program}{Γ:Glob}{f:FuncId}{args:List AV}{v:AV}{vs:Array Value}{w:World}(h:Ret P Γ f args [] v [])(hne:f≠4095)(hg:∀g cs,(g,cs)∈Γ.globs->IRep w (λ_=>False) (.iptr cs 0) (.pointer (some ⟨g,0,none⟩)))
  (hs:vs.size=args.length) (ha:∀(j:Nat) (a:AV) (u:Value),args[j]?=some a->vs[j]?=some u->IRep w (λ_=>False) a u):
  Calls P f vs w λe w'=>∃u,e= .returned u/\Kept (λ_=>False) w w'/\IRep w' (λ_=>False) v u:=by
 have hmu:∀b,¬Mu (λ_=>False) (λ_=>RS.unborn) b:=by
  rintro b (h | ⟨i,h⟩)
  ·exact h
  ·cases h
 have hMu:Mu (λ_=>False) (λ_=>RS.unborn)=λ_=>False:=funext λb=>propext ⟨λh=>hmu b h,False.elim⟩
 have ho:HOK Γ w (λ_=>False) (λ_=>RS.unborn) []:=by
  constructor
  ·intro i j b h;cases h
  ·intro i b h;cases h
  ·intro b h;exact False.elim h
  ·intro _ _;rfl
  ·intro i cs h;simp at h
  ·intro i b h;cases h
  ·intro g cs hgc;rw[hMu];exact hg g cs hgc
 have hX:=h.2 w (λ_=>False) (λ_=> .unborn) vs ho hs (λj a u h1 h2=> .imm _ _ (by rw[hMu];exact ha j a u h1 h2));rcases hX with⟨_,hX⟩ | ⟨e,_⟩
 rotate_left
 ·exact absurd e hne
 refine hX.mono ?_;rintro e w' ⟨u,ρ',rfl,hA,hr⟩;have hu:∀i,ρ' i= .unborn:=λi=>hA.hok.unborn i (Nat.zero_le _)
 refine⟨u,rfl,hA.kept.mono (λb _ ⟨i,hi⟩=>by cases hi),?_⟩;exact(hr.unbornI hu).weaken (λb _ h=>False.elim h)
theorem Kept.keptBut{w w':World}(h:Kept (λ_=>False) w w')(may:MemPlace->Prop):w.keptBut w' may:=by
 refine⟨h.rest.1,h.rest.2,λi hi=>?_⟩;have e:=h.same i hi (λx=>x);rw[e];cases w.heap[i]? with
 |none=>rfl
 |some o=>cases o<;>first | exact⟨rfl,rfl,rfl,λ_ _=>rfl⟩ | exact .inr ⟨rfl,rfl⟩ | rfl
theorem qug{H:Type}{enc:TypeId×Value->H}{P:Program}{f:Func}{s:ChangeSpec}{apart fresh handsOn again:Bool}{W W':World}{args:Array Value}{v:Value}{ds gs:List (DataW H)}{before pa pv:List MemPlace}
  (hW:DataW.Whole enc P f.params.toList s.vars apart W args.toList ds gs before)
  (hres:∀(b:Nat) (sp:Nat->Bool) (hd:Bool),DataW.TrodAll enc P W' b sp hd f.resultTypes.toList (v.resultList f.resultTypes.size) (s.fn H (ds++gs)).results [])
  (hargs:∀sp:Nat->Bool,(∀p∈before,sp p.block=true)->DataW.TrodAll enc P W' 0 sp true f.params.toList args.toList (s.fn H (ds++gs)).args pa)
  (hvars:∀sp:Nat->Bool,(∀p∈before,sp p.block=true)->DataW.TrodVars enc P W' sp s.vars (s.fn H (ds++gs)).vars pv)
  (hps:before=pa++pv) (hk:Kept (λ_=>False) W W')
  (hok:∀(j:Nat) (t:TypeId) (r:Value),f.resultTypes[j]?=some t->(v.resultList f.resultTypes.size)[j]?=some r->Value.okWide P W' .any 0 t r):
  s.post enc P f apart fresh handsOn again W args v W':=by
 have hlt:=hW.lt;have hold:∀p∈before,(λb=>decide (b<W.heap.size)) p.block=true:=λp hp=>by simpa using hlt p hp
 refine⟨ds,gs,before,[],pa,pv,hW,hres _ _ _,hargs _ hold,hvars _ hold,World.keptBut_mono (λp hp=>⟨hp,?_⟩) (hk.keptBut (· ∈ before)),λ_=>?_⟩
 ·rw[hps,List.mem_append]at hp;exact Or.inr hp
 ·obtain⟨_,_,_,_,_,hz,hn⟩:=hW;refine⟨hok,_,_,([]++pa)++pv,⟨[]++pa,pv,trodAll_append (hargs _ (λ_ _=>rfl)) (hres _ _ _),hvars _ (λ_ _=>rfl),rfl,?_,?_⟩,?_⟩
  ·intro b off hp;have hp':=hp;simp only[List.nil_append,<-hps]at hp';rw[hk.frozen b off (by simpa[MemPlace.block]using hlt _ hp')];exact hz b off hp'
  ·intro ha;have:=hn ha;rw[hps]at this;simpa using this
  ·intro p hp _;rw[hps];simpa using hp
