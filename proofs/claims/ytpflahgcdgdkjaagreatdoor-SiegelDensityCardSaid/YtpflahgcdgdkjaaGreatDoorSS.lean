/- A part of the proof. -/
import Derived.Test.YtpflahgcdgdkjaaGreatDoorAL25
set_option linter.all false
namespace Go.AL
open Go
abbrev mV (d s:Nat):COp:=⟨some d,none,.mov (.t s)⟩
abbrev oP (d:Nat) (k:CK):COp:=⟨some d,none,k⟩
abbrev sT (k:CK):COp:=⟨none,none,k⟩
abbrev gU (d g:Nat) (w:Bool) (k:CK):COp:=⟨some d,some (g,w),k⟩
abbrev kI (n:Int):Opd:= .k (.int .i64 n)
abbrev bT (d:Nat) (o:BinOp) (a b:Nat):COp:=oP d (.bin o (.t a) (.t b))
abbrev bK (d:Nat) (o:BinOp) (a:Nat) (n:Int):COp:=oP d (.bin o (.t a) (kI n))
abbrev ldO (d:Nat) (g:Bool) (k a:Nat):COp:=oP d (.load g k (.t a))
abbrev iX (d s a b:Nat):COp:=oP d (.idx s (.t a) (.t b))
abbrev cL (d f:Nat) (l:List Opd):COp:=oP d (.call f l)
abbrev eX (d a i:Nat):COp:=oP d (.ext (.t a) i)
abbrev lN (d a:Nat):COp:=oP d (.len false (.t a))
abbrev rN (l:List COp):CC:= .reg l none
abbrev RL:=List COp
theorem SS:(∀{P:Program} {Γ:Glob} {n0 nt:Nat} {E:Env} {H:Heap} {Q:Post},wpC P Γ n0 nt .skip E H Q=(Q .normal E H))/\
 (∀{P:Program} {Γ:Glob} {n0 nt:Nat} {E:Env} {H:Heap} {Q:Post},wpC P Γ n0 nt .ret E H Q=(Q .ret E H))/\
 (∀{P:Program} {Γ:Glob} {n0 nt:Nat} {E:Env} {H:Heap} {Q:Post} {i:Nat},wpC P Γ n0 nt (.exit i) E H Q=(Q (.exit i) E H))/\
 (∀{P:Program} {Γ:Glob} {n0 nt:Nat} {E:Env} {H:Heap} {Q:Post} {i:Nat},wpC P Γ n0 nt (.label i) E H Q=(Q .normal E H))/\
 (∀{P:Program} {Γ:Glob} {n0 nt:Nat} {E:Env} {H:Heap} {Q:Post} {i:Nat},wpC P Γ n0 nt (.goto i) E H Q=(Q (.goto i) E H))/\
 (∀{P:Program} {Γ:Glob} {n0 nt:Nat} {E:Env} {H:Heap} {Q:Post} {a b:CC},wpC P Γ n0 nt (.seq a b) E H Q=(wpC P Γ n0 nt a E H (zdt (fun E' H'=>wpC P Γ n0 nt b E' H' Q) Q)))/\
 (∀{P:Program} {Γ:Glob} {n0 nt:Nat} {E:Env} {H:Heap} {Q:Post} {x:Opd} {a b:CC},wpC P Γ n0 nt (.cond x a b) E H Q=(zau (zth (val E x)) fun t=>both t (wpC P Γ n0 nt a E H Q) (wpC P Γ n0 nt b E H Q)))/\
 (∀{P:Program} {Γ:Glob} {n0 nt:Nat} {E:Env} {H:Heap} {Q:Post} {i:Nat} {c:CC},wpC P Γ n0 nt (.block i c) E H Q=(wpC P Γ n0 nt c E H (zls i Q)))/\
 (∀{P:Program} {Γ:Glob} {n0 nt:Nat} {E:Env} {H:Heap} {Q:Post} {cs:List COp},wpC P Γ n0 nt (.reg cs none) E H Q=(regA P Γ n0 cs E H (fun _ E' H'=>Q .normal E' H')))/\
 (∀{P:Program} {Γ:Glob} {n0 nt:Nat} {E:Env} {H:Heap} {Q:Post} {cs:List COp} {l:List (Nat×Nat)},wpC P Γ n0 nt (.reg cs (some l)) E H Q=(regA P Γ n0 cs E H (fun fps E' H'=>dynB l fps=true/\Q .normal E' H')))/\
 (∀{P:Program} {Γ:Glob} {n0 nt:Nat} {E:Env} {H:Heap} {Q:Post} {c:CC},wpC P Γ n0 nt (.loop c) E H Q=(W P Γ n0 nt (.loop c) E H Q))/\
 (∀{P:Program} {Γ:Glob} {n0 nt:Nat} {E:Env} {H:Heap} {Q:Post} {c:CC},wpC P Γ n0 nt (.scope c) E H Q=(W P Γ n0 nt (.scope c) E H Q))/\
 (∀{P:Program} {Γ:Glob} {n0:Nat} {d:Option Nat} {os:List COp} {E:Env} {H:Heap} {Q:List FP->Env->Heap->Prop} {v:AV},goon P Γ n0 d os E H Q v=(regA P Γ n0 os (updO E d v) H fun l=>Q (([],[])::l)))/\
 (∀{d s:Nat},mV d s=⟨some d,none,.mov (.t s)⟩)/\
 (∀{d:Nat} {k:CK},oP d k=⟨some d,none,k⟩)/\
 (∀{k:CK},sT k=⟨none,none,k⟩)/\
 (∀{d g:Nat} {w:Bool} {k:CK},gU d g w k=⟨some d,some (g,w),k⟩)/\
 (∀{n:Int},kI n= .k (.int .i64 n))/\
 (∀{d a b:Nat} {o:BinOp},bT d o a b=⟨some d,none,.bin o (.t a) (.t b)⟩)/\
 (∀{d a:Nat} {n:Int} {o:BinOp},bK d o a n=⟨some d,none,.bin o (.t a) (.k (.int .i64 n))⟩)/\
 (∀{d k a:Nat} {g:Bool},ldO d g k a=⟨some d,none,.load g k (.t a)⟩)/\
 (∀{d s a b:Nat},iX d s a b=⟨some d,none,.idx s (.t a) (.t b)⟩)/\
 (∀{d f:Nat} {l:List Opd},cL d f l=⟨some d,none,.call f l⟩)/\
 (∀{d a i:Nat},eX d a i=⟨some d,none,.ext (.t a) i⟩)/\
 (∀{d a:Nat},lN d a=⟨some d,none,.len false (.t a)⟩)/\
 (∀{l:List COp},rN l= .reg l none)/\
 (∀{E:Env} {H:Heap} {k:Env->Heap->Prop} {Q:Post},zdt k Q .normal E H=k E H)/\
 (∀{E:Env} {H:Heap} {k:Env->Heap->Prop} {Q:Post},zdt k Q .ret E H=Q .ret E H)/\
 (∀{E:Env} {H:Heap} {k:Env->Heap->Prop} {Q:Post} {i:Nat},zdt k Q (.exit i) E H=Q (.exit i) E H)/\
 (∀{E:Env} {H:Heap} {k:Env->Heap->Prop} {Q:Post} {i:Nat},zdt k Q (.goto i) E H=Q (.goto i) E H)/\
 (∀{E:Env} {H:Heap} {id:Nat} {Q:Post},zls id Q .normal E H=Q .normal E H)/\
 (∀{E:Env} {H:Heap} {id:Nat} {Q:Post},zls id Q .ret E H=Q .ret E H)/\
 (∀{E:Env} {H:Heap} {id i:Nat} {Q:Post},zls id Q (.exit i) E H=if i=id then Q .normal E H else Q (.exit i) E H)/\
 (∀{P:Program} {Γ:Glob} {n0:Nat} {E:Env} {H:Heap} {d:Option Nat} {os:List COp} {Q:List FP->Env->Heap->Prop} {x:Opd},regA P Γ n0 (⟨d,none,.mov x⟩::os) E H Q=goon P Γ n0 d os E H Q (val E x))/\
 (∀{P:Program} {Γ:Glob} {n0:Nat} {E:Env} {H:Heap} {d:Option Nat} {os:List COp} {Q:List FP->Env->Heap->Prop} {c a b:Opd},regA P Γ n0 (⟨d,none,.pick c a b⟩::os) E H Q=zau (qew (val E c) (val E a) (val E b)) (goon P Γ n0 d os E H Q))/\
 (∀{P:Program} {Γ:Glob} {n0:Nat} {E:Env} {H:Heap} {d:Option Nat} {os:List COp} {Q:List FP->Env->Heap->Prop} {x:Opd},regA P Γ n0 (⟨d,none,.box x⟩::os) E H Q=((val E x).firm=true/\regA P Γ n0 os (updO E d (.ptr H.length 0)) (H++[some (val E x).cells]) fun l=>Q (([],[H.length])::l)))/\
 (∀{P:Program} {Γ:Glob} {n0:Nat} {E:Env} {H:Heap} {d:Option Nat} {os:List COp} {Q:List FP->Env->Heap->Prop} {z:List AV} {ps:List (Nat×Nat×Opd)},regA P Γ n0 (⟨d,none,.build z ps⟩::os) E H Q=zau (zel (val E) z ps) fun cs=>goon P Γ n0 d os E H Q (.agg cs))/\
 (∀{P:Program} {Γ:Glob} {n0:Nat} {E:Env} {H:Heap} {d:Option Nat} {os:List COp} {Q:List FP->Env->Heap->Prop} {n sz:Nat} {z:List AV} {ps:List (Nat×Nat×Opd)},regA P Γ n0 (⟨d,none,.bsl n sz z ps⟩::os) E H Q=zau (zel (val E) z ps) fun cs=>n*sz=z.length/\regA P Γ n0 os (updO E d (.sl H.length 0 n sz (some n))) (H++[some cs]) fun l=>Q (([],[H.length])::l))/\
 (∀{P:Program} {Γ:Glob} {n0:Nat} {E:Env} {H:Heap} {d:Option Nat} {os:List COp} {Q:List FP->Env->Heap->Prop} {ag:Bool} {sz:Nat} {x:Opd},regA P Γ n0 (⟨d,none,.load ag sz x⟩::os) E H Q=((ag=false->sz=1)/\zau (ldA ag sz (val E x) H) fun r=>regA P Γ n0 os (updO E d r.1) H fun l=>Q ((r.2,[])::l)))/\
 (∀{P:Program} {Γ:Glob} {n0:Nat} {E:Env} {H:Heap} {os:List COp} {Q:List FP->Env->Heap->Prop} {sz:Nat} {x v:Opd},regA P Γ n0 (⟨none,none,.store sz x v⟩::os) E H Q=zau (stA sz (val E x) (val E v) H) fun r=>regA P Γ n0 os E (H.set r.1 (some r.2)) fun l=>Q (([r.1],[r.1])::l))/\
 (∀{P:Program} {Γ:Glob} {n0:Nat} {E:Env} {H:Heap} {d:Option Nat} {os:List COp} {Q:List FP->Env->Heap->Prop} {x:Opd},regA P Γ n0 (⟨d,none,.nilck x⟩::os) E H Q=zau (nilA (val E x)) (goon P Γ n0 d os E H Q))/\
 (∀{P:Program} {Γ:Glob} {n0:Nat} {E:Env} {H:Heap} {d:Option Nat} {os:List COp} {Q:List FP->Env->Heap->Prop} {op:BinOp} {x y:Opd},regA P Γ n0 (⟨d,none,.bin op x y⟩::os) E H Q=zau (binA op (val E x) (val E y)) (goon P Γ n0 d os E H Q))/\
 (∀{P:Program} {Γ:Glob} {n0:Nat} {E:Env} {H:Heap} {d:Option Nat} {os:List COp} {Q:List FP->Env->Heap->Prop} {neg:Bool} {x y:Opd},regA P Γ n0 (⟨d,none,.beq neg x y⟩::os) E H Q=zau (beqA neg (val E x) (val E y)) (goon P Γ n0 d os E H Q))/\
 (∀{P:Program} {Γ:Glob} {n0:Nat} {E:Env} {H:Heap} {d:Option Nat} {os:List COp} {Q:List FP->Env->Heap->Prop} {neg:Bool} {x:Opd},regA P Γ n0 (⟨d,none,.snil neg x⟩::os) E H Q=zau (zvy neg (val E x)) (goon P Γ n0 d os E H Q))/\
 (∀{P:Program} {Γ:Glob} {n0:Nat} {E:Env} {H:Heap} {d:Option Nat} {os:List COp} {Q:List FP->Env->Heap->Prop} {op:UnOp} {x:Opd},regA P Γ n0 (⟨d,none,.un op x⟩::os) E H Q=zau (unA op (val E x)) (goon P Γ n0 d os E H Q))/\
 (∀{P:Program} {Γ:Glob} {n0:Nat} {E:Env} {H:Heap} {d:Option Nat} {os:List COp} {Q:List FP->Env->Heap->Prop} {k:IntKind} {x:Opd},regA P Γ n0 (⟨d,none,.conv k x⟩::os) E H Q=zau (qex k (val E x)) (goon P Γ n0 d os E H Q))/\
 (∀{P:Program} {Γ:Glob} {n0:Nat} {E:Env} {H:Heap} {d:Option Nat} {os:List COp} {Q:List FP->Env->Heap->Prop} {sz bytes:Nat} {z:List AV} {x y:Opd},regA P Γ n0 (⟨d,none,.mksl sz bytes z x y⟩::os) E H Q=((z.length=sz/\0<sz)/\zau (qey bytes (val E x) (val E y)) fun r=>regA P Γ n0 os (updO E d (.sl H.length 0 r.1.toNat sz (some r.2.toNat))) (H++[some (zfl r.2.toNat z)]) fun l=>Q (([],[H.length])::l)))/\
 (∀{P:Program} {Γ:Glob} {n0:Nat} {E:Env} {H:Heap} {d:Option Nat} {os:List COp} {Q:List FP->Env->Heap->Prop} {sz:Nat} {x:Opd} {lo hi mx:Option Opd},regA P Γ n0 (⟨d,none,.slice sz x lo hi mx⟩::os) E H Q=zau (zdp (val E) sz (val E x) lo hi mx) (goon P Γ n0 d os E H Q))/\
 (∀{P:Program} {Γ:Glob} {n0:Nat} {E:Env} {H:Heap} {d:Option Nat} {os:List COp} {Q:List FP->Env->Heap->Prop} {off:Nat} {x:Opd},regA P Γ n0 (⟨d,none,.fld off x⟩::os) E H Q=zau (fldA off (val E x)) (goon P Γ n0 d os E H Q))/\
 (∀{P:Program} {Γ:Glob} {n0:Nat} {E:Env} {H:Heap} {d:Option Nat} {os:List COp} {Q:List FP->Env->Heap->Prop} {ag:Bool} {sz off:Nat} {x:Opd},regA P Γ n0 (⟨d,none,.part ag sz off x⟩::os) E H Q=zau (qez ag sz off (val E x)) (goon P Γ n0 d os E H Q))/\
 (∀{P:Program} {Γ:Glob} {n0:Nat} {E:Env} {H:Heap} {d:Option Nat} {os:List COp} {Q:List FP->Env->Heap->Prop} {sz:Nat} {x i:Opd},regA P Γ n0 (⟨d,none,.idx sz x i⟩::os) E H Q=zau (idxA sz (val E x) (val E i)) (goon P Γ n0 d os E H Q))/\
 (∀{P:Program} {Γ:Glob} {n0:Nat} {E:Env} {H:Heap} {d:Option Nat} {os:List COp} {Q:List FP->Env->Heap->Prop} {n sz:Nat} {x i:Opd},regA P Γ n0 (⟨d,none,.idxa n sz x i⟩::os) E H Q=zau (zvz n sz (val E x) (val E i)) (goon P Γ n0 d os E H Q))/\
 (∀{P:Program} {Γ:Glob} {n0:Nat} {E:Env} {H:Heap} {d:Option Nat} {os:List COp} {Q:List FP->Env->Heap->Prop} {n sz:Nat} {ag:Bool} {x i:Opd},regA P Γ n0 (⟨d,none,.idxv n ag sz x i⟩::os) E H Q=zau (qfa n ag sz (val E x) (val E i)) (goon P Γ n0 d os E H Q))/\
 (∀{P:Program} {Γ:Glob} {n0:Nat} {E:Env} {H:Heap} {d:Option Nat} {os:List COp} {Q:List FP->Env->Heap->Prop} {x i:Opd},regA P Γ n0 (⟨d,none,.idxs x i⟩::os) E H Q=zau (qfb (val E x) (val E i)) (goon P Γ n0 d os E H Q))/\
 (∀{P:Program} {Γ:Glob} {n0:Nat} {E:Env} {H:Heap} {d:Option Nat} {os:List COp} {Q:List FP->Env->Heap->Prop} {x:Opd} {i:Nat},regA P Γ n0 (⟨d,none,.ext x i⟩::os) E H Q=zau (extA i (val E x)) (goon P Γ n0 d os E H Q))/\
 (∀{P:Program} {Γ:Glob} {n0:Nat} {E:Env} {H:Heap} {d:Option Nat} {os:List COp} {Q:List FP->Env->Heap->Prop} {x:Opd},regA P Γ n0 (⟨d,none,.len false x⟩::os) E H Q=zau (zwa (val E x)) (goon P Γ n0 d os E H Q))/\
 (∀{P:Program} {Γ:Glob} {n0:Nat} {E:Env} {H:Heap} {d:Option Nat} {os:List COp} {Q:List FP->Env->Heap->Prop} {x:Opd},regA P Γ n0 (⟨d,none,.len true x⟩::os) E H Q=zau (ztl (val E x)) (goon P Γ n0 d os E H Q))/\
 (∀{P:Program} {Γ:Glob} {n0:Nat} {E:Env} {H:Heap} {d:Option Nat} {os:List COp} {Q:List FP->Env->Heap->Prop} {n:Nat},regA P Γ n0 (⟨d,none,.lenk n⟩::os) E H Q=goon P Γ n0 d os E H Q (.int .i64 n))/\
 (∀{P:Program} {Γ:Glob} {n0:Nat} {E:Env} {H:Heap} {d:Option Nat} {os:List COp} {Q:List FP->Env->Heap->Prop} {x y:Opd},regA P Γ n0 (⟨d,none,.max x y⟩::os) E H Q=zau (maxA (val E x) (val E y)) (goon P Γ n0 d os E H Q))/\
 (∀{P:Program} {Γ:Glob} {n0:Nat} {E:Env} {H:Heap} {d:Option Nat} {os:List COp} {Q:List FP->Env->Heap->Prop} {f:FuncId} {caps:List Opd},regA P Γ n0 (⟨d,none,.mkfn f caps⟩::os) E H Q=goon P Γ n0 d os E H Q (.clo f (caps.map (val E))))/\
 (∀{P:Program} {Γ:Glob} {n0:Nat} {E:Env} {H:Heap} {d:Option Nat} {os:List COp} {Q:List FP->Env->Heap->Prop} {sz bytes:Nat} {s x:Opd},regA P Γ n0 (⟨d,none,.append sz bytes s x⟩::os) E H Q=zau (zbf n0 H.length H sz bytes (val E s) (val E x)) fun r=>regA P Γ n0 os (updO E d r.1) (zad r.2.1 (H++[none])) fun l=>Q ((r.2.2,keys r.2.1)::l))/\
 (∀{P:Program} {Γ:Glob} {n0:Nat} {E:Env} {H:Heap} {d:Option Nat} {f:FuncId} {args:List Opd} {os:List COp} {Q:List FP->Env->Heap->Prop},regA P Γ n0 (⟨d,none,.call f args⟩::os) E H Q=zlt P Γ f (args.map (val E)) H (zaj P Γ n0 d os E H Q))/\
 (∀{P:Program} {Γ:Glob} {n0:Nat} {E:Env} {H:Heap} {d:Option Nat} {x:Opd} {args:List Opd} {os:List COp} {Q:List FP->Env->Heap->Prop},regA P Γ n0 (⟨d,none,.callc x args⟩::os) E H Q= ∃f caps,val E x= .clo f caps/\okC (okFn P) f=true/\zlt P Γ (cloF f) (cloA f (args.map (val E)) caps) H (zaj P Γ n0 d os E H Q))/\
 (∀{P:Program} {Γ:Glob} {n0:Nat} {E:Env} {H:Heap} {d:Option Nat} {g:Nat} {want:Bool} {k:CK} {os:List COp} {Q:List FP->Env->Heap->Prop},regA P Γ n0 (⟨d,some (g,want),k⟩::os) E H Q=zau (ztg (E g)) fun b=>(b=want->regA P Γ n0 (⟨d,none,k⟩::os) (upd E g (.bool want)) H Q)/\(b=!want->regA P Γ n0 os (updO (upd E g (.bool !want)) d .junk) H (fun l=>Q (([],[])::l))))/\
 (∀{P:Program} {Γ:Glob} {n0:Nat} {E:Env} {H:Heap} {Q:List FP->Env->Heap->Prop},regA P Γ n0 [] E H Q=Q [] E H)/\
 (∀{P:Program} {Γ:Glob} {n0:Nat} {E:Env} {H:Heap} {d:Option Nat} {os:List COp} {Q:List FP->Env->Heap->Prop} {v:AV},zaj P Γ n0 d os E H Q v [] [] 0=regA P Γ n0 os (updO E d v) H (fun l=>Q (([],[])::l)))/\
 (∀{b:Bool},ztg (.bool b)=some b)/\
 (∀{b:Bool},zth (.bool b)=some (some b))/\
 (zth .anyb=some none)/\
 (∀{t:Bool} {A B:Prop},both (some t) A B=((t=true->A)/\(t=false->B)))/\
 (∀{A B:Prop},both none A B=(A/\B))/\
 (∀{x y:AV} {t:Bool},qew (.bool t) x y=some (if t=true then x else y))/\
 (∀{H:Heap} {id off sz:Nat} {ag:Bool},ldA ag sz (.ptr id off) H=(getB H id).bind fun cs=>need (off+sz<=cs.length) (some (ldv ag sz off cs,[id])))/\
 (∀{H:Heap} {sz p:Nat} {cs:List AV} {ag:Bool},ldA ag sz (.iptr cs p) H=need (p+sz<=cs.length) (some (ldv ag sz p cs,[])))/\
 (∀{off sz:Nat} {cs:List AV},ldv false sz off cs=cs.getD off .junk)/\
 (∀{off sz:Nat} {cs:List AV},ldv true sz off cs= .agg ((cs.drop off).take sz))/\
 (∀{H:Heap} {id off sz:Nat} {v:AV},stA sz (.ptr id off) v H=(getB H id).bind fun cs=>need (v.firm=true/\v.cells.length=sz/\AV.scalL v.cells=true/\off+sz<=cs.length) (some (id,setL cs off v.cells)))/\
 (∀{id off:Nat},nilA (.ptr id off)=some (.ptr id off))/\
 (∀{p:Nat} {cs:List AV},nilA (.iptr cs p)=some (.iptr cs p))/\
 (∀{k:IntKind} {a b:Int},binA .add (.int k a) (.int k b)=some (.int k (k.wrap (a+b))))/\
 (∀{k:IntKind} {a b:Int},binA .sub (.int k a) (.int k b)=some (.int k (k.wrap (a-b))))/\
 (∀{k:IntKind} {a b:Int},binA .mul (.int k a) (.int k b)=some (.int k (k.wrap (a*b))))/\
 (∀{k:IntKind} {a b:Int},binA .quo (.int k a) (.int k b)=need (b≠0) (some (.int k (k.wrap (a.tdiv b)))))/\
 (∀{k:IntKind} {a b:Int},binA .rem (.int k a) (.int k b)=need (b≠0) (some (.int k (a.tmod b))))/\
 (∀{k k':IntKind} {a b:Int},binA .shl (.int k a) (.int k' b)=need (0<=b) (some (.int k (k.wrap (a*2^(min b.toNat k.bits))))))/\
 (∀{k k':IntKind} {a b:Int},binA .shr (.int k a) (.int k' b)=need (0<=b) (some (.int k (a.fdiv (2^(min b.toNat k.bits))))))/\
 (∀{k:IntKind} {a b:Int},binA .and (.int k a) (.int k b)=some (.int k (k.wrap (BitVec.ofInt k.bits a &&& BitVec.ofInt k.bits b).toNat)))/\
 (∀{k:IntKind} {a b:Int},binA .or (.int k a) (.int k b)=some (.int k (k.wrap (BitVec.ofInt k.bits a ||| BitVec.ofInt k.bits b).toNat)))/\
 (∀{k:IntKind} {a b:Int},binA .andNot (.int k a) (.int k b)=some (.int k (k.wrap (BitVec.ofInt k.bits a &&& ~~~ BitVec.ofInt k.bits b).toNat)))/\
 (∀{k:IntKind} {a b:Int},binA .eql (.int k a) (.int k b)=some (.bool (decide (a=b))))/\
 (∀{k:IntKind} {a b:Int},binA .neq (.int k a) (.int k b)=some (.bool (decide (a≠b))))/\
 (∀{k:IntKind} {a b:Int},binA .lss (.int k a) (.int k b)=some (.bool (decide (a<b))))/\
 (∀{k:IntKind} {a b:Int},binA .leq (.int k a) (.int k b)=some (.bool (decide (a<=b))))/\
 (∀{k:IntKind} {a b:Int},binA .gtr (.int k a) (.int k b)=some (.bool (decide (b<a))))/\
 (∀{k:IntKind} {a b:Int},binA .geq (.int k a) (.int k b)=some (.bool (decide (b<=a))))/\
 (∀{s t:ByteArray},binA .eql (.str s) (.str t)=some (.bool (s.toList == t.toList)))/\
 (∀{s t:ByteArray},binA .add (.str s) (.str t)=need ((s.size+t.size:Nat)<=IntKind.i64.max) (some (.str (s++t))))/\
 (∀{neg s t:Bool},beqA neg (.bool s) (.bool t)=some (.bool (if neg=true then !(s == t) else (s == t))))/\
 (∀{n:Nat} {c:Option Nat} {cs:List AV} {neg:Bool},zvy neg (.vec cs n c)=if n=0 then some .anyb else some (.bool neg))/\
 (∀{id off n sz:Nat} {c:Option Nat} {neg:Bool},zvy neg (.sl id off n sz c)=some (.bool neg))/\
 (∀{k:IntKind} {a:Int},unA .neg (.int k a)=some (.int k (k.wrap (0-a))))/\
 (∀{t:Bool},unA .not (.bool t)=some (.bool !t))/\
 (∀{k k':IntKind} {a:Int},qex k (.int k' a)=some (.int k (k.wrap a)))/\
 (∀{k k':IntKind} {a b:Int} {bytes:Nat},qey bytes (.int k a) (.int k' b)=need (0<=a/\a<=b/\b*bytes<=2^48/\b<2^63) (some (a,b)))/\
 (∀{k:IntKind} {a:Int},zfn (.int k a)=need (0<=a) (some a.toNat))/\
 (∀{V:Opd->AV} {d:Nat},zbb V d none=some d)/\
 (∀{V:Opd->AV} {d:Nat} {z:Opd},zbb V d (some z)=zfn (V z))/\
 (∀{n sz:Nat} {c:Option Nat} {cs:List AV} {V:Opd->AV} {lo hi:Option Opd},zdp V sz (.vec cs n c) lo hi none=(zbb V n hi).bind fun h=>(zbb V 0 lo).bind fun l=>need (l<=h/\h<=n/\n*sz<=cs.length) (some (.vec ((cs.drop (l*sz)).take ((h-l)*sz)) (h-l) (zdv l c))))/\
 (∀{id off n sz:Nat} {c:Option Nat} {V:Opd->AV} {lo hi:Option Opd} {s:Nat},zdp V sz (.sl id off n s c) lo hi none=(zbb V n hi).bind fun h=>(zbb V 0 lo).bind fun l=>need (s=sz/\l<=h/\h<=n) (some (if l=h then ziq id off sz l c else .sl id (off+l*sz) (h-l) sz (zdv l c))))/\
 (∀{n sz:Nat} {c:Option Nat} {cs:List AV} {V:Opd->AV} {lo hi:Option Opd} {m:Opd},zdp V sz (.vec cs n c) lo hi (some m)=(zbb V n hi).bind fun h=>(zbb V 0 lo).bind fun l=>(zfn (V m)).bind fun m=>need (hi.isSome=true/\l<=h/\h<=m/\m<=n/\n*sz<=cs.length) (some (.vec ((cs.drop (l*sz)).take ((h-l)*sz)) (h-l) (some (m-l)))))/\
 (∀{id off n sz:Nat} {c:Option Nat} {V:Opd->AV} {lo hi:Option Opd} {m:Opd} {s:Nat},zdp V sz (.sl id off n s c) lo hi (some m)=(zbb V n hi).bind fun h=>(zbb V 0 lo).bind fun l=>(zfn (V m)).bind fun m=>need (hi.isSome=true/\s=sz/\l<=h/\h<=m/\m<=n) (some (if l=h then .vec [] 0 (some (m-l)) else .sl id (off+l*sz) (h-l) sz (some (m-l)))))/\
 (∀{l:Nat},zdv l none=none)/\
 (∀{c:Option Nat},zdv 0 c=c)/\
 (∀{id off:Nat} {o:Nat},fldA off (.ptr id o)=some (.ptr id (o+off)))/\
 (∀{off p:Nat} {cs:List AV},fldA off (.iptr cs p)=some (.iptr cs (p+off)))/\
 (∀{off sz:Nat} {cs:List AV} {ag:Bool},qez ag sz off (.agg cs)=need (off+sz<=cs.length/\(ag=false->sz=1)) (some (ldv ag sz off cs)))/\
 (∀{id off n sz:Nat} {c:Option Nat} {k:IntKind} {a:Int} {s:Nat},idxA sz (.sl id off n s c) (.int k a)=need (s=sz/\0<=a/\a<n) (some (.ptr id (off+a.toNat*sz))))/\
 (∀{n sz:Nat} {c:Option Nat} {cs:List AV} {k:IntKind} {a:Int},idxA sz (.vec cs n c) (.int k a)=need (0<=a/\a<n) (some (.iptr cs (a.toNat*sz))))/\
 (∀{id off n sz:Nat} {k:IntKind} {a:Int},zvz n sz (.ptr id off) (.int k a)=need (0<=a/\a<n) (some (.ptr id (off+a.toNat*sz))))/\
 (∀{n sz p:Nat} {cs:List AV} {k:IntKind} {a:Int},zvz n sz (.iptr cs p) (.int k a)=need (0<=a/\a<n) (some (.iptr cs (p+a.toNat*sz))))/\
 (∀{n sz:Nat} {cs:List AV} {k:IntKind} {a:Int} {ag:Bool},qfa n ag sz (.agg cs) (.int k a)=need (0<=a/\a<n/\a.toNat*sz+sz<=cs.length/\(ag=false->sz=1)) (some (ldv ag sz (a.toNat*sz) cs)))/\
 (∀{k:IntKind} {a:Int} {s:ByteArray},qfb (.str s) (.int k a)=need (0<=a/\a<s.size) (some (.int .u8 (s.data.getD a.toNat 0).toNat)))/\
 (∀{cs:List AV} {i:Nat},extA i (.tup cs)=cs[i]?)/\
 (∀{n:Nat} {c:Option Nat} {cs:List AV},zwa (.vec cs n c)=some (.int .i64 n))/\
 (∀{id off n sz:Nat} {c:Option Nat},zwa (.sl id off n sz c)=some (.int .i64 n))/\
 (∀{s:ByteArray},ztl (.str s)=some (.int .i64 s.size))/\
 (∀{k k':IntKind} {a b:Int},maxA (.int k a) (.int k' b)=some (.int k (if b>a then b else a)))/\
 (∀{E:Env} {t:Nat},val E (.t t)=E t)/\
 (∀{x:AV} {E:Env},val E (.k x)=x)/\
 (∀{x:AV} {E:Env} {d:Nat},updO E (some d) x=upd E d x)/\
 (∀{x:AV} {E:Env},updO E none x=E)/\
 (∀{cs:List AV},(AV.agg cs).cells=cs)/\
 (∀{k:IntKind} {a:Int},(AV.int k a).cells=[.int k a])/\
 (∀{t:Bool},(AV.bool t).cells=[.bool t])/\
 (∀{n:Nat} {c:Option Nat} {cs:List AV},(AV.vec cs n c).cells=[.vec cs n c])/\
 (∀{id off n sz:Nat} {c:Option Nat},(AV.sl id off n sz c).cells=[.sl id off n sz c])/\
 (∀{cs:List AV},(AV.agg cs).firm=true)/\
 (∀{k:IntKind} {a:Int},(AV.int k a).firm=true)/\
 (∀{t:Bool},(AV.bool t).firm=true)/\
 (∀{n:Nat} {c:Option Nat} {cs:List AV},(AV.vec cs n c).firm=true)/\
 (∀{id off n sz:Nat} {c:Option Nat},(AV.sl id off n sz c).firm=true)/\
 (∀{cs:List AV} {i:Nat},setL cs i []=cs)/\
 (∀{cs:List AV} {i:Nat} {v:AV} {vs:List AV},setL cs i (v::vs)=setL (cs.set i v) (i+1) vs)/\
 (AV.scalL []=true)/\
 (∀{x:AV} {r:List AV},AV.scalL (x::r)=(x.scal && AV.scalL r))/\
 (∀{k:IntKind} {a:Int},(AV.int k a).scal=true)/\
 (∀{t:Bool},(AV.bool t).scal=true)/\
 (∀{n:Nat} {c:Option Nat} {cs:List AV},(AV.vec cs n c).scal=true)/\
 (∀{id off n sz:Nat} {c:Option Nat},(AV.sl id off n sz c).scal=true)/\
 (∀{cs:List AV} {V:Opd->AV},zel V cs []=some cs)/\
 (∀{off:Nat} {cs:List AV} {V:Opd->AV} {s:Nat} {z:Opd} {r:List (Nat×Nat×Opd)},zel V cs ((off,s,z)::r)=need ((V z).firm=true/\(V z).cells.length=s/\off+s<=cs.length) (zel V (setL cs off (V z).cells) r))/\
 (∀{m:Nat} {z:AV},zfl m [z]=List.replicate m z)/\
 (∀{α:Type} (a:α) (F:α->Prop),zau (some a) F=F a)/\
 (∀{α:Type} (c:Prop) [Decidable c] (x:Option α) (F:α->Prop),zau (need c x) F=(c/\zau x F))/\
 (∀{α:Type} (F:α->Prop),zau none F=False)/\
 (∀{α β:Type} (x:Option α) (f:α->Option β) (F:β->Prop),zau (x.bind f) F=zau x fun a=>zau (f a) F)/\
 (∀{E:Env} {d:Nat} {v:AV} {t:Nat},upd E d v t=if t=d then v else E t)/\
 (∀{args:List AV} {t:Nat},zik args t=args.getD t .junk)/\
 (∀{H:Heap} {cs:List AV},getB (some cs::H) 0=some cs)/\
 (∀{H:Heap} {c:Option (List AV)} {n:Nat},getB (c::H) (n+1)=getB H n)/\
 (∀{id off sz l q:Nat},ziq id off sz l (some q)= .vec [] 0 (zdv l (some q)))/\
 (∀{id off sz l:Nat} {c:Option Nat},ziq id off sz (l+1) c= .vec [] 0 (zdv (l+1) c))/\
 (∀{id off sz:Nat},ziq id off sz 0 none= .sl id off 0 sz none)/\
 (∀{α:Type} {x d:α} {l:List α},(x::l).getD 0 d=x)/\
 (∀{α:Type} {x d:α} {l:List α} {n:Nat},(x::l).getD (n+1) d=l.getD n d)/\
 (∀{α:Type} {d:α} {n:Nat},([]:List α).getD n d=d)/\
 (∀{α β:Type} {f:α->β} {a:α} {l:List α},(a::l).map f=f a::l.map f)/\
 (∀{α β:Type} {f:α->β},([]:List α).map f=[])/\
 (∀{α:Type} {a:α} {l:List α},(a::l).length=l.length+1)/\
 (∀{α:Type},([]:List α).length=0)/\
 (∀{α:Type} (l:List α),[]++l=l)/\
 (∀{α:Type} {a:α} {l m:List α},(a::l)++m=a::(l++m))/\
 (∀(p:Prop),(True/\p)=p)/\
 (∀(p:Prop),(p/\True)=p)/\
 (∀(p:Prop),(True->p)=p)/\
 (∀{α β:Type} (a:α) (f:α->Option β),(some a).bind f=f a)/\
 (∀{α β:Type} (f:α->Option β),(none:Option α).bind f=none)/\
 (∀(p:Prop),(False->p)=True)/\
 ((!true)=false)/\
 ((!false)=true)/\
 ((true=false)=False)/\
 ((false=true)=False)/\
 (∀(n:Nat),0+n=n)/\
 (∀(n:Nat),(n+1=0)=False)/\
 (∀{p:Prop} [Decidable p],(decide p=true)=p)/\
 (∀{p:Prop} [Decidable p],(decide p=false)= ¬p)/\
 (∀(n:Nat),n*1=n)/\
 (∀{α:Type} {a:α} {l:List α} {n:Nat},(a::l).take (n+1)=a::l.take n)/\
 (∀{α:Type} {l:List α},l.take 0=[])/\
 (∀{α:Type} {l:List α},l.drop 0=l)/\
 (∀{α:Type} {a:α} {l:List α} {n:Nat},(a::l).drop (n+1)=l.drop n)/\
 (∀{α:Type} {x a:α} {l:List α},(x::l).set 0 a=a::l)/\
 (∀{α:Type} {x a:α} {l:List α} {n:Nat},(x::l).set (n+1) a=x::l.set n a)/\
 (∀(b:Bool),(b && true)=b)/\
 (∀(b:Bool),(b && b)=b):=
 ⟨rfl,
 rfl,
 rfl,
 rfl,
 rfl,
 rfl,
 rfl,
 rfl,
 rfl,
 rfl,
 rfl,
 rfl,
 rfl,
 rfl,
 rfl,
 rfl,
 rfl,
 rfl,
 rfl,
 rfl,
 rfl,
 rfl,
 rfl,
 rfl,
 rfl,
 rfl,
 @zos,
 @zvx,
 @zti,
 @ztj,
 @ztk,
 @qev,
 @qbj,
 @qxz,
 @qsx,
 @qya,
 @qlr,
 @qyb,
 @qsy,
 @qls,
 @qlt,
 @qyc,
 @qyd,
 @qsz,
 @jar,
 @qta,
 @qtb,
 @qlu,
 @qye,
 @qtc,
 @qyf,
 @qtd,
 @qte,
 @qtf,
 @qyg,
 @qyh,
 @qtg,
 @qth,
 @qyi,
 @qti,
 @qfc,
 @qlp,
 @qlq,
 @znd,
 @qxx,
 @qbi,
 @qbk,
 @qbl,
 @qfe,
 @qff,
 @qfg,
 @qbm,
 @qtj,
 @qlv,
 @jas,
 @jat,
 @qtk,
 @qlw,
 @qfh,
 @qlx,
 @qly,
 @qlz,
 @qma,
 @qmb,
 @qmc,
 @qmd,
 @qme,
 @qtl,
 @zwb,
 @qmf,
 @qmg,
 @qmh,
 @qmi,
 @qmj,
 @qmk,
 @qfi,
 @qfj,
 @qfk,
 @qfl,
 @qml,
 @qtm,
 @qtn,
 @qfm,
 @qfn,
 @qfo,
 @zwc,
 @zwd,
 @qbn,
 @qfp,
 @zwe,
 @qbo,
 @zwh,
 @zwi,
 @qmm,
 @qfq,
 @qfr,
 @qto,
 @qmn,
 @qfs,
 @qbq,
 @qft,
 @qfu,
 @qmo,
 @qfv,
 @qmp,
 @qbr,
 @qmq,
 @jau,
 @jav,
 @qfw,
 @qfx,
 @qfy,
 @qfz,
 @qbs,
 @qga,
 @qmr,
 @qms,
 @qmt,
 @qgb,
 @qmu,
 @qtp,
 @qmv,
 @qgc,
 @qgd,
 @qbt,
 @qmw,
 @qge,
 @qmx,
 @qtq,
 @qgf,
 @qbu,
 @qgg,
 @zao,
 @zbe,
 @zbk,
 @zbt,
 @znf,
 @ztm,
 @zng,
 @qfd,
 @qbp,
 @zwf,
 @zwg,
 by intros;rfl,
 by intros;rfl,
 by intros;rfl,
 by intros;rfl,
 by intros;rfl,
 by intros;rfl,
 by intros;rfl,
 fun _=>rfl,
 by intros;rfl,
 fun p=>propext ⟨fun h=>h.2,fun h=>⟨trivial,h⟩⟩,
 fun p=>propext ⟨fun h=>h.1,fun h=>⟨h,trivial⟩⟩,
 fun p=>propext ⟨fun h=>h trivial,fun h _=>h⟩,
 by intros;rfl,
 by intros;rfl,
 fun p=>propext ⟨fun _=>trivial,fun _ h=>h.elim⟩,
 by intros;rfl,
 by intros;rfl,
 by simp,
 by simp,
 Nat.zero_add,
 fun n=>by simp,
 by intros;simp,
 by intros;simp,
 Nat.mul_one,
 by intros;rfl,
 by intros;simp,
 by intros;rfl,
 by intros;rfl,
 by intros;rfl,
 by intros;rfl,
 Bool.and_true,
 Bool.and_self⟩
theorem UU:(∀{E:Env} {d:Nat} {v:AV} {t:Nat},upd E d v t=if t=d then v else E t)/\
 (∀{args:List AV} {t:Nat},zik args t=args.getD t .junk)/\
 (∀{α:Type} {x d:α} {l:List α},(x::l).getD 0 d=x)/\
 (∀{α:Type} {x d:α} {l:List α} {n:Nat},(x::l).getD (n+1) d=l.getD n d)/\
 (∀{α:Type} {_:Decidable False} (t e:α),(if False then t else e)=e):=
 ⟨@znf,
 @ztm,
 by intros;rfl,
 by intros;rfl,
 by intros;exact if_neg not_false⟩
universe u
theorem fC {p:Prop} (α:Sort u) [Nonempty α]:(α->p)↔p:=forall_const α
end Go.AL
