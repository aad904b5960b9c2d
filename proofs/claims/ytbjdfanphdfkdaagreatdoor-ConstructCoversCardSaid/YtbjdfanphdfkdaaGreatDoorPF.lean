/- A part of the proof. -/
import Derived.Test.YtbjdfanphdfkdaaGreatDoorProg
import Derived.KernelRfl
import Derived.Test.YtbjdfanphdfkdaaGreatDoorPE
set_option linter.all false
set_option maxRecDepth 100000
namespace Go.Proofs.YtbjdfanphdfkdaaGreatDoor
open Go Go.AL Go.Proofs
def jal:CC:=(.seq (.reg [⟨(some 11),none,(.mov (.t 43))⟩] none) (.reg [⟨(some 12),none,(.mov (.t 44))⟩] none))
def jam:CC:=(.block 2 (.seq (.seq (.reg [⟨(some 45),none,(.mov (.t 12))⟩,⟨(some 46),none,(.load false 1 (.t 9))⟩,⟨(some 47),none,(.bin .gtr (.t 45) (.t 46))⟩] none) (.cond (.t 47) (.seq (.reg [⟨none,none,(.store 1 (.t 6) (.k (.vec [] 0 (some 0))))⟩,⟨none,none,(.store 1 (.t 7) (.k (.int .i64 (.ofNat (nat_lit 9)))))⟩] none) .ret) .skip)) (.seq (.reg [⟨(some 48),none,(.load false 1 (.t 9))⟩,⟨(some 49),none,(.mov (.t 12))⟩,⟨(some 50),none,(.bin .sub (.t 48) (.t 49))⟩,⟨none,none,(.store 1 (.t 9) (.t 50))⟩] none) (.reg [⟨(some 51),none,(.load false 1 (.t 8))⟩,⟨(some 52),none,(.mov (.t 11))⟩,⟨(some 53),none,(.bin .sub (.t 52) (.k (.int .i64 (.ofNat (nat_lit 1)))))⟩,⟨(some 54),none,(.idx 1 (.t 51) (.t 53))⟩,⟨(some 55),none,(.load false 1 (.t 54))⟩,⟨(some 56),none,(.mov (.t 12))⟩,⟨(some 57),none,(.bin .add (.t 55) (.t 56))⟩,⟨(some 58),none,(.idx 1 (.t 51) (.t 53))⟩,⟨none,none,(.store 1 (.t 58) (.t 57))⟩] none))))
def jbi:LD:=⟨61483,60,[43,44],[6,7,8,9],jal,jam⟩
def G:Glob:=mkG Tryz.prog [(0,[.int .i64 1,.int .i64 3,.int .i64 9,.int .i64 27])] [jbi]
theorem jbj:znk Tryz.prog G 61483 60 [43,44] (G.lv 61483) jal jam:=zww (d:=jbi) (by rfl) (by rfl) (by rfl) (by rfl)
theorem zxa:Tryz.prog.follows .mixedOrders=true:=by kernel_rfl
noncomputable def RS(fn:Func):List RL:=match fn.body.bind (zbt Tryz.prog G fn.ntmps)with
 |some c=>RSc c
 |none=>[]
noncomputable def RF(fn:Func):List RL:=match fn.body.bind (zud Tryz.prog G fn.ntmps [])with
 |some c=>RSc c
 |none=>[]
def okS:List Nat:=[105,124,181,186,192,251,252,264,265,268,269,276,307,320,323,4095]
def okB(f:Nat):Bool:=hasN okS f
theorem xbm:(okS.all λf=>okFn Tryz.prog f)=true:=by kernel_rfl
theorem zxb:∀f,okB f=true->okFn Tryz.prog f=true:=λf h=>List.all_eq_true.1 xbm f (zts _ _ h)
abbrev Rt:=Ret Tryz.prog G
abbrev Wg:=W Tryz.prog G
abbrev wG:=wpC Tryz.prog G
theorem wM{n0 nt:Nat}{c:CC}{E:Env}{H:Heap}{Q:Post}(h:wpC Tryz.prog G n0 nt c E H Q):W Tryz.prog G n0 nt c E H Q:=zpe zxa h
theorem wW{n0 nt:Nat}{a b:CC}{E:Env}{H:Heap}{Q:Post}(h:wpC Tryz.prog G n0 nt a E H (zhf (λE' H'=>W Tryz.prog G n0 nt b E' H' Q) Q)):W Tryz.prog G n0 nt (.seq a b) E H Q:=zgr (wM h)
theorem kR{B:Prop}{o:Option AV}{v:AV}{n:Nat}{H:Heap}(h:o=some v:=by rfl):(True\/B)/\∃v',o=some v'/\Fin n v' H v H:=⟨.inl trivial,v,h,.keep _ _⟩
theorem dR{B:Prop}{o:Option AV}{v:AV}{H:Heap}(h:o=some v:=by rfl)(hc:v.under 0=true:=by rfl):(True\/B)/\∃v',o=some v'/\Fin 0 v' H v []:=⟨.inl trivial,v,h,.drop _ _ hc (by intro i cs h;omega)⟩
abbrev FnI(f nt:Nat)(fn:Func)(c:CC)(rs:List ResultVar):Prop:= Tryz.prog.funcs[f]?=some fn/\(fn.body.bind (zbt Tryz.prog G fn.ntmps),fn.results.toList,fn.ntmps)=(some c,rs,nt)
theorem oM{f nt:Nat}{fn:Func}{c:CC}{rs:List ResultVar}(h:Tryz.prog.funcs[f]?=some fn)(k:(fn.body.bind (zbt Tryz.prog G fn.ntmps),fn.results.toList,fn.ntmps)=(some c,rs,nt):=by kernel_rfl):FnI f nt fn c rs:=⟨h,k⟩
section
variable{f nt:Nat}{fn:Func}{c:CC}{rs:List ResultVar}{args:List AV}{H:Heap}{v:AV}{Hout:Heap}(i:FnI f nt fn c rs)
include i
theorem oF(h:wpC Tryz.prog G H.length nt c (zig args) H (λx E' H'=>(x= .ret\/x= .normal)/\∃v',resA Tryz.prog rs E' H'=some v'/\Fin H.length v' H' v Hout))(hn:args.length<=nt:=by simp)(hl:H.length<=Hout.length:=by simp)(hne:f≠4095:=by decide):Ret Tryz.prog G f args H v Hout:=
 xwz zxa i.1 (congrArg Prod.fst i.2) rs nt (congrArg (·.2.1) i.2) (congrArg (·.2.2) i.2) hn hl h hne
theorem oFw(h:wpC Tryz.prog G H.length nt c (zig args) H (λx E' H'=>(x= .ret\/x= .normal)/\∃v' v'',resA Tryz.prog rs E' H'=some v'/\Fin H.length v' H' v'' Hout/\v''.wk=v))(hn:args.length<=nt:=by simp)(hl:H.length<=Hout.length:=by simp)(hne:f≠4095:=by decide):Ret Tryz.prog G f args H v Hout:=
 xbl zxa i.1 (congrArg Prod.fst i.2) rs nt (congrArg (·.2.1) i.2) (congrArg (·.2.2) i.2) hn hl h hne
theorem oFW(h:W Tryz.prog G H.length nt c (zig args) H (λx E' H'=>(x= .ret\/x= .normal)/\∃v',resA Tryz.prog rs E' H'=some v'/\Fin H.length v' H' v Hout))(hn:args.length<=nt:=by simp)(hl:H.length<=Hout.length:=by simp)(hne:f≠4095:=by decide):Ret Tryz.prog G f args H v Hout:=by
 obtain⟨hf,hi⟩:=i;obtain⟨hc,rfl,rfl⟩:fn.body.bind (zbt Tryz.prog G fn.ntmps)=some c/\fn.results.toList=rs/\fn.ntmps=nt:=by simpa using hi
 cases hb:fn.body with
 |none=>rw[hb]at hc;simp at hc
 |some code=>
  rw[hb]at hc;exact zld hf hb hc hn hl hne h
end
abbrev TT(m:Bool)(fn:Func):=TP Tryz.prog G okB m fn
