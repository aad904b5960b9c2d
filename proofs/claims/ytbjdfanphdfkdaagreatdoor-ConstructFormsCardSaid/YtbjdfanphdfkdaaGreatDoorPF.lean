/- A part of the proof. -/
import Derived.Test.YtbjdfanphdfkdaaGreatDoorProg
import Derived.KernelRfl
import Derived.Test.YtbjdfanphdfkdaaGreatDoorPE
set_option linter.all false
set_option maxRecDepth 100000
namespace Go.Proofs.YtbjdfanphdfkdaaGreatDoor
open Go Go.AL Go.Proofs
def qae:CC:=(.reg [⟨(some 11),none,(.mov (.t 38))⟩] none)
def qaf:CC:=(.block 1 (.seq (.reg [⟨(some 12),none,(.box (.k (.agg [(.int .i64 (.ofNat (nat_lit 0))),(.vec [] 0 (some 0))])))⟩] none) (.seq (.seq (.reg [⟨(some 40),none,(.mov (.t 11))⟩,⟨(some 41),none,(.bin .eql (.t 40) (.k (.int .i64 (.ofNat (nat_lit 2)))))⟩] none) (.cond (.t 41) (.reg [⟨(some 43),none,(.load false 1 (.t 1))⟩,⟨(some 44),none,(.call 141 [(.t 43)])⟩,⟨(some 42),none,(.mov (.t 44))⟩,⟨(some 45),none,(.ext (.t 42) 0)⟩,⟨(some 46),none,(.ext (.t 42) 1)⟩,⟨none,none,(.store 2 (.t 12) (.t 45))⟩] none) (.reg [⟨(some 48),none,(.load false 1 (.t 1))⟩,⟨(some 49),none,(.mov (.t 11))⟩,⟨(some 50),none,(.call 142 [(.t 48),(.t 49)])⟩,⟨(some 47),none,(.mov (.t 50))⟩,⟨(some 51),none,(.ext (.t 47) 0)⟩,⟨(some 52),none,(.ext (.t 47) 1)⟩,⟨none,none,(.store 2 (.t 12) (.t 51))⟩] none))) (.reg [⟨(some 53),none,(.fld 2 (.t 10))⟩,⟨(some 54),none,(.load false 1 (.t 53))⟩,⟨(some 55),none,(.load true 2 (.t 12))⟩,⟨(some 56),none,(.bsl 1 2 [(.int .i64 (.ofNat (nat_lit 0))),(.vec [] 0 (some 0))] [(0,(2,(.t 55)))])⟩,⟨(some 57),none,(.append 2 32 (.t 54) (.t 56))⟩,⟨(some 58),none,(.fld 2 (.t 10))⟩,⟨none,none,(.store 1 (.t 58) (.t 57))⟩] none))))
def qny:LD:=⟨61478,60,[38,39],[1,10],qae,qaf⟩
def qag:CC:=(.seq (.reg [⟨(some 4),none,(.mov (.t 28))⟩] none) (.reg [⟨(some 5),none,(.mov (.t 29))⟩] none))
def qah:CC:=(.block 1 (.seq (.seq (.reg [⟨(some 30),none,(.load false 1 (.t 3))⟩,⟨(some 31),none,(.fld 2 (.t 1))⟩,⟨(some 32),none,(.load false 1 (.t 31))⟩,⟨(some 33),none,(.len false (.t 32))⟩,⟨(some 34),none,(.bin .eql (.t 30) (.t 33))⟩] none) (.cond (.t 34) (.seq (.reg [⟨none,none,(.store 1 (.t 2) (.k (.bool false)))⟩] none) .ret) .skip)) (.seq (.reg [⟨(some 35),none,(.fld 2 (.t 1))⟩,⟨(some 36),none,(.load false 1 (.t 35))⟩,⟨(some 37),none,(.load false 1 (.t 3))⟩,⟨(some 38),none,(.idx 2 (.t 36) (.t 37))⟩,⟨(some 39),none,(.load true 2 (.t 38))⟩,⟨(some 6),none,(.box (.k (.agg [(.int .i64 (.ofNat (nat_lit 0))),(.vec [] 0 (some 0))])))⟩,⟨none,none,(.store 2 (.t 6) (.t 39))⟩] none) (.seq (.reg [⟨(some 40),none,(.load false 1 (.t 3))⟩,⟨(some 41),none,(.bin .add (.t 40) (.k (.int .i64 (.ofNat (nat_lit 1)))))⟩,⟨none,none,(.store 1 (.t 3) (.t 41))⟩] none) (.seq (.seq (.reg [⟨(some 42),none,(.fld 0 (.t 6))⟩,⟨(some 43),none,(.load false 1 (.t 42))⟩,⟨(some 44),none,(.mov (.t 4))⟩,⟨(some 45),none,(.bin .neq (.t 43) (.t 44))⟩,⟨(some 46),none,(.mov (.t 45))⟩,⟨(some 47),(some (46,false)),(.mov (.t 4))⟩,⟨(some 48),(some (46,false)),(.bin .eql (.t 47) (.k (.int .i64 (.ofNat (nat_lit 2)))))⟩,⟨(some 49),(some (46,false)),(.mov (.t 48))⟩,⟨(some 50),(some (49,true)),(.load true 2 (.t 6))⟩,⟨(some 51),(some (49,true)),(.call 137 [(.t 50)])⟩,⟨(some 52),(some (49,true)),(.un .not (.t 51))⟩,⟨(some 53),(some (46,false)),(.pick (.t 49) (.t 52) (.k (.bool false)))⟩,⟨(some 54),none,(.pick (.t 46) (.k (.bool true)) (.t 53))⟩,⟨(some 55),none,(.mov (.t 54))⟩,⟨(some 56),(some (55,false)),(.mov (.t 4))⟩,⟨(some 57),(some (55,false)),(.bin .neq (.t 56) (.k (.int .i64 (.ofNat (nat_lit 2)))))⟩,⟨(some 58),(some (55,false)),(.mov (.t 57))⟩,⟨(some 59),(some (58,true)),(.load true 2 (.t 6))⟩,⟨(some 60),(some (58,true)),(.call 128 [(.t 59)])⟩,⟨(some 61),(some (58,true)),(.un .not (.t 60))⟩,⟨(some 62),(some (55,false)),(.pick (.t 58) (.t 61) (.k (.bool false)))⟩,⟨(some 63),none,(.pick (.t 55) (.k (.bool true)) (.t 62))⟩] none) (.cond (.t 63) (.seq (.reg [⟨none,none,(.store 1 (.t 2) (.k (.bool false)))⟩] none) .ret) .skip)) (.seq (.reg [⟨(some 64),none,(.load true 2 (.t 6))⟩,⟨(some 65),none,(.fld 0 (.t 1))⟩,⟨(some 66),none,(.load false 1 (.t 65))⟩,⟨(some 67),none,(.mov (.t 5))⟩,⟨(some 68),none,(.call 138 [(.t 64),(.t 66),(.t 67)])⟩,⟨(some 69),none,(.un .not (.t 68))⟩] none) (.cond (.t 69) (.seq (.reg [⟨none,none,(.store 1 (.t 2) (.k (.bool false)))⟩] none) .ret) .skip)))))))
def qnz:LD:=⟨76828,75,[28,29],[1,2,3],qag,qah⟩
def G:Glob:=mkG Tryz.prog [(0,[.int .i64 1,.int .i64 3,.int .i64 9,.int .i64 27]),(1,[.int .i64 7,.int .i64 11,.int .i64 13,.int .i64 17,.int .i64 19,.int .i64 23,.int .i64 29,.int .i64 31])] [qny,qnz]
theorem qoa:znk Tryz.prog G 61478 60 [38,39] (G.lv 61478) qae qaf:=zww (d:=qny) (by rfl) (by rfl) (by rfl) (by rfl)
theorem qob:znk Tryz.prog G 76828 75 [28,29] (G.lv 76828) qag qah:=zww (d:=qnz) (by rfl) (by rfl) (by rfl) (by rfl)
theorem zxa:Tryz.prog.follows .mixedOrders=true:=by kernel_rfl
noncomputable def RS(fn:Func):List RL:=match fn.body.bind (zbt Tryz.prog G fn.ntmps)with
 |some c=>RSc c
 |none=>[]
noncomputable def RF(fn:Func):List RL:=match fn.body.bind (zud Tryz.prog G fn.ntmps [])with
 |some c=>RSc c
 |none=>[]
def okS:List Nat:=[105,181,186,192,214,215,217,230,251,252,264,265,282,283,299,307,372,387,4095]
def okB(f:Nat):Bool:=hasN okS f
theorem xbm:(okS.all λf=>okFn Tryz.prog f)=true:=by kernel_rfl
theorem zxb:∀f,okB f=true->okFn Tryz.prog f=true:=λf h=>List.all_eq_true.1 xbm f (zts _ _ h)
abbrev Rt:=Ret Tryz.prog G
abbrev Wg:=W Tryz.prog G
abbrev wG:=wpC Tryz.prog G
theorem wM{n0 nt:Nat}{c:CC}{E:Env}{H:Heap}{Q:Post}(h:wpC Tryz.prog G n0 nt c E H Q):W Tryz.prog G n0 nt c E H Q:=zpe zxa h
theorem wW{n0 nt:Nat}{a b:CC}{E:Env}{H:Heap}{Q:Post}(h:wpC Tryz.prog G n0 nt a E H (zhf (λE' H'=>W Tryz.prog G n0 nt b E' H' Q) Q)):W Tryz.prog G n0 nt (.seq a b) E H Q:=zgr (wM h)
theorem kR{B:Prop}{o:Option AV}{v:AV}{n:Nat}{H:Heap}(h:o=some v:=by rfl):(True\/B)/\∃v',o=some v'/\Fin n v' H v H:=⟨.inl trivial,v,h,.keep _ _⟩
theorem dR{B:Prop}{o:Option AV}{v:AV}{H:Heap}(h:o=some v:=by rfl)(hc:v.under 0=true:=by rfl):(True\/B)/\∃v',o=some v'/\Fin 0 v' H v []:=⟨.inl trivial,v,h,.drop _ _ hc (by intro i cs h;omega)⟩
abbrev FnI(f nt:Nat)(fn:Func)(c:CC)(rs:List ResultVar):Prop:= Tryz.prog.funcs[f]?=some fn/\(fn.body.bind (zbt Tryz.prog G fn.ntmps),fn.results.toList,fn.ntmps)=(some c,rs,nt)
theorem oM{f nt:Nat}{fn:Func}{c:CC}{rs:List ResultVar}(h:Tryz.prog.funcs[f]?=some fn)(k:(fn.body.bind (zbt Tryz.prog G fn.ntmps),fn.results.toList,fn.ntmps)=(some c,rs,nt):=by kernel_rfl):FnI f nt fn c rs:=⟨h,k⟩
section
variable{f nt:Nat}{fn:Func}{c:CC}{rs:List ResultVar}{args:List AV}{H:Heap}{v:AV}{Hout:Heap}(i:FnI f nt fn c rs)
include i
theorem oF(h:wpC Tryz.prog G H.length nt c (zig args) H (λx E' H'=>(x= .ret\/x= .normal)/\∃v',resA Tryz.prog rs E' H'=some v'/\Fin H.length v' H' v Hout))(hn:args.length<=nt:=by simp)(hl:H.length<=Hout.length:=by simp)(hne:f≠4095:=by decide):Ret Tryz.prog G f args H v Hout:=
 xwz zxa i.1 (congrArg Prod.fst i.2) rs nt (congrArg (·.2.1) i.2) (congrArg (·.2.2) i.2) hn hl h hne
theorem oFw(h:wpC Tryz.prog G H.length nt c (zig args) H (λx E' H'=>(x= .ret\/x= .normal)/\∃v' v'',resA Tryz.prog rs E' H'=some v'/\Fin H.length v' H' v'' Hout/\v''.wk=v))(hn:args.length<=nt:=by simp)(hl:H.length<=Hout.length:=by simp)(hne:f≠4095:=by decide):Ret Tryz.prog G f args H v Hout:=
 xbl zxa i.1 (congrArg Prod.fst i.2) rs nt (congrArg (·.2.1) i.2) (congrArg (·.2.2) i.2) hn hl h hne
theorem oFW(h:W Tryz.prog G H.length nt c (zig args) H (λx E' H'=>(x= .ret\/x= .normal)/\∃v',resA Tryz.prog rs E' H'=some v'/\Fin H.length v' H' v Hout))(hn:args.length<=nt:=by simp)(hl:H.length<=Hout.length:=by simp)(hne:f≠4095:=by decide):Ret Tryz.prog G f args H v Hout:=by
 obtain⟨hf,hi⟩:=i;obtain⟨hc,rfl,rfl⟩:fn.body.bind (zbt Tryz.prog G fn.ntmps)=some c/\fn.results.toList=rs/\fn.ntmps=nt:=by simpa using hi
 cases hb:fn.body with
 |none=>rw[hb]at hc;simp at hc
 |some code=>
  rw[hb]at hc;exact zld hf hb hc hn hl hne h
end
abbrev TT(m:Bool)(fn:Func):=TP Tryz.prog G okB m fn
