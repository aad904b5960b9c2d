/- A part of the proof. -/
import Derived.Test.YtpflahgcdgdkjaaGreatDoorAL70
import Derived.Test.YtpflahgcdgdkjaaGreatDoorAL60
import Derived.Test.YtpflahgcdgdkjaaGreatDoorProg
import Derived.KernelRfl
import Derived.Test.YtpflahgcdgdkjaaGreatDoorSS
import Derived.Test.YtpflahgcdgdkjaaGreatDoorAL1
import Derived.Test.YtpflahgcdgdkjaaGreatDoorAL59
import Derived.Test.YtpflahgcdgdkjaaGreatDoorAL52
set_option linter.all false
set_option maxRecDepth 100000
namespace Go.Proofs.YtpflahgcdgdkjaaGreatDoor
open Nat renaming reduceEqDiff -> qQ, le_refl -> qA, zero_add -> qL, mul_one -> xZ, zero_le -> xB, zero_mul -> xR
open List renaming take_zero -> xU, nil_append -> xD, set_cons_succ -> xN
open Option renaming bind_some -> qR
open Option.some renaming injEq -> xS
open Go Go.AL Go.Proofs
def G:Glob:=⟨[(0,[.int .i64 7,.int .i64 11,.int .i64 13,.int .i64 17,.int .i64 19,.int .i64 23,.int .i64 29,.int .i64 31])],λ_ _ _ _ _=>False,λ_=>[]⟩
theorem zoq:Tryz.prog.follows .mixedOrders=true:=by kernel_rfl
noncomputable def RS(fn:Func):List RL:=match fn.body.bind (zdb Tryz.prog G fn.ntmps)with
 |some c=>RSc c
 |none=>[]
noncomputable def RG(nt:Nat):Code->List (Unit->Option (List COp))
 |.region _ ops _=>[λ_=>qok Tryz.prog G nt ops]
 |.seq a b=>RG nt a++RG nt b
 |.cond _ a b=>RG nt a++RG nt b
 |.block _ c=>RG nt c
 |.loop c=>RG nt c
 |.scope c=>RG nt c
 |_=>[]
noncomputable def RR(fn:Func)(i:Nat):List COp:=match fn.body with
 |some c=>(match (RG fn.ntmps c).getD i (λ_=>none) ()with
  |some l=>l
  |none=>[])
 |none=>[]
def okS:List Nat:=[49,78,155]
def okB(f:Nat):Bool:=hasN okS f
theorem qxx:(okS.all λf=>okFn Tryz.prog f)=true:=by kernel_rfl
theorem qjv:∀f,okB f=true->okFn Tryz.prog f=true:=λf h=>List.all_eq_true.1 qxx f (ztc _ _ h)
abbrev Rt:=Ret Tryz.prog G
abbrev Wg:=W Tryz.prog G
abbrev wG:=wpC Tryz.prog G
theorem wM{n0 nt:Nat}{c:CC}{E:Env}{H:Heap}{Q:Post}(h:wpC Tryz.prog G n0 nt c E H Q):W Tryz.prog G n0 nt c E H Q:=zom zoq h
theorem wW{n0 nt:Nat}{a b:CC}{E:Env}{H:Heap}{Q:Post}(h:wpC Tryz.prog G n0 nt a E H (zed (λE' H'=>W Tryz.prog G n0 nt b E' H' Q) Q)):W Tryz.prog G n0 nt (.seq a b) E H Q:=zkf (wM h)
theorem kR{B:Prop}{o:Option AV}{v:AV}{n:Nat}{H:Heap}(h:o=some v:=by rfl):(True\/B)/\∃v',o=some v'/\Fin n v' H v H:=⟨.inl trivial,v,h,.keep _ _⟩
theorem dR{B:Prop}{o:Option AV}{v:AV}{H:Heap}(h:o=some v:=by rfl)(hc:v.under 0=true:=by rfl):(True\/B)/\∃v',o=some v'/\Fin 0 v' H v []:=⟨.inl trivial,v,h,.drop _ _ hc (by intro i cs h;omega)⟩
abbrev FnI(f nt:Nat)(fn:Func)(c:CC)(rs:List ResultVar):Prop:= Tryz.prog.funcs[f]?=some fn/\(fn.body.bind (zdb Tryz.prog G fn.ntmps),fn.results.toList,fn.ntmps)=(some c,rs,nt)
theorem oM{f nt:Nat}{fn:Func}{c:CC}{rs:List ResultVar}(h:Tryz.prog.funcs[f]?=some fn)(k:(fn.body.bind (zdb Tryz.prog G fn.ntmps),fn.results.toList,fn.ntmps)=(some c,rs,nt):=by kernel_rfl):FnI f nt fn c rs:=⟨h,k⟩
section
variable{f nt:Nat}{fn:Func}{c:CC}{rs:List ResultVar}{args:List AV}{H:Heap}{v:AV}{Hout:Heap}(i:FnI f nt fn c rs)
include i
theorem oF(h:wpC Tryz.prog G H.length nt c (zjc args) H (λx E' H'=>(x= .ret\/x= .normal)/\∃v',resA Tryz.prog rs E' H'=some v'/\Fin H.length v' H' v Hout))(hn:args.length<=nt:=by simp)(hl:H.length<=Hout.length:=by simp)(hne:f≠4095:=by decide):Ret Tryz.prog G f args H v Hout:=
 jca zoq i.1 (congrArg Prod.fst i.2) rs nt (congrArg (·.2.1) i.2) (congrArg (·.2.2) i.2) hn hl h hne
theorem oFw(h:wpC Tryz.prog G H.length nt c (zjc args) H (λx E' H'=>(x= .ret\/x= .normal)/\∃v' v'',resA Tryz.prog rs E' H'=some v'/\Fin H.length v' H' v'' Hout/\v''.wk=v))(hn:args.length<=nt:=by simp)(hl:H.length<=Hout.length:=by simp)(hne:f≠4095:=by decide):Ret Tryz.prog G f args H v Hout:=
 qxw zoq i.1 (congrArg Prod.fst i.2) rs nt (congrArg (·.2.1) i.2) (congrArg (·.2.2) i.2) hn hl h hne
theorem oFW(h:W Tryz.prog G H.length nt c (zjc args) H (λx E' H'=>(x= .ret\/x= .normal)/\∃v',resA Tryz.prog rs E' H'=some v'/\Fin H.length v' H' v Hout))(hn:args.length<=nt:=by simp)(hl:H.length<=Hout.length:=by simp)(hne:f≠4095:=by decide):Ret Tryz.prog G f args H v Hout:=by
 obtain⟨hf,hi⟩:=i;obtain⟨hc,rfl,rfl⟩:fn.body.bind (zdb Tryz.prog G fn.ntmps)=some c/\fn.results.toList=rs/\fn.ntmps=nt:=by simpa using hi
 cases hb:fn.body with
 |none=>rw[hb]at hc;simp at hc
 |some code=>
  rw[hb]at hc;exact zok hf hb hc hn hl hne h
end
noncomputable section
def q108:=V (RS Tryz.f108=·)
def r108_0:=X q108 0
def r108_1:=X q108 1
def r108_2:=X q108 2
def l108_0:CC:=(.seq (.seq (rN r108_1) (.cond (.t 14) .skip (.exit 0))) (.block 1 (rN r108_2)))
def r108_3:=X q108 3
def c108:CC:=(.seq (rN r108_0) (.seq (.block 0 (.loop l108_0)) (.seq (rN r108_3) .ret)))
theorem o108:FnI 108 21 Tryz.f108 c108 [.tmp 2]:=oM Tryz.func108
def q158:=V (RS Tryz.f158=·)
def r158_0:=X q158 0
def r158_1:=X q158 1
def r158_2:=X q158 2
def r158_3:=X q158 3
def r158_4:=X q158 4
def r158_5:=X q158 5
def r158_6:=X q158 6
def l158_0:CC:=(.seq (rN r158_3) (.seq (.cond (.t 9) .skip (.exit 0)) (.seq (.block 1 (.seq (rN r158_4) (rN r158_5))) (rN r158_6))))
def r158_7:=X q158 7
def c158:CC:=(.seq (rN r158_0) (.seq (rN r158_1) (.seq (.seq (rN r158_2) (.block 0 (.loop l158_0))) (.seq (rN r158_7) .ret))))
theorem o158:FnI 158 22 Tryz.f158 c158 [.tmp 2]:=oM Tryz.func158
def q80:=V (RS Tryz.f80=·)
def r80_0:=X q80 0
def r80_1:=X q80 1
def r80_2:=X q80 2
def r80_3:=X q80 3
def c80:CC:=(.seq (rN r80_0) (.seq (.seq (rN r80_1) (.cond (.t 7) (.seq (rN r80_2) .ret) .skip)) (.seq (rN r80_3) .ret)))
theorem o80:FnI 80 12 Tryz.f80 c80 [.cell 4 40]:=oM Tryz.func80
def q81:=V (RS Tryz.f81=·)
def r81_0:=X q81 0
def r81_1:=X q81 1
def c81:CC:=(.seq (rN r81_0) (.seq (rN r81_1) .ret))
theorem o81:FnI 81 10 Tryz.f81 c81 [.tmp 2]:=oM Tryz.func81
def q109:=V (RS Tryz.f109=·)
def r109_0:=X q109 0
def r109_1:=X q109 1
def r109_2:=X q109 2
def r109_3:=X q109 3
def r109_4:=X q109 4
def r109_5:=X q109 5
def r109_6:=X q109 6
def r109_7:=X q109 7
def r109_8:=X q109 8
def r109_9:=X q109 9
def r109_10:=X q109 10
def r109_11:=X q109 11
def r109_12:=X q109 12
def r109_13:=X q109 13
def r109_14:=X q109 14
def r109_15:=X q109 15
def r109_16:=X q109 16
def l109_1:CC:=(.seq (rN r109_11) (.seq (.cond (.t 52) .skip (.exit 2)) (.seq (.block 3 (.seq (rN r109_12) (.seq (rN r109_13) (.seq (rN r109_14) (rN r109_15))))) (rN r109_16))))
def r109_17:=X q109 17
def r109_18:=X q109 18
def l109_0:CC:=(.seq (rN r109_5) (.seq (.cond (.t 35) .skip (.exit 0)) (.seq (.block 1 (.seq (rN r109_6) (.seq (.seq (rN r109_7) (.cond (.t 40) (.exit 1) .skip)) (.seq (rN r109_8) (.seq (rN r109_9) (.seq (.seq (rN r109_10) (.block 2 (.loop l109_1))) (rN r109_17))))))) (rN r109_18))))
def r109_19:=X q109 19
def c109:CC:=(.seq (rN r109_0) (.seq (.seq (rN r109_1) (.cond (.t 19) (.seq (rN r109_2) .ret) .skip)) (.seq (rN r109_3) (.seq (.seq (rN r109_4) (.block 0 (.loop l109_0))) (.seq (rN r109_19) .ret)))))
theorem o109:FnI 109 86 Tryz.f109 c109 [.tmp 4]:=oM Tryz.func109
def q52:=V (RS Tryz.f52=·)
def r52_0:=X q52 0
def r52_1:=X q52 1
def c52:CC:=(.seq (rN r52_0) (.seq (.reg r52_1 (some [(1,3),(1,6),(3,6),(1,7),(3,7),(1,9),(3,9),(6,9),(7,9),(1,10),(3,10),(1,11),(3,11)])) .ret))
theorem o52:FnI 52 18 Tryz.f52 c52 [.cell 4 40]:=oM Tryz.func52
def q35:=V (RS Tryz.f35=·)
def r35_0:=X q35 0
def r35_1:=X q35 1
def r35_2:=X q35 2
def r35_3:=X q35 3
def c35:CC:=(.seq (rN r35_0) (.seq (.seq (rN r35_1) (.cond (.t 4) (.seq (rN r35_2) .ret) .skip)) (.seq (rN r35_3) .ret)))
theorem o35:FnI 35 14 Tryz.f35 c35 [.cell 2 40]:=oM Tryz.func35
def q76:=V (RS Tryz.f76=·)
def r76_0:=X q76 0
def r76_1:=X q76 1
def r76_2:=X q76 2
def r76_3:=X q76 3
def r76_4:=X q76 4
def r76_5:=X q76 5
def c76:CC:=(.seq (rN r76_0) (.seq (.block 0 (.seq (rN r76_1) (.cond (.t 3) (.seq (rN r76_2) .ret) (.seq (rN r76_3) (.cond (.t 9) (.seq (rN r76_4) .ret) .skip))))) (.seq (rN r76_5) .ret)))
theorem o76:FnI 76 12 Tryz.f76 c76 [.tmp 2]:=oM Tryz.func76
def q107:=V (RS Tryz.f107=·)
def r107_0:=X q107 0
def r107_1:=X q107 1
def r107_2:=X q107 2
def r107_3:=X q107 3
def r107_4:=X q107 4
def r107_5:=X q107 5
def r107_6:=X q107 6
def r107_7:=X q107 7
def r107_8:=X q107 8
def r107_9:=X q107 9
def r107_10:=X q107 10
def r107_11:=X q107 11
def l107_0:CC:=(.seq (.seq (rN r107_6) (.cond (.t 22) .skip (.exit 1))) (.seq (.block 2 (.block 3 (.seq (.reg r107_7 (some [(3,7)])) (.cond (.t 25) (.seq (rN r107_8) .ret) (.seq (.reg r107_9 (some [(3,7)])) (.cond (.t 35) (.seq (rN r107_10) .ret) .skip)))))) (rN r107_11)))
def r107_12:=X q107 12
def c107:CC:=(.seq (rN r107_0) (.seq (.block 0 (.seq (rN r107_1) (.cond (.t 6) (.seq (rN r107_2) .ret) (.seq (rN r107_3) (.cond (.t 12) (.seq (rN r107_4) .ret) .skip))))) (.seq (.seq (rN r107_5) (.block 1 (.loop l107_0))) (.seq (rN r107_12) .ret))))
theorem o107:FnI 107 45 Tryz.f107 c107 [.tmp 4]:=oM Tryz.func107
def q51:=V (RS Tryz.f51=·)
def r51_0:=X q51 0
def r51_1:=X q51 1
def r51_2:=X q51 2
def r51_3:=X q51 3
def r51_4:=X q51 4
def r51_5:=X q51 5
def r51_6:=X q51 6
def c51:CC:=(.seq (rN r51_0) (.seq (.reg r51_1 (some [(0,2),(1,2)])) (.seq (.block 0 (.seq (rN r51_2) (.cond (.t 11) (.seq (rN r51_3) .ret) (.seq (rN r51_4) (.cond (.t 15) (.seq (rN r51_5) .ret) .skip))))) (.seq (.reg r51_6 (some [(2,5),(3,5)])) .ret))))
theorem o51:FnI 51 28 Tryz.f51 c51 [.tmp 4]:=oM Tryz.func51
def q144:=V (RS Tryz.f144=·)
def r144_0:=X q144 0
def r144_1:=X q144 1
def r144_2:=X q144 2
def r144_3:=X q144 3
def r144_4:=X q144 4
def r144_5:=X q144 5
def r144_6:=X q144 6
def r144_7:=X q144 7
def r144_8:=X q144 8
def r144_9:=X q144 9
def r144_10:=X q144 10
def r144_11:=X q144 11
def l144_0:CC:=(.seq (rN r144_6) (.seq (.cond (.t 23) .skip (.exit 0)) (.seq (.block 1 (.seq (rN r144_7) (.seq (.reg r144_8 (some [(4,9)])) (.seq (rN r144_9) (rN r144_10))))) (rN r144_11))))
def r144_12:=X q144 12
def r144_13:=X q144 13
def r144_14:=X q144 14
def r144_15:=X q144 15
def r144_16:=X q144 16
def r144_17:=X q144 17
def r144_18:=X q144 18
def l144_1:CC:=(.seq (rN r144_13) (.seq (.cond (.t 52) .skip (.exit 2)) (.seq (.block 3 (.seq (rN r144_14) (.seq (rN r144_15) (.seq (rN r144_16) (rN r144_17))))) (rN r144_18))))
def r144_19:=X q144 19
def r144_20:=X q144 20
def c144:CC:=(.seq (rN r144_0) (.seq (.seq (rN r144_1) (.cond (.t 13) (rN r144_2) .skip)) (.seq (rN r144_3) (.seq (rN r144_4) (.seq (.seq (rN r144_5) (.block 0 (.loop l144_0))) (.seq (.seq (rN r144_12) (.block 2 (.loop l144_1))) (.seq (rN r144_19) (.seq (rN r144_20) .ret))))))))
theorem o144:FnI 144 83 Tryz.f144 c144 [.tmp 4]:=oM Tryz.func144
def q145:=V (RS Tryz.f145=·)
def r145_0:=X q145 0
def r145_1:=X q145 1
def r145_2:=X q145 2
def r145_3:=X q145 3
def r145_4:=X q145 4
def r145_5:=X q145 5
def r145_6:=X q145 6
def r145_7:=X q145 7
def r145_8:=X q145 8
def r145_9:=X q145 9
def r145_10:=X q145 10
def r145_11:=X q145 11
def l145_0:CC:=(.seq (rN r145_4) (.seq (.cond (.t 15) .skip (.exit 0)) (.seq (.block 1 (.seq (rN r145_5) (.seq (rN r145_6) (.seq (.seq (rN r145_7) (.cond (.t 27) (rN r145_8) .skip)) (.seq (rN r145_9) (rN r145_10)))))) (rN r145_11))))
def r145_12:=X q145 12
def c145:CC:=(.seq (rN r145_0) (.seq (rN r145_1) (.seq (rN r145_2) (.seq (.seq (rN r145_3) (.block 0 (.loop l145_0))) (.seq (rN r145_12) .ret)))))
theorem o145:FnI 145 45 Tryz.f145 c145 [.tmp 4]:=oM Tryz.func145
def q212:=V (RS Tryz.f212=·)
def r212_0:=X q212 0
def r212_1:=X q212 1
def r212_2:=X q212 2
def r212_3:=X q212 3
def r212_4:=X q212 4
def r212_5:=X q212 5
def c212:CC:=(.seq (rN r212_0) (.seq (.block 0 (.seq (rN r212_1) (.cond (.t 9) (.seq (rN r212_2) .ret) (.seq (rN r212_3) (.cond (.t 18) (.seq (rN r212_4) .ret) .skip))))) (.seq (rN r212_5) .ret)))
theorem o212:FnI 212 33 Tryz.f212 c212 [.cell 8 40]:=oM Tryz.func212
def q200:=V (RS Tryz.f200=·)
def r200_0:=X q200 0
def r200_1:=X q200 1
def c200:CC:=(.seq (rN r200_0) (.seq (.reg r200_1 (some [(1,3),(1,4),(1,6),(3,6),(4,6),(1,8),(3,8),(4,8),(6,8),(1,9),(6,9)])) .ret))
theorem o200:FnI 200 16 Tryz.f200 c200 [.cell 4 40]:=oM Tryz.func200
def q199:=V (RS Tryz.f199=·)
def r199_0:=X q199 0
def r199_1:=X q199 1
def c199:CC:=(.seq (rN r199_0) (.seq (.reg r199_1 (some [(1,3),(1,4),(1,6),(3,6),(4,6),(1,9),(3,9),(4,9),(6,9),(1,10),(6,10)])) .ret))
theorem o199:FnI 199 17 Tryz.f199 c199 [.cell 4 40]:=oM Tryz.func199
def q147:=V (RS Tryz.f147=·)
def r147_0:=X q147 0
def r147_1:=X q147 1
def c147:CC:=(.seq (rN r147_0) (.seq (.reg r147_1 (some [(1,4),(1,5),(1,6)])) .ret))
theorem o147:FnI 147 11 Tryz.f147 c147 [.cell 2 40]:=oM Tryz.func147
def q77:=V (RS Tryz.f77=·)
def r77_0:=X q77 0
def r77_1:=X q77 1
def c77:CC:=(.seq (rN r77_0) (.seq (.reg r77_1 (some [(1,3),(1,4),(1,5)])) .ret))
theorem o77:FnI 77 10 Tryz.f77 c77 [.cell 2 40]:=oM Tryz.func77
def q143:=V (RS Tryz.f143=·)
def r143_0:=X q143 0
def r143_1:=X q143 1
def r143_2:=X q143 2
def r143_3:=X q143 3
def r143_4:=X q143 4
def r143_5:=X q143 5
def r143_6:=X q143 6
def r143_7:=X q143 7
def r143_8:=X q143 8
def r143_9:=X q143 9
def r143_10:=X q143 10
def r143_11:=X q143 11
def r143_12:=X q143 12
def r143_13:=X q143 13
def r143_14:=X q143 14
def r143_15:=X q143 15
def r143_16:=X q143 16
def r143_17:=X q143 17
def l143_0:CC:=(.seq (.seq (rN r143_15) (.cond (.t 81) .skip (.exit 1))) (.seq (.block 2 (rN r143_16)) (rN r143_17)))
def r143_18:=X q143 18
def r143_19:=X q143 19
def c143:CC:=(.seq (rN r143_0) (.seq (.block 0 (.seq (rN r143_1) (.cond (.t 13) (.seq (rN r143_2) .ret) (.seq (rN r143_3) (.cond (.t 20) (.seq (rN r143_4) (.seq (.reg r143_5 (some [])) .ret)) (.seq (rN r143_6) (.cond (.t 36) (.seq (rN r143_7) (.seq (rN r143_8) (.seq (rN r143_9) .ret))) .skip))))))) (.seq (rN r143_10) (.seq (rN r143_11) (.seq (rN r143_12) (.seq (rN r143_13) (.seq (.seq (rN r143_14) (.block 1 (.loop l143_0))) (.seq (rN r143_18) (.seq (rN r143_19) .ret)))))))))
theorem o143:FnI 143 104 Tryz.f143 c143 [.tmp 4,.tmp 5]:=oM Tryz.func143
def q79:=V (RS Tryz.f79=·)
def r79_0:=X q79 0
def r79_1:=X q79 1
def r79_2:=X q79 2
def r79_3:=X q79 3
def r79_4:=X q79 4
def r79_5:=X q79 5
def r79_6:=X q79 6
def r79_7:=X q79 7
def r79_8:=X q79 8
def r79_9:=X q79 9
def r79_10:=X q79 10
def r79_11:=X q79 11
def c79:CC:=(.seq (rN r79_0) (.seq (rN r79_1) (.seq (.seq (rN r79_2) (.cond (.t 16) (.seq (rN r79_3) .ret) .skip)) (.seq (rN r79_4) (.seq (rN r79_5) (.seq (.block 0 (.seq (.block 2 (.seq (.block 1 (.seq (.seq (.seq (rN r79_6) (.cond (.t 29) (.exit 1) .skip)) (.seq (rN r79_7) (.cond (.t 37) (.exit 2) .skip))) (.exit 0))) (.seq (rN r79_8) (rN r79_9)))) (.seq (rN r79_10) (.exit 0)))) (.seq (rN r79_11) .ret)))))))
theorem o79:FnI 79 53 Tryz.f79 c79 [.cell 4 40,.cell 5 40,.tmp 6]:=oM Tryz.func79
def q91:=V (RS Tryz.f91=·)
def r91_0:=X q91 0
def r91_1:=X q91 1
def r91_2:=X q91 2
def r91_3:=X q91 3
def r91_4:=X q91 4
def r91_5:=X q91 5
def r91_6:=X q91 6
def r91_7:=X q91 7
def r91_8:=X q91 8
def r91_9:=X q91 9
def c91:CC:=(.seq (rN r91_0) (.seq (rN r91_1) (.seq (.seq (rN r91_2) (.cond (.t 11) (.seq (rN r91_3) .ret) .skip)) (.seq (rN r91_4) (.seq (.block 0 (.seq (rN r91_5) (.cond (.t 14) (.seq (rN r91_6) .ret) (.seq (rN r91_7) (.cond (.t 24) (.seq (rN r91_8) .ret) .skip))))) (.seq (rN r91_9) .ret))))))
theorem o91:FnI 91 34 Tryz.f91 c91 [.tmp 2,.tmp 3]:=oM Tryz.func91
end
def r142_0:RL:=[oP 2 (.mov (.k (.vec [] 0 (some 0))))]
def r142_1:RL:=[mV 3 0,oP 4 (.snil false (.t 3))]
def r142_2:RL:=[oP 2 (.mov (.k (.vec [] 0 (some 0))))]
def r142_3:RL:=[oP 5 (.bsl 0 1 [] []),mV 6 0,oP 7 (.append 1 4 (.t 5) (.t 6)),mV 2 7]
def c142:CC:=(.seq (rN r142_0) (.seq (.seq (rN r142_1) (.cond (.t 4) (.seq (rN r142_2) .ret) .skip)) (.seq (rN r142_3) .ret)))
theorem o142:FnI 142 8 Tryz.f142 c142 [.tmp 2]:=oM Tryz.func142
theorem qut(cs:List AV)(c:Option Nat):Rt 142 [.vec cs 0 c] [] (.vec [] 0 (some 0)) []:=by
 refine oF o142 ?_;simp only[c142,r142_0,r142_1,r142_2,r142_3,SS,reduceCtorEq,reduceIte,qQ];refine⟨⟨.inl trivial,_,rfl,.keep _ _⟩,?_⟩;simp only[zby,lenA,zdr,need,qR,xR,qA,xB,and_self,if_true,zaq,zad,xU];exact⟨.inl trivial,_,rfl,.freeze 1 _ _ _ rfl (by intro i cs h;omega)⟩
theorem jco(cs:List AV)(n:Nat)(c:Option Nat)(h0:0<n)(hn:n<=cs.length)(hb:16*n<=2^48):Rt 142 [.vec cs n c] [] (.sl 1 0 n 1 none) [some [],some (cs.take n)]:=by
 refine oF o142 ?_;simp only[c142,r142_0,r142_1,r142_2,r142_3,SS,fC,reduceCtorEq,reduceIte,qQ,show n≠0 by omega,if_false];have e1:n*1<=cs.length:=by omega
 simp only[zby,lenA,zdr,need,qR,hn,qA,and_self,if_true,show n≠0 by omega,if_false,getB,List.getElem?_cons_zero,xB,qL,true_and,show 4*n*4<=2^48 by omega,show n<2^62 by omega,zaq,zad,xZ,xN,List.set_cons_zero,xU,xD];exact⟨.inl trivial,_,rfl,.keep _ _⟩
def g142:List AV->Heap->Option (AV×Heap)
 | [.vec cs n _],[]=>match n with
  |0=>some (.vec [] 0 (some 0),[])
  |n+1=>if n+1<=cs.length/\16*(n+1)<=281474976710656 then some (.sl 1 0 (n+1) 1 none,[some [],some (cs.take (n+1))])else none
 |_,_=>none
theorem qxy{args:List AV}{H:Heap}{v:AV}{H':Heap}(h:g142 args H=some (v,H')):Rt 142 args H v H':=by
 unfold g142 at h;split at h
 ·split at h
  ·simp only[xS,Prod.mk.injEq]at h;obtain⟨rfl,rfl⟩:=h;exact qut _ _
  ·split at h
   ·rename_i hh;simp only[xS,Prod.mk.injEq]at h;obtain⟨rfl,rfl⟩:=h;exact jco _ _ _ (by omega) hh.1 hh.2
   ·simp at h
 ·simp at h
end Go.Proofs.YtpflahgcdgdkjaaGreatDoor
namespace Go.Limb
open Nat renaming le_refl -> qA, mul_assoc -> qC, pow_le_pow_right -> qG, mod_eq_of_lt -> qH, mul_add -> qI, pow_succ -> qM, lt_or_ge -> qN, add_zero -> xQ, mul_one -> xZ, mod_lt -> xV, mul_zero -> xY, lt_of_lt_of_le -> xA, mul_comm -> xC, mul_le_mul_left -> xL, min_eq_left -> yZ
open List renaming take_of_length_le -> qJ, getD_eq_getElem?_getD -> qK, take_length -> qS, length_take -> qT, getElem?_eq_getElem -> xX, length_cons -> xW, take_zero -> xU, getElem?_eq_none -> xE, getElem?_set_ne -> xG, set_cons_succ -> xN, take_add_one -> xT
def val:List Nat->Nat
 | []=>0
 |d::r=>d+4294967296*val r
def Dig(l:List Nat):Prop:= ∀d∈l,d<4294967296
def Top:List Nat->Prop
 | []=>True
 | [d]=>d≠0
 |_::d::r=>Top (d::r)
def zbp(l:List Nat):Prop:=Dig l/\Top l
theorem Dig.nil:Dig []:=by intro d h;simp at h
theorem Dig.cons{d:Nat}{r:List Nat}(h:d<4294967296)(hr:Dig r):Dig (d::r):=by
 intro x hx;rcases List.mem_cons.1 hx with e | e
 ·rw[e];exact h
 ·exact hr x e
theorem Dig.head{d:Nat}{r:List Nat}(h:Dig (d::r)):d<4294967296:=h d (by simp)
theorem Dig.tail{d:Nat}{r:List Nat}(h:Dig (d::r)):Dig r:=λx hx=>h x (by simp[hx])
theorem Dig.append{l r:List Nat}(h:Dig l)(hr:Dig r):Dig (l++r):=by
 intro x hx;rcases List.mem_append.1 hx with e | e
 ·exact h x e
 ·exact hr x e
theorem Dig.take{l:List Nat}(h:Dig l)(n:Nat):Dig (l.take n):=λx hx=>h x (List.mem_of_mem_take hx)
theorem Dig.getD{l:List Nat}(h:Dig l)(i:Nat):l.getD i 0<4294967296:=by
 rw[qK];cases e:l[i]? with
 |none=>simp
 |some x=>exact h x (List.mem_of_getElem? e)
theorem zbp.nil:zbp []:=⟨Dig.nil,trivial⟩
theorem Top.tail{d:Nat}{r:List Nat}(h:Top (d::r)):Top r:=by
 cases r with
 |nil=>trivial
 |cons x r=>exact h
theorem zbp.tail{d:Nat}{r:List Nat}(h:zbp (d::r)):zbp r:=⟨h.1.tail,h.2.tail⟩
theorem zep(l r:List Nat):val (l++r)=val l+4294967296^l.length*val r:=by
 induction l with
 |nil=>simp[val]
 |cons d l ih=>
  simp only[List.cons_append,val,ih,xW,qM,qI]
  have:4294967296*(4294967296^l.length*val r)=4294967296^l.length*4294967296*val r:=by
   rw[<-qC,xC 4294967296]
  omega
theorem zgh{l:List Nat}(h:Dig l):val l<4294967296^l.length:=by
 induction l with
 |nil=>simp[val]
 |cons d l ih=>
  have h1:=ih h.tail;have h2:=h.head;simp only[val,xW,qM];have:val l+1<=4294967296^l.length:=h1;have:(val l+1)*4294967296<=4294967296^l.length*4294967296:=Nat.mul_le_mul_right _ this;omega
theorem zhv{l:List Nat}(ht:Top l)(hl:l≠[]):4294967296^(l.length-1)<=val l:=by
 induction l with
 |nil=>exact absurd rfl hl
 |cons d l ih=>
  cases l with
  |nil=>
   have:d≠0:=ht;simp[val];omega
  |cons x r=>
   have:=ih ht.tail (by simp);simp only[xW,Nat.add_sub_cancel]at this ⊢;rw[val,qM];omega
theorem zdf:∀{l r:List Nat},zbp l->zbp r->val l=val r->l=r:=by
 intro l
 induction l with
 |nil=>
  intro r _ hr h;cases r with
  |nil=>rfl
  |cons x r=>
   have h1:=zhv hr.2 (by simp);have h2:0<4294967296^((x::r).length-1):=Nat.pow_pos (by decide);rw[<-h]at h1;simp only[val]at h1;omega
 |cons d l ih=>
  intro r hl hr h;cases r with
  |nil=>
   have h1:=zhv hl.2 (by simp);have h2:0<4294967296^((d::l).length-1):=Nat.pow_pos (by decide);rw[h]at h1;simp only[val]at h1;omega
  |cons x r=>
   simp only[val]at h;have h1:=hl.1.head;have h2:=hr.1.head;have:d=x/\val l=val r:=by omega
   rw[this.1,ih hl.tail hr.tail this.2]
theorem zkg{l:List Nat}(h:zbp l):val l=0↔l=[]:=by
 constructor
 ·intro e;exact zdf h zbp.nil e
 ·intro e;rw[e];rfl
def zfc(l:List Nat):Nat->Nat
 |0=>0
 |n+1=>if l.getD n 0=0 then zfc l n else n+1
theorem zgx(l:List Nat)(n:Nat):zfc l n<=n:=by
 induction n with
 |zero=>simp[zfc]
 |succ n ih=>simp only[zfc];split<;>omega
def zbf(l:List Nat):List Nat:=l.take (zfc l l.length)
theorem qfk{l:List Nat}{d:Nat}(h:d≠0):Top (l++[d]):=by
 induction l with
 |nil=>exact h
 |cons x l ih=>
  cases l with
  |nil=>exact h
  |cons y l=>exact ih
theorem zrd(l:List Nat):∀n,n<=l.length->Top (l.take (zfc l n))/\val (l.take (zfc l n))=val (l.take n):=by
 intro n
 induction n with
 |zero=>intro _;simp[zfc,Top]
 |succ n ih=>
  intro hn
  have e:l.take (n+1)=l.take n++[l.getD n 0]:=by
   rw[xT,qK,xX (by omega)];rfl
  simp only[zfc];split
  ·rename_i h0;obtain⟨h1,h2⟩:=ih (by omega);refine⟨h1,?_⟩;rw[h2,e,zep,h0];simp[val]
  ·rename_i h0;refine⟨?_,rfl⟩;rw[e];exact qfk h0
theorem zaz{l:List Nat}(h:Dig l):zbp (zbf l):=⟨h.take _,(zrd l l.length (qA _)).1⟩
theorem zbq(l:List Nat):val (zbf l)=val l:=by
 have:=(zrd l l.length (qA _)).2;rw[qS]at this;exact this
theorem zfk(l:List Nat):(zbf l).length=zfc l l.length:=by
 unfold zbf;rw[qT];have:=zgx l l.length;omega
def cmpN(m n:List Nat):Nat->Int
 |0=>0
 |i+1=>if m.getD i 0=n.getD i 0 then cmpN m n i else if m.getD i 0<n.getD i 0 then -1 else 1
def cmpL(m n:List Nat):Int:=if m.length=n.length then cmpN m n m.length else if m.length<n.length then -1 else 1
def sgn(a b:Nat):Int:=if a<b then -1 else if a=b then 0 else 1
theorem zlv{l:List Nat}{n:Nat}(h:n<l.length):l.take (n+1)=l.take n++[l.getD n 0]:=by
 rw[xT,qK,xX h];rfl
theorem qjw{m n:List Nat}(hm:Dig m)(hn:Dig n):∀i,i<=m.length->i<=n.length->cmpN m n i=sgn (val (m.take i)) (val (n.take i)):=by
 intro i
 induction i with
 |zero=>intro _ _;simp[cmpN,sgn,val]
 |succ i ih=>
  intro h1 h2;have e1:=zlv (l:=m) (n:=i) (by omega);have e2:=zlv (l:=n) (n:=i) (by omega);have l1:=zgh (hm.take i);have l2:=zgh (hn.take i);have n1:(m.take i).length=i:=by rw[qT];omega
  have n2:(n.take i).length=i:=by rw[qT];omega
  rw[n1]at l1;rw[n2]at l2;rw[cmpN,ih (by omega) (by omega),e1,e2,zep,zep,n1,n2];simp only[val,xY,xQ];generalize val (m.take i)=a at*;generalize val (n.take i)=b at*;generalize m.getD i 0=x at*;generalize n.getD i 0=y at*;generalize 4294967296^i=p at*;unfold sgn;split
  ·rename_i h;subst h;have:(a+p*x<b+p*x)↔a<b:=by omega
   have h3:(a+p*x=b+p*x)↔a=b:=by omega
   simp only[this,h3]
  ·rename_i h;split
   ·rename_i h3;have:p*(x+1)<=p*y:=xL _ h3;rw[qI]at this;rw[if_pos (by omega)]
   ·rename_i h3;have:p*(y+1)<=p*x:=xL _ (by omega);rw[qI]at this;rw[if_neg (by omega),if_neg (by omega)]
theorem zel{m n:List Nat}(hm:zbp m)(hn:zbp n):cmpL m n=sgn (val m) (val n):=by
 have key:∀{m n:List Nat},zbp m->zbp n->m.length<n.length->val m<val n:=by
  intro m n hm hn h;have h1:=zgh hm.1;have h2:=zhv hn.2 (by intro e;rw[e]at h;simp at h);have h3:4294967296^m.length<=4294967296^(n.length-1):=qG (by decide) (by omega);omega
 unfold cmpL;split
 ·rename_i h;rw[qjw hm.1 hn.1 m.length (qA _) (by omega),qS,h,qS]
 ·rename_i h;split
  ·rename_i h2;have:=key hm hn h2;unfold sgn;rw[if_pos this]
  ·rename_i h2;have:=key hn hm (by omega);unfold sgn;rw[if_neg (by omega),if_neg (by omega)]
def sumL(m n:List Nat):Nat->Nat->Nat->List Nat->List Nat
 |0,_,c,out=>out++[c%4294967296]
 |k+1,i,c,out=>sumL m n k (i+1) ((c+m.getD i 0+n.getD i 0)/4294967296) (out++[(c+m.getD i 0+n.getD i 0)%4294967296])
theorem zbn(l:List Nat)(i:Nat):val (l.take (i+1))=val (l.take i)+4294967296^i*l.getD i 0:=by
 rcases qN i l.length with h | h
 ·rw[zlv h,zep,qT,yZ (by omega)];simp[val]
 ·rw[qJ h,qJ (by omega),qK,xE h];simp
theorem qjx(m n:List Nat)(hm:Dig m)(hn:Dig n):∀(k i c:Nat) (out:List Nat),c<=1->out.length=i->Dig out->m.length<=i+k->n.length<=i+k->
  val out+4294967296^i*c=val (m.take i)+val (n.take i)->
  val (sumL m n k i c out)=val m+val n/\Dig (sumL m n k i c out)/\(sumL m n k i c out).length=i+k+1:=by
 intro k
 induction k with
 |zero=>
  intro i c out hc ho hd h1 h2 h;rw[qJ (by omega),qJ (by omega)]at h;simp only[sumL];refine⟨?_,hd.append (Dig.cons (xV _ (by decide)) Dig.nil),by simp[ho]⟩;rw[zep,ho];simp only[val,xY,xQ];rw[qH (by omega)];exact h
 |succ k ih=>
  intro i c out hc ho hd h1 h2 h;have b1:=hm.getD i;have b2:=hn.getD i
  have:=ih (i+1) ((c+m.getD i 0+n.getD i 0)/4294967296) (out++[(c+m.getD i 0+n.getD i 0)%4294967296]) (by omega) (by simp[ho])
   (hd.append (Dig.cons (xV _ (by decide)) Dig.nil)) (by omega) (by omega) (by
    rw[zbn,zbn,zep,ho];simp only[val,xY,xQ,qM];generalize 4294967296^i=p at*;have e:c+m.getD i 0+n.getD i 0=(c+m.getD i 0+n.getD i 0)%4294967296+4294967296*((c+m.getD i 0+n.getD i 0)/4294967296):=by omega
    generalize (c+m.getD i 0+n.getD i 0)%4294967296=u at*;generalize (c+m.getD i 0+n.getD i 0)/4294967296=v at*;have e2:p*(c+m.getD i 0+n.getD i 0)=p*(u+4294967296*v):=by rw[e]
    simp only[qI]at e2;have e3:p*4294967296*v=p*(4294967296*v):=qC _ _ _;omega)
  simp only[sumL];refine⟨this.1,this.2.1,by omega⟩
theorem qqz{a b c u v p A B C:Nat}(hv:a+4294967296*v=u+(b+c))(h:A+p*b=C+B):A+p*a+p*4294967296*v=C+p*u+(B+p*c):=by
 have e2:p*(a+4294967296*v)=p*(u+(b+c)):=by rw[hv]
 simp only[qI]at e2;have e3:p*4294967296*v=p*(4294967296*v):=qC _ _ _;omega
theorem qjy{a b c u v p A B C V1 V2 V3 D:Nat}(h1:V1=A+p*a)(h2:V2=B+p*c)(h3:V3=C+p*u)(hD:D=p*4294967296)(hv:a+4294967296*v=u+(b+c))(h:A+p*b=C+B):V1+D*v=V3+V2:=by
 subst h1 h2 h3 hD;exact qqz hv h
theorem pw(i:Nat):4294967296^(i+1)=4294967296^i*4294967296:=by rw[qM]
theorem qfl{l:List Nat}{i d:Nat}(h:l.length=i):val (l++[d])=val l+4294967296^i*d:=by
 rw[zep,h];simp[val]
def brw(a b:Nat):Nat:=if a<b then 1 else 0
theorem qbq{a b:Nat}(ha:a<4294967296)(hb:b<=4294967296):a+4294967296*brw a b=(a+8589934592-b)%4294967296+b:=by
 unfold brw;split<;>omega
theorem qjz(a b:Nat):brw a b<=1:=by unfold brw;split<;>omega
def difL(m n:List Nat):Nat->Nat->Nat->List Nat->List Nat
 |0,_,_,out=>out
 |k+1,i,b,out=>difL m n k (i+1) (brw (m.getD i 0) (b+n.getD i 0)) (out++[(m.getD i 0+8589934592-(b+n.getD i 0))%4294967296])
theorem qbr{a b c d p:Nat}(h:a+p*b=c+d)(hlt:c<p)(hv:d<=a)(hb:b<=1):b=0:=by
 rcases qN b 1 with h2 | h2
 ·omega
 ·have e:b=1:=by omega
  rw[e,xZ]at h;omega
theorem zor(m n:List Nat)(hm:Dig m)(hn:Dig n)(hnm:n.length<=m.length)(hv:val n<=val m):∀(k i b:Nat) (out:List Nat),b<=1->out.length=i->Dig out->m.length=i+k->
  val (m.take i)+4294967296^i*b=val out+val (n.take i)->
  val (difL m n k i b out)+val n=val m/\Dig (difL m n k i b out)/\(difL m n k i b out).length=m.length:=by
 intro k
 induction k with
 |zero=>
  intro i b out hb ho hd h1 h;have h1:m.length=i:=h1;have hlt:=zgh hd;rw[ho]at hlt;rw[qJ (by omega),qJ (by omega)]at h;simp only[difL];have hb0:=qbr h hlt hv hb;rw[hb0,xY]at h;clear hlt;exact⟨by omega,hd,by omega⟩
 |succ k ih=>
  intro i b out hb ho hd h1 h;have b1:=hm.getD i;have b2:=hn.getD i;simp only[difL];refine ih (i+1) _ _ (qjz _ _) (by simp[ho]) (hd.append (Dig.cons (xV _ (by decide)) Dig.nil)) (by omega) ?_;exact qjy (zbn m i) (zbn n i) (qfl ho) (pw i) (qbq b1 (by omega)) h
def mulR(n:List Nat)(x i:Nat):Nat->Nat->Nat->List Nat->Nat×List Nat
 |0,_,c,out=>(c,out)
 |k+1,j,c,out=>mulR n x i k (j+1) ((c+(x*n.getD j 0+out.getD (i+j) 0))/4294967296) (out.set (i+j) ((c+(x*n.getD j 0+out.getD (i+j) 0))%4294967296))
def mulL(n:List Nat):List Nat->Nat->List Nat->List Nat
 | [],_,out=>out
 |x::m,i,out=>mulL n m (i+1) ((mulR n x i n.length 0 0 out).2.set (i+n.length) ((mulR n x i n.length 0 0 out).1))
theorem zhw{l:List Nat}{i v:Nat}(h:i<l.length):val (l.set i v)+4294967296^i*l.getD i 0=val l+4294967296^i*v:=by
 induction l generalizing i with
 |nil=>simp at h
 |cons d l ih=>
  cases i with
  |zero=>simp[val];omega
  |succ i=>
   have:=ih (i:=i) (by simpa using h);simp only[xN,val,List.getD_cons_succ,qM];have e1:4294967296^i*4294967296*l.getD i 0=4294967296*(4294967296^i*l.getD i 0):=by rw[xC (4294967296^i),qC]
   have e2:4294967296^i*4294967296*v=4294967296*(4294967296^i*v):=by rw[xC (4294967296^i),qC]
   omega
theorem Dig.set{l:List Nat}{i v:Nat}(h:Dig l)(hv:v<4294967296):Dig (l.set i v):=by
 intro a ha;rcases List.mem_or_eq_of_mem_set ha with e | e
 ·exact h a e
 ·rw[e];exact hv
theorem zwa(n:List Nat)(hn:Dig n)(x i:Nat)(hx:x<4294967296):∀(k j c:Nat) (out:List Nat),c<4294967296->j+k=n.length->i+n.length<out.length->Dig out->
  (mulR n x i k j c out).1<4294967296/\(mulR n x i k j c out).2.length=out.length/\Dig (mulR n x i k j c out).2/\
  (∀t,i+n.length<=t->(mulR n x i k j c out).2.getD t 0=out.getD t 0)/\
  val (mulR n x i k j c out).2+4294967296^(i+n.length)*(mulR n x i k j c out).1+4294967296^i*(x*val (n.take j))=val out+4294967296^(i+j)*c+4294967296^i*(x*val n):=by
 intro k
 induction k with
 |zero=>
  intro j c out hc hj hl hd;have hj:j=n.length:=by omega
  subst hj;refine⟨hc,rfl,hd,λ_ _=>rfl,?_⟩;simp only[mulR,qS]
 |succ k ih=>
  intro j c out hc hj hl hd;have b1:=hn.getD j;have b2:=hd.getD (i+j);have hxy:x*n.getD j 0<=4294967295*4294967295:=Nat.mul_le_mul (by omega) (by omega);have hS:c+(x*n.getD j 0+out.getD (i+j) 0)<4294967296*4294967296:=by omega
  obtain⟨h1,h2,h3,h4,h5⟩:=ih (j+1) ((c+(x*n.getD j 0+out.getD (i+j) 0))/4294967296) (out.set (i+j) ((c+(x*n.getD j 0+out.getD (i+j) 0))%4294967296)) (by omega) (by omega) (by simpa using hl)
   (hd.set (xV _ (by decide)))
  simp only[mulR];refine⟨h1,by simpa using h2,h3,λt ht=>?_,?_⟩
  ·rw[h4 t ht,qK,xG (by omega),qK]
  ·have hs:=zhw (l:=out) (i:=i+j) (v:=(c+(x*n.getD j 0+out.getD (i+j) 0))%4294967296) (by omega);rw[zbn]at h5;generalize mulR n x i k (j+1) ((c+(x*n.getD j 0+out.getD (i+j) 0))/4294967296) (out.set (i+j) ((c+(x*n.getD j 0+out.getD (i+j) 0))%4294967296))=R at*;generalize val (out.set (i+j) ((c+(x*n.getD j 0+out.getD (i+j) 0))%4294967296))=V at*;have e:c+(x*n.getD j 0+out.getD (i+j) 0)=(c+(x*n.getD j 0+out.getD (i+j) 0))%4294967296+4294967296*((c+(x*n.getD j 0+out.getD (i+j) 0))/4294967296):=by omega
   generalize (c+(x*n.getD j 0+out.getD (i+j) 0))%4294967296=u at*;generalize (c+(x*n.getD j 0+out.getD (i+j) 0))/4294967296=v at*;have e2:4294967296^(i+j)*(c+(x*n.getD j 0+out.getD (i+j) 0))=4294967296^(i+j)*(u+4294967296*v):=by rw[e]
   have e3:4294967296^(i+(j+1))*v=4294967296^(i+j)*(4294967296*v):=by rw[<-Nat.add_assoc,qM,qC]
   have e4:4294967296^i*(x*(val (n.take j)+4294967296^j*n.getD j 0))=4294967296^i*(x*val (n.take j))+4294967296^(i+j)*(x*n.getD j 0):=by
    rw[qI,qI,Nat.pow_add,Nat.mul_left_comm x,qC]
   rw[e3,e4]at h5;simp only[qI]at e2;omega
theorem qka(n:List Nat)(hn:Dig n):∀(m:List Nat) (i:Nat) (out:List Nat),Dig m->Dig out->out.length=i+m.length+n.length->(∀t,i+n.length<=t->out.getD t 0=0)->
  (mulL n m i out).length=out.length/\Dig (mulL n m i out)/\val (mulL n m i out)=val out+4294967296^i*(val m*val n):=by
 intro m
 induction m with
 |nil=>intro i out _ hd _ _;simp[mulL,val,hd]
 |cons x m ih=>
  intro i out hm hd hl hz;simp only[xW]at hl;obtain⟨h1,h2,h3,h4,h5⟩:=zwa n hn x i hm.head n.length 0 0 out (by decide) (by omega) (by omega) hd;simp only[mulL];generalize mulR n x i n.length 0 0 out=R at*;have hz0:R.2.getD (i+n.length) 0=0:=(h4 _ (qA _)).trans (hz _ (qA _));have hs:=zhw (l:=R.2) (i:=i+n.length) (v:=R.1) (by omega)
  obtain⟨g1,g2,g3⟩:=ih (i+1) (R.2.set (i+n.length) R.1) hm.tail (h3.set h1) (by simp;omega) (by
   intro t ht;rw[qK,xG (by omega),<-qK,h4 t (by omega)];exact hz t (by omega))
  refine⟨by rw[g1];simpa using h2,g2,?_⟩;rw[g3,val,Nat.add_mul,qI];rw[hz0]at hs;simp only[xU,val,xY,xQ]at h5 hs;have e:4294967296^(i+1)*(val m*val n)=4294967296^i*(4294967296*val m*val n):=by rw[qM,qC,qC]
  omega
def POW(k:Nat):Nat:=4294967296^k
def BIG:Nat:=POW 1100
theorem qfm{l:List Nat}{k:Nat}(h:zbp l)(hv:val l<POW k):l.length<=k:=by
 rcases qN k l.length with h1 | h1
 ·exfalso;have h2:=zhv h.2 (by intro e;rw[e]at h1;simp at h1);have h3:4294967296^k<=4294967296^(l.length-1):=qG (by decide) (by omega);unfold POW at hv;exact absurd (xA hv (Nat.le_trans h3 h2)) (Nat.lt_irrefl _)
 ·exact h1
theorem canon_len{l:List Nat}(h:zbp l)(hv:val l<BIG):l.length<=1100:=qfm (k:=1100) h hv
theorem qkb{l:List Nat}{k:Nat}(h:Dig l)(hl:l.length<=k):val l<POW k:=
 xA (zgh h) (qG (by decide) hl)
theorem zfd{l:List Nat}(h:Dig l)(hl:l.length<=1100):val l<BIG:=qkb (k:=1100) h hl
theorem zzi{n k:Nat}(hk:4<=k)(h:n<340282366920938463463374607431768211456):n<POW k:=
 xA h (show 4294967296^4<=4294967296^k from qG (by decide) hk)
theorem zgi{n:Nat}(h:n<340282366920938463463374607431768211456):n<BIG:=zzi (k:=1100) (by decide) h
end Go.Limb
namespace Go.Proofs.YtpflahgcdgdkjaaGreatDoor
open Nat renaming reduceEqDiff -> qQ, reduceLeDiff -> qX, reduceAdd -> qZ, le_refl -> qA, pow_le_pow_right -> qG, mod_eq_of_lt -> qH, zero_add -> qL, lt_or_ge -> qN, add_zero -> xQ, mul_one -> xZ, add_sub_cancel_left -> xJ, mod_lt -> xV, zero_le -> xB, mul_comm -> xC, one_mul -> xH, lt_of_le_of_lt -> xP, zero_mul -> xR, min_eq_left -> yZ, not_lt_zero -> yJ, one_ne_zero -> yW
open List renaming take_of_length_le -> qJ, getD_eq_getElem?_getD -> qK, getElem?_append_right -> qY, set_append_right -> qU, getElem?_append_left -> qE, take_length -> qS, length_take -> qT, getElem?_eq_getElem -> xX, drop_zero -> xK, take_zero -> xU, nil_append -> xD, getElem?_eq_none -> xE, mapM_cons -> xI, replicate_zero -> xM, append_nil -> yK
open Int renaming toNat_natCast -> qW, lt_trichotomy -> qV, natCast_add -> qB, sign_eq_neg_one_of_neg -> qD, sign_eq_one_of_pos -> qO, sub_eq_add_neg -> xO, mul_one -> yQ, mul_neg -> yX
open Bool renaming false_eq_true -> qP
open Option renaming bind_some -> qR
open Go Go.AL Go.Proofs
noncomputable section
def q8:=V (RS Tryz.f8=·)
def r8_0:=X q8 0
def r8_1:=X q8 1
def r8_2:=X q8 2
def c8:CC:=(.seq (rN r8_0) (.seq (rN r8_1) (.seq (rN r8_2) .ret)))
theorem o8:FnI 8 18 Tryz.f8 c8 [.tmp 4]:=oM Tryz.func8
def q11:=V (RS Tryz.f11=·)
def r11_0:=X q11 0
def r11_1:=X q11 1
def r11_2:=X q11 2
def r11_3:=X q11 3
def r11_4:=X q11 4
def r11_5:=X q11 5
def r11_6:=X q11 6
def r11_7:=X q11 7
def r11_8:=X q11 8
def r11_9:=X q11 9
def r11_10:=X q11 10
def r11_11:=X q11 11
def r11_12:=X q11 12
def c11:CC:=(.seq (rN r11_0) (.seq (.seq (rN r11_1) (.seq (rN r11_2) (.cond (.t 17) (.seq (rN r11_3) .ret) .skip))) (.seq (.seq (rN r11_4) (.cond (.t 20) (.seq (rN r11_5) .ret) .skip)) (.seq (rN r11_6) (.seq (.seq (rN r11_7) (.cond (.t 28) (.seq (rN r11_8) .ret) .skip)) (.seq (.seq (rN r11_9) (.seq (rN r11_10) (.cond (.t 37) (.seq (rN r11_11) .ret) .skip))) (.seq (rN r11_12) .ret)))))))
theorem o11:FnI 11 41 Tryz.f11 c11 [.tmp 6,.tmp 7]:=oM Tryz.func11
def q23:=V (RS Tryz.f23=·)
def r23_0:=X q23 0
def r23_1:=X q23 1
def r23_2:=X q23 2
def r23_3:=X q23 3
def r23_4:=X q23 4
def r23_5:=X q23 5
def r23_6:=X q23 6
def r23_7:=X q23 7
def r23_8:=X q23 8
def r23_9:=X q23 9
def r23_10:=X q23 10
def r23_11:=X q23 11
def r23_12:=X q23 12
def l23_0:CC:=(.block 1 (.seq (rN r23_8) (.seq (.seq (rN r23_9) (.cond (.t 35) (.seq (rN r23_10) (.seq (rN r23_11) .ret)) .skip)) (rN r23_12))))
def c23:CC:=(.seq (rN r23_0) (.seq (.seq (rN r23_1) (.seq (rN r23_2) (.cond (.t 16) (.seq (rN r23_3) .ret) .skip))) (.seq (.seq (rN r23_4) (.cond (.t 20) (.seq (rN r23_5) .ret) .skip)) (.seq (rN r23_6) (.seq (rN r23_7) (.block 0 (.loop l23_0)))))))
theorem o23:FnI 23 49 Tryz.f23 c23 [.tmp 2,.tmp 3,.tmp 4]:=oM Tryz.func23
def r24_0:RL:=[oP 2 (.mov (.k (.vec [] 0 (some 0))))]
def r24_1:RL:=[mV 6 0,cL 7 64 [.t 6],mV 5 7,eX 8 5 0,eX 9 5 1,mV 3 8,mV 4 9]
def r24_2:RL:=[mV 10 3,mV 2 10]
def c24:CC:=(.seq (rN r24_0) (.seq (rN r24_1) (.seq (rN r24_2) .ret)))
theorem o24:FnI 24 11 Tryz.f24 c24 [.tmp 2]:=oM Tryz.func24
def q25:=V (RS Tryz.f25=·)
def r25_0:=X q25 0
def r25_1:=X q25 1
def r25_2:=X q25 2
def r25_3:=X q25 3
def r25_4:=X q25 4
def r25_5:=X q25 5
def r25_6:=X q25 6
def r25_7:=X q25 7
def r25_8:=X q25 8
def r25_9:=X q25 9
def r25_10:=X q25 10
def r25_11:=X q25 11
def r25_12:=X q25 12
def r25_13:=X q25 13
def r25_14:=X q25 14
def r25_15:=X q25 15
def r25_16:=X q25 16
def r25_17:=X q25 17
def r25_18:=X q25 18
def r25_19:=X q25 19
def r25_20:=X q25 20
def r25_21:=X q25 21
def c25:CC:=(.seq (rN r25_0) (.seq (rN r25_1) (.seq (rN r25_2) (.seq (rN r25_3) (.seq (.seq (rN r25_4) (.block 0 (.seq (.seq (rN r25_5) (.cond (.t 24) .skip (.seq (rN r25_6) (.cond (.t 24) .skip (.seq (rN r25_7) (.cond (.t 24) .skip (rN r25_8))))))) (.cond (.t 24) (rN r25_9) (.seq (rN r25_10) (.cond (.t 32) (.seq (rN r25_11) (.reg r25_12 (some [(2,6),(4,6)]))) (.seq (rN r25_13) (.cond (.t 45) (.seq (rN r25_14) (.reg r25_15 (some [(4,10),(8,10)]))) (.seq (rN r25_16) (.cond (.t 62) (rN r25_17) (rN r25_18))))))))))) (.seq (.seq (rN r25_19) (.cond (.t 69) (.seq (rN r25_20) .ret) .skip)) (.seq (rN r25_21) .ret)))))))
theorem o25:FnI 25 74 Tryz.f25 c25 [.tmp 4]:=oM Tryz.func25
def q26:=V (RS Tryz.f26=·)
def r26_0:=X q26 0
def r26_1:=X q26 1
def r26_2:=X q26 2
def r26_3:=X q26 3
def r26_4:=X q26 4
def r26_5:=X q26 5
def c26:CC:=(.seq (rN r26_0) (.seq (.seq (rN r26_1) (.cond (.t 7) (.seq (rN r26_2) .ret) .skip)) (.seq (.seq (rN r26_3) (.cond (.t 14) (.seq (rN r26_4) .ret) .skip)) (.seq (rN r26_5) .ret))))
theorem o26:FnI 26 15 Tryz.f26 c26 [.tmp 4]:=oM Tryz.func26
def q27:=V (RS Tryz.f27=·)
def r27_0:=X q27 0
def r27_1:=X q27 1
def r27_2:=X q27 2
def r27_3:=X q27 3
def r27_4:=X q27 4
def r27_5:=X q27 5
def r27_6:=X q27 6
def r27_7:=X q27 7
def l27_0:CC:=(.seq (rN r27_3) (.seq (.cond (.t 9) .skip (.exit 0)) (.seq (.block 1 (.seq (rN r27_4) (.seq (rN r27_5) (.cond (.t 14) (.seq (rN r27_6) .ret) .skip)))) (rN r27_7))))
def r27_8:=X q27 8
def c27:CC:=(.seq (rN r27_0) (.seq (rN r27_1) (.seq (.seq (rN r27_2) (.block 0 (.loop l27_0))) (.seq (rN r27_8) .ret))))
theorem o27:FnI 27 17 Tryz.f27 c27 [.tmp 4,.tmp 5]:=oM Tryz.func27
def q28:=V (RS Tryz.f28=·)
def r28_0:=X q28 0
def r28_1:=X q28 1
def r28_2:=X q28 2
def r28_3:=X q28 3
def r28_4:=X q28 4
def r28_5:=X q28 5
def r28_6:=X q28 6
def r28_7:=X q28 7
def r28_8:=X q28 8
def r28_9:=X q28 9
def r28_10:=X q28 10
def r28_11:=X q28 11
def r28_12:=X q28 12
def r28_13:=X q28 13
def r28_14:=X q28 14
def r28_15:=X q28 15
def l28_1:CC:=(.seq (rN r28_12) (.seq (.cond (.t 59) .skip (.exit 2)) (.seq (.block 3 (.seq (rN r28_13) (rN r28_14))) (rN r28_15))))
def r28_16:=X q28 16
def r28_17:=X q28 17
def r28_18:=X q28 18
def r28_19:=X q28 19
def l28_0:CC:=(.seq (rN r28_8) (.seq (.cond (.t 38) .skip (.exit 0)) (.seq (.block 1 (.seq (rN r28_9) (.seq (.reg r28_10 (some [(4,10)])) (.seq (.seq (rN r28_11) (.block 2 (.loop l28_1))) (.seq (.seq (rN r28_16) (.seq (rN r28_17) (.cond (.t 86) (.goto 0) .skip))) (rN r28_18)))))) (rN r28_19))))
def r28_20:=X q28 20
def c28:CC:=(.seq (rN r28_0) (.scope (.seq (rN r28_1) (.seq (rN r28_2) (.seq (rN r28_3) (.seq (rN r28_4) (.seq (rN r28_5) (.seq (.label 0) (.seq (rN r28_6) (.seq (.seq (rN r28_7) (.block 0 (.loop l28_0))) (.seq (rN r28_20) .ret)))))))))))
theorem o28:FnI 28 92 Tryz.f28 c28 [.tmp 4]:=oM Tryz.func28
def q29:=V (RS Tryz.f29=·)
def r29_0:=X q29 0
def r29_1:=X q29 1
def r29_2:=X q29 2
def c29:CC:=(.seq (rN r29_0) (.seq (rN r29_1) (.seq (rN r29_2) .ret)))
theorem o29:FnI 29 24 Tryz.f29 c29 [.tmp 2]:=oM Tryz.func29
def q56:=V (RS Tryz.f56=·)
def r56_0:=X q56 0
def r56_1:=X q56 1
def r56_2:=X q56 2
def r56_3:=X q56 3
def r56_4:=X q56 4
def r56_5:=X q56 5
def r56_6:=X q56 6
def r56_7:=X q56 7
def r56_8:=X q56 8
def c56:CC:=(.seq (rN r56_0) (.seq (rN r56_1) (.seq (.block 0 (.seq (rN r56_2) (.cond (.t 10) (.seq (rN r56_3) .ret) (.seq (rN r56_4) (.cond (.t 17) (.seq (rN r56_5) .ret) (.seq (rN r56_6) (.cond (.t 21) (.seq (rN r56_7) .ret) .skip))))))) (.seq (rN r56_8) .ret))))
theorem o56:FnI 56 25 Tryz.f56 c56 [.tmp 2]:=oM Tryz.func56
def r57_0:RL:=[oP 2 (.mov (.k (.bool false)))]
def r57_1:RL:=[mV 3 0,cL 4 98 [.t 3],cL 5 87 [(kI 10000)],cL 6 121 [.t 4,.t 5],bK 7 .leq 6 0,mV 2 7]
def c57:CC:=(.seq (rN r57_0) (.seq (rN r57_1) .ret))
theorem o57:FnI 57 8 Tryz.f57 c57 [.tmp 2]:=oM Tryz.func57
def q58:=V (RS Tryz.f58=·)
def r58_0:=X q58 0
def r58_1:=X q58 1
def r58_2:=X q58 2
def r58_3:=X q58 3
def r58_4:=X q58 4
def r58_5:=X q58 5
def r58_6:=X q58 6
def r58_7:=X q58 7
def r58_8:=X q58 8
def r58_9:=X q58 9
def l58_1:CC:=(.seq (rN r58_6) (.seq (.cond (.t 21) .skip (.exit 2)) (.seq (.block 3 (.seq (rN r58_7) (.reg r58_8 (some [(5,6),(5,7),(5,8)])))) (rN r58_9))))
def r58_10:=X q58 10
def l58_0:CC:=(.seq (rN r58_3) (.seq (.cond (.t 13) .skip (.exit 0)) (.seq (.block 1 (.seq (rN r58_4) (.seq (rN r58_5) (.block 2 (.loop l58_1))))) (rN r58_10))))
def r58_11:=X q58 11
def c58:CC:=(.seq (rN r58_0) (.seq (rN r58_1) (.seq (.seq (rN r58_2) (.block 0 (.loop l58_0))) (.seq (rN r58_11) .ret))))
theorem o58:FnI 58 38 Tryz.f58 c58 [.tmp 2]:=oM Tryz.func58
def q59:=V (RS Tryz.f59=·)
def r59_0:=X q59 0
def r59_1:=X q59 1
def r59_2:=X q59 2
def r59_3:=X q59 3
def r59_4:=X q59 4
def r59_5:=X q59 5
def r59_6:=X q59 6
def r59_7:=X q59 7
def r59_8:=X q59 8
def l59_0:CC:=(.seq (rN r59_5) (.seq (.cond (.t 18) .skip (.exit 0)) (.seq (.block 1 (.seq (rN r59_6) (.reg r59_7 (some [(3,5)])))) (rN r59_8))))
def r59_9:=X q59 9
def c59:CC:=(.seq (rN r59_0) (.seq (.seq (rN r59_1) (.cond (.t 11) (.seq (rN r59_2) .ret) .skip)) (.seq (rN r59_3) (.seq (.seq (rN r59_4) (.block 0 (.loop l59_0))) (.seq (rN r59_9) .ret)))))
theorem o59:FnI 59 29 Tryz.f59 c59 [.tmp 2,.tmp 3]:=oM Tryz.func59
def r60_0:=V (RR Tryz.f60 0=·)
def r60_1:=V (RR Tryz.f60 1=·)
def r60_2:=V (RR Tryz.f60 2=·)
def r60_3:=V (RR Tryz.f60 3=·)
def r60_4:=V (RR Tryz.f60 4=·)
def r60_5:=V (RR Tryz.f60 5=·)
def r60_6:=V (RR Tryz.f60 6=·)
def r60_7:=V (RR Tryz.f60 7=·)
def r60_8:=V (RR Tryz.f60 8=·)
def r60_9:=V (RR Tryz.f60 9=·)
def r60_10:=V (RR Tryz.f60 10=·)
def r60_11:=V (RR Tryz.f60 11=·)
def l60_1:CC:=(.seq (.seq (rN r60_7) (.cond (.t 29) .skip (.exit 2))) (.seq (.block 3 (.seq (rN r60_8) (.cond (.t 37) (.seq (.reg r60_9 (some [(3,8),(3,12),(3,13),(3,14),(3,15)])) (.seq (rN r60_10) .ret)) .skip))) (rN r60_11)))
def r60_12:=V (RR Tryz.f60 12=·)
def r60_13:=V (RR Tryz.f60 13=·)
def r60_14:=V (RR Tryz.f60 14=·)
def r60_15:=V (RR Tryz.f60 15=·)
def l60_0:CC:=(.seq (rN r60_4) (.seq (.cond (.t 24) .skip (.exit 0)) (.seq (.block 1 (.seq (rN r60_5) (.seq (.seq (rN r60_6) (.block 2 (.loop l60_1))) (.seq (rN r60_12) (.cond (.t 64) (.seq (.reg r60_13 (some [(9,13)])) (.seq (rN r60_14) .ret)) .skip))))) (rN r60_15))))
def r60_16:=V (RR Tryz.f60 16=·)
def c60:CC:=(.seq (rN r60_0) (.seq (rN r60_1) (.seq (rN r60_2) (.seq (.seq (rN r60_3) (.block 0 (.loop l60_0))) (.seq (rN r60_16) .ret)))))
theorem o60:FnI 60 83 Tryz.f60 c60 [.tmp 2,.tmp 3]:=oM Tryz.func60
def q61:=V (RS Tryz.f61=·)
def r61_0:=X q61 0
def r61_1:=X q61 1
def r61_2:=X q61 2
def r61_3:=X q61 3
def r61_4:=X q61 4
def r61_5:=X q61 5
def r61_6:=X q61 6
def r61_7:=X q61 7
def r61_8:=X q61 8
def r61_9:=X q61 9
def r61_10:=X q61 10
def r61_11:=X q61 11
def r61_12:=X q61 12
def r61_13:=X q61 13
def r61_14:=X q61 14
def r61_15:=X q61 15
def r61_16:=X q61 16
def l61_1:CC:=(.seq (rN r61_10) (.seq (.cond (.t 38) .skip (.exit 2)) (.seq (.block 3 (.seq (rN r61_11) (.seq (rN r61_12) (.seq (.seq (rN r61_13) (.cond (.t 52) (.seq (rN r61_14) .ret) .skip)) (rN r61_15))))) (rN r61_16))))
def r61_17:=X q61 17
def l61_0:CC:=(.seq (rN r61_6) (.seq (.cond (.t 25) .skip (.exit 0)) (.seq (.block 1 (.seq (rN r61_7) (.seq (rN r61_8) (.seq (rN r61_9) (.block 2 (.loop l61_1)))))) (rN r61_17))))
def r61_18:=X q61 18
def c61:CC:=(.seq (rN r61_0) (.seq (rN r61_1) (.seq (.seq (rN r61_2) (.cond (.t 19) (.seq (rN r61_3) .ret) .skip)) (.seq (rN r61_4) (.seq (.seq (rN r61_5) (.block 0 (.loop l61_0))) (.seq (rN r61_18) .ret))))))
theorem o61:FnI 61 63 Tryz.f61 c61 [.tmp 2,.tmp 3]:=oM Tryz.func61
def r62_0:RL:=[oP 4 (.mov (.k (.vec [] 0 (some 0))))]
def r62_1:RL:=[mV 8 1,cL 9 133 [.t 8],mV 7 9,eX 10 7 0,eX 11 7 1,mV 5 10,mV 6 11]
def r62_2:RL:=[mV 12 5,mV 13 0,cL 14 63 [.t 12,.t 13],mV 15 1,cL 16 63 [.t 14,.t 15],mV 4 16]
def c62:CC:=(.seq (rN r62_0) (.seq (rN r62_1) (.seq (rN r62_2) .ret)))
theorem o62:FnI 62 17 Tryz.f62 c62 [.tmp 4]:=oM Tryz.func62
def r63_0:RL:=[oP 4 (.mov (.k (.vec [] 0 (some 0))))]
def r63_1:RL:=[mV 8 0,mV 9 1,cL 10 134 [.t 8,.t 9],mV 7 10,eX 11 7 0,eX 12 7 1,mV 5 11,mV 6 12]
def r63_2:RL:=[mV 13 5,mV 4 13]
def c63:CC:=(.seq (rN r63_0) (.seq (rN r63_1) (.seq (rN r63_2) .ret)))
theorem o63:FnI 63 14 Tryz.f63 c63 [.tmp 4]:=oM Tryz.func63
def q64:=V (RS Tryz.f64=·)
def r64_0:=X q64 0
def r64_1:=X q64 1
def r64_2:=X q64 2
def r64_3:=X q64 3
def r64_4:=X q64 4
def r64_5:=X q64 5
def r64_6:=X q64 6
def r64_7:=X q64 7
def r64_8:=X q64 8
def l64_0:CC:=(.seq (rN r64_4) (.seq (.cond (.t 20) .skip (.exit 0)) (.seq (.block 1 (.seq (rN r64_5) (.seq (rN r64_6) (.cond (.t 39) (.seq (rN r64_7) .ret) .skip)))) (rN r64_8))))
def r64_9:=X q64 9
def r64_10:=X q64 10
def r64_11:=X q64 11
def r64_12:=X q64 12
def r64_13:=X q64 13
def r64_14:=X q64 14
def r64_15:=X q64 15
def r64_16:=X q64 16
def r64_17:=X q64 17
def l64_2:CC:=(.seq (rN r64_14) (.seq (.cond (.t 59) .skip (.exit 4)) (.seq (.block 5 (.seq (rN r64_15) (.reg r64_16 (some [(3,8),(3,11),(3,12)])))) (rN r64_17))))
def r64_18:=X q64 18
def l64_1:CC:=(.seq (rN r64_11) (.seq (.cond (.t 51) .skip (.exit 2)) (.seq (.block 3 (.seq (rN r64_12) (.seq (rN r64_13) (.block 4 (.loop l64_2))))) (rN r64_18))))
def r64_19:=X q64 19
def c64:CC:=(.seq (rN r64_0) (.seq (.seq (rN r64_1) (.cond (.t 16) (.seq (rN r64_2) .ret) .skip)) (.seq (.seq (rN r64_3) (.block 0 (.loop l64_0))) (.seq (rN r64_9) (.seq (.seq (rN r64_10) (.block 2 (.loop l64_1))) (.seq (rN r64_19) .ret))))))
theorem o64:FnI 64 78 Tryz.f64 c64 [.tmp 2,.tmp 3]:=oM Tryz.func64
def q65:=V (RS Tryz.f65=·)
def r65_0:=X q65 0
def r65_1:=X q65 1
def r65_2:=X q65 2
def r65_3:=X q65 3
def r65_4:=X q65 4
def r65_5:=X q65 5
def r65_6:=X q65 6
def r65_7:=X q65 7
def r65_8:=X q65 8
def r65_9:=X q65 9
def l65_1:CC:=(.seq (.seq (rN r65_6) (.cond (.t 18) .skip (.exit 2))) (.seq (.block 3 (.seq (.reg r65_7 (some [(3,6)])) (.reg r65_8 (some [(3,8),(3,11)])))) (rN r65_9)))
def r65_10:=X q65 10
def l65_0:CC:=(.seq (rN r65_3) (.seq (.cond (.t 14) .skip (.exit 0)) (.seq (.block 1 (.seq (rN r65_4) (.seq (rN r65_5) (.block 2 (.loop l65_1))))) (rN r65_10))))
def r65_11:=X q65 11
def c65:CC:=(.seq (rN r65_0) (.seq (rN r65_1) (.seq (.seq (rN r65_2) (.block 0 (.loop l65_0))) (.seq (rN r65_11) .ret))))
theorem o65:FnI 65 45 Tryz.f65 c65 [.tmp 4]:=oM Tryz.func65
def q66:=V (RS Tryz.f66=·)
def r66_0:=X q66 0
def r66_1:=X q66 1
def r66_2:=X q66 2
def r66_3:=X q66 3
def r66_4:=X q66 4
def r66_5:=X q66 5
def r66_6:=X q66 6
def r66_7:=X q66 7
def r66_8:=X q66 8
def r66_9:=X q66 9
def r66_10:=X q66 10
def r66_11:=X q66 11
def r66_12:=X q66 12
def l66_0:CC:=(.seq (rN r66_3) (.seq (.cond (.t 13) .skip (.exit 0)) (.seq (.block 1 (.seq (rN r66_4) (.seq (rN r66_5) (.seq (rN r66_6) (.seq (rN r66_7) (.seq (.seq (rN r66_8) (.cond (.t 38) (rN r66_9) .skip)) (.seq (rN r66_10) (.cond (.t 42) (.reg r66_11 (some [(3,8)])) .skip)))))))) (rN r66_12))))
def r66_13:=X q66 13
def c66:CC:=(.seq (rN r66_0) (.seq (rN r66_1) (.seq (.seq (rN r66_2) (.block 0 (.loop l66_0))) (.seq (rN r66_13) .ret))))
theorem o66:FnI 66 57 Tryz.f66 c66 [.tmp 4]:=oM Tryz.func66
def r67_0:RL:=[oP 4 (.mov (kI 0))]
def r67_1:RL:=[mV 5 0,cL 6 135 [.t 5],oP 7 (.conv .u8 (.t 6)),oP 8 (.conv .i64 (.t 7)),mV 9 1,bT 10 .rem 8 9,mV 4 10]
def c67:CC:=(.seq (rN r67_0) (.seq (rN r67_1) .ret))
theorem o67:FnI 67 11 Tryz.f67 c67 [.tmp 4]:=oM Tryz.func67
def q68:=V (RS Tryz.f68=·)
def r68_0:=X q68 0
def r68_1:=X q68 1
def r68_2:=X q68 2
def r68_3:=X q68 3
def r68_4:=X q68 4
def r68_5:=X q68 5
def r68_6:=X q68 6
def r68_7:=X q68 7
def l68_0:CC:=(.seq (rN r68_3) (.seq (.cond (.t 14) .skip (.exit 0)) (.seq (.block 1 (.seq (rN r68_4) (.seq (rN r68_5) (.reg r68_6 (some [(3,7)]))))) (rN r68_7))))
def r68_8:=X q68 8
def c68:CC:=(.seq (rN r68_0) (.seq (rN r68_1) (.seq (.seq (rN r68_2) (.block 0 (.loop l68_0))) (.seq (rN r68_8) .ret))))
theorem o68:FnI 68 33 Tryz.f68 c68 [.tmp 6]:=oM Tryz.func68
def q69:=V (RS Tryz.f69=·)
def r69_0:=X q69 0
def r69_1:=X q69 1
def r69_2:=X q69 2
def c69:CC:=(.seq (rN r69_0) (.seq (rN r69_1) (.seq (rN r69_2) .ret)))
theorem o69:FnI 69 16 Tryz.f69 c69 [.tmp 2]:=oM Tryz.func69
def r70_0:=V (RR Tryz.f70 0=·)
def r70_1:=V (RR Tryz.f70 1=·)
def r70_2:=V (RR Tryz.f70 2=·)
def r70_3:=V (RR Tryz.f70 3=·)
def r70_4:=V (RR Tryz.f70 4=·)
def r70_5:=V (RR Tryz.f70 5=·)
def r70_6:=V (RR Tryz.f70 6=·)
def r70_7:=V (RR Tryz.f70 7=·)
def r70_8:=V (RR Tryz.f70 8=·)
def r70_9:=V (RR Tryz.f70 9=·)
def r70_10:=V (RR Tryz.f70 10=·)
def r70_11:=V (RR Tryz.f70 11=·)
def r70_12:=V (RR Tryz.f70 12=·)
def r70_13:=V (RR Tryz.f70 13=·)
def r70_14:=V (RR Tryz.f70 14=·)
def r70_15:=V (RR Tryz.f70 15=·)
def r70_16:=V (RR Tryz.f70 16=·)
def r70_17:=V (RR Tryz.f70 17=·)
def r70_18:=V (RR Tryz.f70 18=·)
def r70_19:=V (RR Tryz.f70 19=·)
def l70_2:CC:=(.seq (rN r70_16) (.seq (.cond (.t 49) .skip (.exit 4)) (.seq (.block 5 (.seq (rN r70_17) (.reg r70_18 (some [(3,10),(3,14),(10,14),(3,17),(10,17),(14,17),(3,21),(10,21),(14,21)])))) (rN r70_19))))
def r70_20:=V (RR Tryz.f70 20=·)
def l70_1:CC:=(.seq (rN r70_11) (.seq (.cond (.t 33) .skip (.exit 2)) (.seq (.block 3 (.seq (rN r70_12) (.seq (rN r70_13) (.seq (rN r70_14) (.seq (rN r70_15) (.block 4 (.loop l70_2))))))) (rN r70_20))))
def r70_21:=V (RR Tryz.f70 21=·)
def r70_22:=V (RR Tryz.f70 22=·)
def r70_23:=V (RR Tryz.f70 23=·)
def r70_24:=V (RR Tryz.f70 24=·)
def l70_0:CC:=(.seq (.seq (rN r70_5) (.cond (.t 17) .skip (.exit 0))) (.block 1 (.seq (rN r70_6) (.seq (.seq (rN r70_7) (.cond (.t 25) (.seq (rN r70_8) .ret) .skip)) (.seq (rN r70_9) (.seq (.seq (rN r70_10) (.block 2 (.loop l70_1))) (.seq (rN r70_21) (.seq (.seq (rN r70_22) (.cond (.t 101) (.seq (rN r70_23) .ret) .skip)) (rN r70_24)))))))))
def r70_25:=V (RR Tryz.f70 25=·)
def c70:CC:=(.seq (rN r70_0) (.seq (.seq (rN r70_1) (.cond (.t 13) (.seq (rN r70_2) .ret) .skip)) (.seq (rN r70_3) (.seq (rN r70_4) (.seq (.block 0 (.loop l70_0)) (.seq (rN r70_25) .ret))))))
theorem o70:FnI 70 118 Tryz.f70 c70 [.tmp 2]:=oM Tryz.func70
def q71:=V (RS Tryz.f71=·)
def r71_0:=X q71 0
def r71_1:=X q71 1
def c71:CC:=(.seq (rN r71_0) (.seq (rN r71_1) .ret))
theorem o71:FnI 71 15 Tryz.f71 c71 [.tmp 2]:=oM Tryz.func71
def q72:=V (RS Tryz.f72=·)
def r72_0:=X q72 0
def r72_1:=X q72 1
def r72_2:=X q72 2
def r72_3:=X q72 3
def r72_4:=X q72 4
def r72_5:=X q72 5
def r72_6:=X q72 6
def c72:CC:=(.seq (rN r72_0) (.seq (.seq (rN r72_1) (.cond (.t 9) (.seq (rN r72_2) .ret) .skip)) (.seq (.seq (rN r72_3) (.seq (rN r72_4) (.cond (.t 13) (.seq (rN r72_5) .ret) .skip))) (.seq (rN r72_6) .ret))))
theorem o72:FnI 72 18 Tryz.f72 c72 [.tmp 4,.tmp 5]:=oM Tryz.func72
def q73:=V (RS Tryz.f73=·)
def r73_0:=X q73 0
def r73_1:=X q73 1
def r73_2:=X q73 2
def r73_3:=X q73 3
def r73_4:=X q73 4
def r73_5:=X q73 5
def r73_6:=X q73 6
def r73_7:=X q73 7
def r73_8:=X q73 8
def r73_9:=X q73 9
def l73_1:CC:=(.seq (.seq (rN r73_6) (.cond (.t 19) .skip (.exit 2))) (.seq (.block 3 (.seq (rN r73_7) (.cond (.t 27) (.seq (rN r73_8) .ret) .skip))) (rN r73_9)))
def r73_10:=X q73 10
def r73_11:=X q73 11
def r73_12:=X q73 12
def l73_0:CC:=(.seq (rN r73_3) (.seq (.cond (.t 15) .skip (.exit 0)) (.seq (.block 1 (.seq (rN r73_4) (.seq (.seq (rN r73_5) (.block 2 (.loop l73_1))) (.seq (rN r73_10) (.cond (.t 36) (.seq (rN r73_11) .ret) .skip))))) (rN r73_12))))
def r73_13:=X q73 13
def c73:CC:=(.seq (rN r73_0) (.seq (rN r73_1) (.seq (.seq (rN r73_2) (.block 0 (.loop l73_0))) (.seq (rN r73_13) .ret))))
theorem o73:FnI 73 38 Tryz.f73 c73 [.tmp 2]:=oM Tryz.func73
def q86:=V (RS Tryz.f86=·)
def r86_0:=X q86 0
def r86_1:=X q86 1
def r86_2:=X q86 2
def r86_3:=X q86 3
def r86_4:=X q86 4
def r86_5:=X q86 5
def r86_6:=X q86 6
def c86:CC:=(.seq (rN r86_0) (.seq (.seq (rN r86_1) (.cond (.t 9) (.seq (rN r86_2) .ret) .skip)) (.seq (.seq (rN r86_3) (.cond (.t 13) (.reg r86_4 (some [(0,2),(1,2)])) .skip)) (.seq (rN r86_5) (.seq (.reg r86_6 (some [(0,1),(0,3),(1,3),(2,3),(0,4),(1,4),(2,4),(3,4)])) .ret)))))
theorem o86:FnI 86 28 Tryz.f86 c86 [.cell 4 42,.tmp 5]:=oM Tryz.func86
def q87:=V (RS Tryz.f87=·)
def r87_0:=X q87 0
def r87_1:=X q87 1
def r87_2:=X q87 2
def r87_3:=X q87 3
def c87:CC:=(.seq (rN r87_0) (.seq (.seq (rN r87_1) (.cond (.t 4) (.seq (rN r87_2) .ret) .skip)) (.seq (rN r87_3) .ret)))
theorem o87:FnI 87 12 Tryz.f87 c87 [.cell 2 40]:=oM Tryz.func87
def q88:=V (RS Tryz.f88=·)
def r88_0:=X q88 0
def r88_1:=X q88 1
def r88_2:=X q88 2
def r88_3:=X q88 3
def r88_4:=X q88 4
def r88_5:=X q88 5
def r88_6:=X q88 6
def r88_7:=X q88 7
def r88_8:=X q88 8
def r88_9:=X q88 9
def r88_10:=X q88 10
def r88_11:=X q88 11
def l88_0:CC:=(.seq (.seq (rN r88_6) (.cond (.t 20) .skip (.exit 0))) (.seq (.block 1 (.seq (.reg r88_7 (some [(3,7)])) (.cond (.t 31) (.seq (.seq (.reg r88_8 (some [(3,7)])) (.cond (.t 40) (.seq (rN r88_9) .ret) .skip)) (.seq (rN r88_10) .ret)) .skip))) (rN r88_11)))
def r88_12:=X q88 12
def c88:CC:=(.seq (rN r88_0) (.seq (.seq (rN r88_1) (.cond (.t 10) (.seq (.seq (rN r88_2) (.cond (.t 15) (.seq (rN r88_3) .ret) .skip)) (.seq (rN r88_4) .ret)) .skip)) (.seq (.seq (rN r88_5) (.block 0 (.loop l88_0))) (.seq (rN r88_12) .ret))))
theorem o88:FnI 88 41 Tryz.f88 c88 [.tmp 4]:=oM Tryz.func88
def q97:=V (RS Tryz.f97=·)
def r97_0:=X q97 0
def r97_1:=X q97 1
def r97_2:=X q97 2
def r97_3:=X q97 3
def r97_4:=X q97 4
def r97_5:=X q97 5
def r97_6:=X q97 6
def r97_7:=X q97 7
def r97_8:=X q97 8
def r97_9:=X q97 9
def c97:CC:=(.seq (rN r97_0) (.seq (rN r97_1) (.seq (rN r97_2) (.seq (.block 0 (.seq (rN r97_3) (.cond (.t 11) (.seq (rN r97_4) .ret) (.seq (rN r97_5) (.cond (.t 15) (.seq (rN r97_6) .ret) (.seq (rN r97_7) (.cond (.t 25) (.seq (rN r97_8) .ret) .skip))))))) (.seq (rN r97_9) .ret)))))
theorem o97:FnI 97 35 Tryz.f97 c97 [.tmp 2,.tmp 3]:=oM Tryz.func97
def r98_0:=V (RR Tryz.f98 0=·)
def r98_1:=V (RR Tryz.f98 1=·)
def r98_2:=V (RR Tryz.f98 2=·)
def r98_3:=V (RR Tryz.f98 3=·)
def r98_4:=V (RR Tryz.f98 4=·)
def r98_5:=V (RR Tryz.f98 5=·)
def r98_6:=V (RR Tryz.f98 6=·)
def r98_7:=V (RR Tryz.f98 7=·)
def r98_8:=V (RR Tryz.f98 8=·)
def l98_1:CC:=(.seq (.seq (rN r98_7) (.cond (.t 35) .skip (.exit 2))) (.block 3 (rN r98_8)))
def r98_9:=V (RR Tryz.f98 9=·)
def r98_10:=V (RR Tryz.f98 10=·)
def r98_11:=V (RR Tryz.f98 11=·)
def r98_12:=V (RR Tryz.f98 12=·)
def r98_13:=V (RR Tryz.f98 13=·)
def r98_14:=V (RR Tryz.f98 14=·)
def r98_15:=V (RR Tryz.f98 15=·)
def r98_16:=V (RR Tryz.f98 16=·)
def r98_17:=V (RR Tryz.f98 17=·)
def r98_18:=V (RR Tryz.f98 18=·)
def r98_19:=V (RR Tryz.f98 19=·)
def l98_3:CC:=(.seq (.seq (rN r98_17) (.cond (.t 72) .skip (.exit 6))) (.seq (.block 7 (.reg r98_18 (some [(3,8),(3,11),(3,15),(8,15),(11,15),(3,18),(8,18),(11,18),(3,19),(3,23),(8,23),(11,23),(15,23),(18,23),(19,23),(3,26),(8,26),(11,26),(15,26),(18,26),(19,26),(3,30),(8,30),(11,30),(15,30),(18,30),(19,30),(23,30),(26,30),(3,33),(8,33),(11,33),(15,33),(18,33),(19,33),(23,33),(26,33),(3,34),(3,35),(3,36),(8,36),(11,36),(15,36),(18,36),(19,36),(23,36),(26,36),(30,36),(33,36),(34,36),(35,36),(3,37)]))) (rN r98_19)))
def r98_20:=V (RR Tryz.f98 20=·)
def l98_2:CC:=(.seq (.seq (rN r98_15) (.cond (.t 65) .skip (.exit 4))) (.seq (.block 5 (.seq (rN r98_16) (.block 6 (.loop l98_3)))) (rN r98_20)))
def r98_21:=V (RR Tryz.f98 21=·)
def r98_22:=V (RR Tryz.f98 22=·)
def l98_0:CC:=(.seq (.seq (rN r98_5) (.cond (.t 18) .skip (.exit 0))) (.seq (.block 1 (.seq (rN r98_6) (.seq (.block 2 (.loop l98_1)) (.seq (.seq (rN r98_9) (.cond (.t 40) (.seq (rN r98_10) .ret) .skip)) (.seq (.seq (rN r98_11) (.cond (.t 44) (.seq (.reg r98_12 (some [(7,11)])) (rN r98_13)) .skip)) (.seq (.seq (rN r98_14) (.block 4 (.loop l98_2))) (rN r98_21))))))) (rN r98_22)))
def r98_23:=V (RR Tryz.f98 23=·)
def r98_24:=V (RR Tryz.f98 24=·)
def r98_25:=V (RR Tryz.f98 25=·)
def c98:CC:=(.seq (rN r98_0) (.seq (rN r98_1) (.seq (rN r98_2) (.seq (rN r98_3) (.seq (.seq (rN r98_4) (.block 0 (.loop l98_0))) (.seq (.seq (rN r98_23) (.cond (.t 121) (.seq (rN r98_24) .ret) .skip)) (.seq (rN r98_25) .ret)))))))
theorem o98:FnI 98 125 Tryz.f98 c98 [.cell 2 40]:=oM Tryz.func98
def q118:=V (RS Tryz.f118=·)
def r118_0:=X q118 0
def r118_1:=X q118 1
def r118_2:=X q118 2
def r118_3:=X q118 3
def r118_4:=X q118 4
def c118:CC:=(.seq (rN r118_0) (.seq (rN r118_1) (.seq (.seq (rN r118_2) (.cond (.t 19) (.seq (rN r118_3) .ret) .skip)) (.seq (rN r118_4) .ret))))
theorem o118:FnI 118 21 Tryz.f118 c118 [.tmp 2,.tmp 3]:=oM Tryz.func118
def q119:=V (RS Tryz.f119=·)
def r119_0:=X q119 0
def r119_1:=X q119 1
def r119_2:=X q119 2
def r119_3:=X q119 3
def r119_4:=X q119 4
def r119_5:=X q119 5
def r119_6:=X q119 6
def r119_7:=X q119 7
def r119_8:=X q119 8
def l119_1:CC:=(.seq (.seq (rN r119_5) (.cond (.t 12) .skip (.exit 2))) (.seq (.block 3 (.seq (.reg r119_6 (some [(3,10),(6,10),(3,13),(6,13)])) (.cond (.t 30) (.seq (rN r119_7) .ret) .skip))) (rN r119_8)))
def r119_9:=X q119 9
def l119_0:CC:=(.seq (rN r119_2) (.seq (.cond (.t 8) .skip (.exit 0)) (.seq (.block 1 (.seq (rN r119_3) (.seq (rN r119_4) (.block 2 (.loop l119_1))))) (rN r119_9))))
def r119_10:=X q119 10
def c119:CC:=(.seq (rN r119_0) (.seq (.seq (rN r119_1) (.block 0 (.loop l119_0))) (.seq (rN r119_10) .ret)))
theorem o119:FnI 119 32 Tryz.f119 c119 [.tmp 2]:=oM Tryz.func119
def q120:=V (RS Tryz.f120=·)
def r120_0:=X q120 0
def r120_1:=X q120 1
def r120_2:=X q120 2
def r120_3:=X q120 3
def r120_4:=X q120 4
def r120_5:=X q120 5
def r120_6:=X q120 6
def r120_7:=X q120 7
def r120_8:=X q120 8
def r120_9:=X q120 9
def l120_0:CC:=(.seq (rN r120_5) (.seq (.cond (.t 22) .skip (.exit 0)) (.seq (.block 1 (.seq (rN r120_6) (.seq (rN r120_7) (.cond (.t 27) (.seq (rN r120_8) .ret) .skip)))) (rN r120_9))))
def r120_10:=X q120 10
def c120:CC:=(.seq (rN r120_0) (.seq (rN r120_1) (.seq (.seq (rN r120_2) (.cond (.t 18) (.seq (rN r120_3) .ret) .skip)) (.seq (.seq (rN r120_4) (.block 0 (.loop l120_0))) (.seq (rN r120_10) .ret)))))
theorem o120:FnI 120 29 Tryz.f120 c120 [.tmp 2]:=oM Tryz.func120
def q121:=V (RS Tryz.f121=·)
def r121_0:=X q121 0
def r121_1:=X q121 1
def r121_2:=X q121 2
def r121_3:=X q121 3
def r121_4:=X q121 4
def r121_5:=X q121 5
def r121_6:=X q121 6
def c121:CC:=(.seq (rN r121_0) (.seq (.reg r121_1 (some [(0,2),(1,2)])) (.seq (.seq (rN r121_2) (.cond (.t 13) (.seq (.seq (rN r121_3) (.cond (.t 16) (.seq (rN r121_4) .ret) .skip)) (.seq (rN r121_5) .ret)) .skip)) (.seq (.reg r121_6 (some [(2,5),(3,5)])) .ret))))
theorem o121:FnI 121 26 Tryz.f121 c121 [.tmp 4]:=oM Tryz.func121
def q122:=V (RS Tryz.f122=·)
def r122_0:=X q122 0
def r122_1:=X q122 1
def c122:CC:=(.seq (rN r122_0) (.seq (rN r122_1) .ret))
theorem o122:FnI 122 8 Tryz.f122 c122 [.cell 2 40]:=oM Tryz.func122
def q123:=V (RS Tryz.f123=·)
def r123_0:=X q123 0
def r123_1:=X q123 1
def r123_2:=X q123 2
def r123_3:=X q123 3
def r123_4:=X q123 4
def r123_5:=X q123 5
def r123_6:=X q123 6
def l123_0:CC:=(.seq (rN r123_3) (.seq (.cond (.t 12) .skip (.exit 0)) (.seq (.block 1 (.seq (rN r123_4) (rN r123_5))) (rN r123_6))))
def r123_7:=X q123 7
def c123:CC:=(.seq (rN r123_0) (.seq (rN r123_1) (.seq (.seq (rN r123_2) (.block 0 (.loop l123_0))) (.seq (rN r123_7) .ret))))
theorem o123:FnI 123 21 Tryz.f123 c123 [.tmp 4]:=oM Tryz.func123
def q124:=V (RS Tryz.f124=·)
def r124_0:=X q124 0
def r124_1:=X q124 1
def r124_2:=X q124 2
def r124_3:=X q124 3
def r124_4:=X q124 4
def r124_5:=X q124 5
def r124_6:=X q124 6
def r124_7:=X q124 7
def r124_8:=X q124 8
def l124_0:CC:=(.seq (.seq (rN r124_6) (.cond (.t 17) .skip (.exit 0))) (.seq (.block 1 (rN r124_7)) (rN r124_8)))
def r124_9:=X q124 9
def c124:CC:=(.seq (rN r124_0) (.seq (rN r124_1) (.seq (.seq (rN r124_2) (.cond (.t 14) (.seq (rN r124_3) .ret) .skip)) (.seq (rN r124_4) (.seq (.seq (rN r124_5) (.block 0 (.loop l124_0))) (.seq (rN r124_9) .ret))))))
theorem o124:FnI 124 33 Tryz.f124 c124 [.tmp 2,.tmp 3]:=oM Tryz.func124
def q125:=V (RS Tryz.f125=·)
def r125_0:=X q125 0
def r125_1:=X q125 1
def c125:CC:=(.seq (rN r125_0) (.seq (rN r125_1) .ret))
theorem o125:FnI 125 22 Tryz.f125 c125 [.tmp 8]:=oM Tryz.func125
def q126:=V (RS Tryz.f126=·)
def r126_0:=X q126 0
def r126_1:=X q126 1
def c126:CC:=(.seq (rN r126_0) (.seq (rN r126_1) .ret))
theorem o126:FnI 126 9 Tryz.f126 c126 [.cell 2 40]:=oM Tryz.func126
def r127_0:RL:=[oP 1 (.box (.t 0)),oP 2 (.box (.k (.agg [(.bool false),(.vec [] 0 (some 0))])))]
def r127_1:RL:=[ldO 3 true 4 1,cL 4 189 [],cL 5 165 [.t 3,.t 4],cL 6 188 [.t 5],sT (.store 2 (.t 2) (.t 6))]
def c127:CC:=(.seq (rN r127_0) (.seq (.reg r127_1 (some [(0,1)])) .ret))
theorem o127:FnI 127 7 Tryz.f127 c127 [.cell 2 40]:=oM Tryz.func127
def q128:=V (RS Tryz.f128=·)
def r128_0:=X q128 0
def r128_1:=X q128 1
def c128:CC:=(.seq (rN r128_0) (.seq (rN r128_1) .ret))
theorem o128:FnI 128 9 Tryz.f128 c128 [.cell 4 42]:=oM Tryz.func128
def q129:=V (RS Tryz.f129=·)
def r129_0:=X q129 0
def r129_1:=X q129 1
def r129_2:=X q129 2
def r129_3:=X q129 3
def r129_4:=X q129 4
def r129_5:=X q129 5
def r129_6:=X q129 6
def l129_0:CC:=(.seq (.seq (rN r129_3) (.cond (.t 12) .skip (.exit 0))) (.seq (.block 1 (.seq (rN r129_4) (rN r129_5))) (rN r129_6)))
def r129_7:=X q129 7
def c129:CC:=(.seq (rN r129_0) (.seq (rN r129_1) (.seq (.seq (rN r129_2) (.block 0 (.loop l129_0))) (.seq (rN r129_7) .ret))))
theorem o129:FnI 129 34 Tryz.f129 c129 [.cell 6 40]:=oM Tryz.func129
def q130:=V (RS Tryz.f130=·)
def r130_0:=X q130 0
def r130_1:=X q130 1
def r130_2:=X q130 2
def r130_3:=X q130 3
def c130:CC:=(.seq (rN r130_0) (.seq (.seq (rN r130_1) (.cond (.t 6) (.seq (rN r130_2) .ret) .skip)) (.seq (rN r130_3) .ret)))
theorem o130:FnI 130 13 Tryz.f130 c130 [.cell 4 40]:=oM Tryz.func130
def q131:=V (RS Tryz.f131=·)
def r131_0:=X q131 0
def r131_1:=X q131 1
def r131_2:=X q131 2
def r131_3:=X q131 3
def c131:CC:=(.seq (rN r131_0) (.seq (rN r131_1) (.seq (.reg r131_2 (some [(0,10),(4,10),(8,10),(9,10),(0,11),(4,11),(8,11),(9,11),(10,11),(0,15),(4,15),(8,15),(9,15),(10,15),(11,15),(12,15),(13,15),(14,15)])) (.seq (.reg r131_3 (some [(0,1),(0,4),(0,7),(0,8),(0,9)])) .ret))))
theorem o131:FnI 131 41 Tryz.f131 c131 [.tmp 6]:=oM Tryz.func131
def q132:=V (RS Tryz.f132=·)
def r132_0:=X q132 0
def r132_1:=X q132 1
def r132_2:=X q132 2
def r132_3:=X q132 3
def r132_4:=X q132 4
def r132_5:=X q132 5
def r132_6:=X q132 6
def r132_7:=X q132 7
def r132_8:=X q132 8
def l132_0:CC:=(.seq (rN r132_4) (.seq (.cond (.t 18) .skip (.exit 0)) (.seq (.block 1 (.seq (rN r132_5) (.seq (rN r132_6) (.cond (.t 37) (.seq (rN r132_7) .ret) .skip)))) (rN r132_8))))
def r132_9:=X q132 9
def c132:CC:=(.seq (rN r132_0) (.seq (.seq (rN r132_1) (.cond (.t 14) (.seq (rN r132_2) .ret) .skip)) (.seq (.seq (rN r132_3) (.block 0 (.loop l132_0))) (.seq (.reg r132_9 (some [])) .ret))))
theorem o132:FnI 132 45 Tryz.f132 c132 [.tmp 2,.tmp 3,.tmp 4]:=oM Tryz.func132
def q133:=V (RS Tryz.f133=·)
def r133_0:=X q133 0
def r133_1:=X q133 1
def r133_2:=X q133 2
def r133_3:=X q133 3
def r133_4:=X q133 4
def r133_5:=X q133 5
def r133_6:=X q133 6
def r133_7:=X q133 7
def r133_8:=X q133 8
def r133_9:=X q133 9
def r133_10:=X q133 10
def r133_11:=X q133 11
def r133_12:=X q133 12
def l133_1:CC:=(.seq (rN r133_9) (.seq (.cond (.t 32) .skip (.exit 2)) (.seq (.block 3 (.seq (rN r133_10) (.reg r133_11 (some [(3,8),(3,11),(3,12)])))) (rN r133_12))))
def r133_13:=X q133 13
def l133_0:CC:=(.seq (rN r133_6) (.seq (.cond (.t 24) .skip (.exit 0)) (.seq (.block 1 (.seq (rN r133_7) (.seq (rN r133_8) (.block 2 (.loop l133_1))))) (rN r133_13))))
def r133_14:=X q133 14
def c133:CC:=(.seq (rN r133_0) (.seq (rN r133_1) (.seq (.seq (rN r133_2) (.cond (.t 17) (.seq (rN r133_3) .ret) .skip)) (.seq (rN r133_4) (.seq (.seq (rN r133_5) (.block 0 (.loop l133_0))) (.seq (rN r133_14) .ret))))))
theorem o133:FnI 133 51 Tryz.f133 c133 [.tmp 2,.tmp 3]:=oM Tryz.func133
def q134:=V (RS Tryz.f134=·)
def r134_0:=X q134 0
def r134_1:=X q134 1
def r134_2:=X q134 2
def r134_3:=X q134 3
def r134_4:=X q134 4
def r134_5:=X q134 5
def r134_6:=X q134 6
def r134_7:=X q134 7
def r134_8:=X q134 8
def r134_9:=X q134 9
def r134_10:=X q134 10
def r134_11:=X q134 11
def r134_12:=X q134 12
def r134_13:=X q134 13
def l134_1:CC:=(.seq (rN r134_10) (.seq (.cond (.t 50) .skip (.exit 2)) (.seq (.block 3 (.seq (rN r134_11) (.reg r134_12 (some [(3,8),(3,12),(8,12),(3,13)])))) (rN r134_13))))
def r134_14:=X q134 14
def l134_0:CC:=(.seq (rN r134_7) (.seq (.cond (.t 45) .skip (.exit 0)) (.seq (.block 1 (.seq (rN r134_8) (.seq (rN r134_9) (.block 2 (.loop l134_1))))) (rN r134_14))))
def r134_15:=X q134 15
def c134:CC:=(.seq (rN r134_0) (.seq (rN r134_1) (.seq (rN r134_2) (.seq (.seq (rN r134_3) (.cond (.t 36) (.seq (rN r134_4) .ret) .skip)) (.seq (rN r134_5) (.seq (.seq (rN r134_6) (.block 0 (.loop l134_0))) (.seq (rN r134_15) .ret)))))))
theorem o134:FnI 134 70 Tryz.f134 c134 [.tmp 4,.tmp 5]:=oM Tryz.func134
def q135:=V (RS Tryz.f135=·)
def r135_0:=X q135 0
def r135_1:=X q135 1
def r135_2:=X q135 2
def r135_3:=X q135 3
def r135_4:=X q135 4
def c135:CC:=(.seq (rN r135_0) (.seq (.seq (.reg r135_1 (some [(3,7)])) (.cond (.t 12) (.seq (rN r135_2) .ret) .skip)) (.seq (rN r135_3) (.seq (.reg r135_4 (some [(3,7)])) .ret))))
theorem o135:FnI 135 32 Tryz.f135 c135 [.tmp 2]:=oM Tryz.func135
def q136:=V (RS Tryz.f136=·)
def r136_0:=X q136 0
def r136_1:=X q136 1
def r136_2:=X q136 2
def r136_3:=X q136 3
def r136_4:=X q136 4
def r136_5:=X q136 5
def r136_6:=X q136 6
def r136_7:=X q136 7
def r136_8:=X q136 8
def r136_9:=X q136 9
def l136_0:CC:=(.seq (rN r136_5) (.seq (.cond (.t 21) .skip (.exit 0)) (.seq (.block 1 (.seq (rN r136_6) (.seq (rN r136_7) (.cond (.t 27) (.seq (rN r136_8) .ret) .skip)))) (rN r136_9))))
def r136_10:=X q136 10
def r136_11:=X q136 11
def r136_12:=X q136 12
def r136_13:=X q136 13
def r136_14:=X q136 14
def r136_15:=X q136 15
def r136_16:=X q136 16
def r136_17:=X q136 17
def r136_18:=X q136 18
def l136_2:CC:=(.seq (rN r136_14) (.seq (.cond (.t 39) .skip (.exit 4)) (.seq (.block 5 (.seq (rN r136_15) (.seq (rN r136_16) (.cond (.t 59) (.seq (rN r136_17) .ret) .skip)))) (rN r136_18))))
def r136_19:=X q136 19
def l136_1:CC:=(.seq (rN r136_11) (.seq (.cond (.t 32) .skip (.exit 2)) (.seq (.block 3 (.seq (rN r136_12) (.seq (rN r136_13) (.block 4 (.loop l136_2))))) (rN r136_19))))
def r136_20:=X q136 20
def c136:CC:=(.seq (rN r136_0) (.seq (rN r136_1) (.seq (.seq (rN r136_2) (.cond (.t 17) (.seq (rN r136_3) .ret) .skip)) (.seq (.seq (rN r136_4) (.block 0 (.loop l136_0))) (.seq (.seq (rN r136_10) (.block 2 (.loop l136_1))) (.seq (rN r136_20) .ret))))))
theorem o136:FnI 136 62 Tryz.f136 c136 [.tmp 2]:=oM Tryz.func136
def q137:=V (RS Tryz.f137=·)
def r137_0:=X q137 0
def r137_1:=X q137 1
def r137_2:=X q137 2
def r137_3:=X q137 3
def r137_4:=X q137 4
def r137_5:=X q137 5
def r137_6:=X q137 6
def r137_7:=X q137 7
def r137_8:=X q137 8
def r137_9:=X q137 9
def l137_0:CC:=(.seq (rN r137_5) (.seq (.cond (.t 21) .skip (.exit 0)) (.seq (.block 1 (.seq (rN r137_6) (.seq (rN r137_7) (.cond (.t 37) (.seq (rN r137_8) .ret) .skip)))) (rN r137_9))))
def r137_10:=X q137 10
def c137:CC:=(.seq (rN r137_0) (.seq (rN r137_1) (.seq (.seq (rN r137_2) (.cond (.t 16) (.seq (rN r137_3) .ret) .skip)) (.seq (.seq (rN r137_4) (.block 0 (.loop l137_0))) (.seq (rN r137_10) .ret)))))
theorem o137:FnI 137 39 Tryz.f137 c137 [.tmp 2]:=oM Tryz.func137
def q139:=V (RS Tryz.f139=·)
def r139_0:=X q139 0
def r139_1:=X q139 1
def r139_2:=X q139 2
def r139_3:=X q139 3
def r139_4:=X q139 4
def r139_5:=X q139 5
def r139_6:=X q139 6
def r139_7:=X q139 7
def r139_8:=X q139 8
def l139_0:CC:=(.seq (rN r139_4) (.seq (.cond (.t 30) .skip (.exit 0)) (.seq (.block 1 (.seq (rN r139_5) (.seq (rN r139_6) (.cond (.t 39) (.seq (rN r139_7) .ret) .skip)))) (rN r139_8))))
def r139_9:=X q139 9
def c139:CC:=(.seq (rN r139_0) (.seq (.seq (rN r139_1) (.cond (.t 26) (.seq (rN r139_2) .ret) .skip)) (.seq (.seq (rN r139_3) (.block 0 (.loop l139_0))) (.seq (rN r139_9) .ret))))
theorem o139:FnI 139 41 Tryz.f139 c139 [.tmp 2]:=oM Tryz.func139
def r140_0:RL:=[oP 2 (.mov (kI 0))]
def r140_1:RL:=[mV 3 0,bK 4 .lss 3 2,mV 5 4,gU 6 5 false (.mov (.t 0)),gU 7 5 false (.bin .gtr (.t 6) (kI 2147483647)),oP 8 (.pick (.t 5) (.k (.bool true)) (.t 7))]
def r140_2:RL:=[oP 2 (.mov (kI 1))]
def r140_3:RL:=[oP 2 (.mov (kI 0))]
def c140:CC:=(.seq (rN r140_0) (.seq (.seq (rN r140_1) (.cond (.t 8) (.seq (rN r140_2) .ret) .skip)) (.seq (rN r140_3) .ret)))
theorem o140:FnI 140 9 Tryz.f140 c140 [.tmp 2]:=oM Tryz.func140
def q141:=V (RS Tryz.f141=·)
def r141_0:=X q141 0
def r141_1:=X q141 1
def r141_2:=X q141 2
def r141_3:=X q141 3
def r141_4:=X q141 4
def r141_5:=X q141 5
def r141_6:=X q141 6
def r141_7:=X q141 7
def r141_8:=X q141 8
def r141_9:=X q141 9
def r141_10:=X q141 10
def l141_1:CC:=(.seq (rN r141_7) (.seq (.cond (.t 29) .skip (.exit 2)) (.seq (.block 3 (.seq (rN r141_8) (.reg r141_9 (some [])))) (rN r141_10))))
def r141_11:=X q141 11
def l141_0:CC:=(.seq (rN r141_3) (.seq (.cond (.t 16) .skip (.exit 0)) (.seq (.block 1 (.seq (rN r141_4) (.seq (rN r141_5) (.seq (rN r141_6) (.block 2 (.loop l141_1)))))) (rN r141_11))))
def r141_12:=X q141 12
def c141:CC:=(.seq (rN r141_0) (.seq (rN r141_1) (.seq (.seq (rN r141_2) (.block 0 (.loop l141_0))) (.seq (rN r141_12) .ret))))
theorem o141:FnI 141 49 Tryz.f141 c141 [.tmp 4]:=oM Tryz.func141
def q149:=V (RS Tryz.f149=·)
def r149_0:=X q149 0
def r149_1:=X q149 1
def r149_2:=X q149 2
def r149_3:=X q149 3
def r149_4:=X q149 4
def r149_5:=X q149 5
def c149:CC:=(.seq (rN r149_0) (.seq (.block 0 (.seq (rN r149_1) (.cond (.t 3) (.seq (rN r149_2) .ret) (.seq (rN r149_3) (.cond (.t 9) (.seq (rN r149_4) .ret) .skip))))) (.seq (rN r149_5) .ret)))
theorem o149:FnI 149 12 Tryz.f149 c149 [.tmp 2]:=oM Tryz.func149
def q150:=V (RS Tryz.f150=·)
def r150_0:=X q150 0
def r150_1:=X q150 1
def r150_2:=X q150 2
def r150_3:=X q150 3
def l150_0:CC:=(.seq (.seq (rN r150_2) (.cond (.t 13) .skip (.exit 0))) (.block 1 (.reg r150_3 (some [(0,1),(0,2),(1,2),(0,3)]))))
def r150_4:=X q150 4
def c150:CC:=(.seq (rN r150_0) (.seq (.reg r150_1 (some [(0,2),(1,2),(0,4),(1,4),(2,4),(3,4),(0,5),(1,5),(2,5),(3,5),(4,5)])) (.seq (.block 0 (.loop l150_0)) (.seq (rN r150_4) .ret))))
theorem o150:FnI 150 19 Tryz.f150 c150 [.cell 4 40]:=oM Tryz.func150
def q151:=V (RS Tryz.f151=·)
def r151_0:=X q151 0
def r151_1:=X q151 1
def r151_2:=X q151 2
def c151:CC:=(.seq (rN r151_0) (.seq (rN r151_1) (.seq (rN r151_2) .ret)))
theorem o151:FnI 151 16 Tryz.f151 c151 [.cell 4 40]:=oM Tryz.func151
def q152:=V (RS Tryz.f152=·)
def r152_0:=X q152 0
def r152_1:=X q152 1
def c152:CC:=(.seq (rN r152_0) (.seq (rN r152_1) .ret))
theorem o152:FnI 152 13 Tryz.f152 c152 [.cell 4 40]:=oM Tryz.func152
def q161:=V (RS Tryz.f161=·)
def r161_0:=X q161 0
def r161_1:=X q161 1
def r161_2:=X q161 2
def r161_3:=X q161 3
def l161_0:CC:=(.seq (.seq (rN r161_2) (.cond (.t 15) .skip (.exit 0))) (.block 1 (rN r161_3)))
def r161_4:=X q161 4
def c161:CC:=(.seq (rN r161_0) (.seq (rN r161_1) (.seq (.block 0 (.loop l161_0)) (.seq (rN r161_4) .ret))))
theorem o161:FnI 161 22 Tryz.f161 c161 [.tmp 2]:=oM Tryz.func161
def q162:=V (RS Tryz.f162=·)
def r162_0:=X q162 0
def r162_1:=X q162 1
def r162_2:=X q162 2
def r162_3:=X q162 3
def r162_4:=X q162 4
def r162_5:=X q162 5
def l162_0:CC:=(.seq (.seq (rN r162_3) (.cond (.t 12) .skip (.exit 0))) (.seq (.block 1 (rN r162_4)) (rN r162_5)))
def r162_6:=X q162 6
def c162:CC:=(.seq (rN r162_0) (.seq (rN r162_1) (.seq (.seq (rN r162_2) (.block 0 (.loop l162_0))) (.seq (rN r162_6) .ret))))
theorem o162:FnI 162 26 Tryz.f162 c162 [.tmp 2]:=oM Tryz.func162
def r163_0:RL:=[oP 2 (.box (.t 0)),oP 3 (.box (.t 1)),oP 4 (.box (.k (.agg [(.bool false),(.vec [] 0 (some 0))])))]
def r163_1:RL:=[ldO 5 true 2 2,ldO 6 true 2 3,cL 7 126 [.t 6],cL 8 190 [.t 5,.t 7],sT (.store 2 (.t 4) (.t 8))]
def c163:CC:=(.seq (rN r163_0) (.seq (.reg r163_1 (some [(0,1),(0,2)])) .ret))
theorem o163:FnI 163 9 Tryz.f163 c163 [.cell 4 40]:=oM Tryz.func163
def q164:=V (RS Tryz.f164=·)
def r164_0:=X q164 0
def r164_1:=X q164 1
def r164_2:=X q164 2
def r164_3:=X q164 3
def r164_4:=X q164 4
def r164_5:=X q164 5
def r164_6:=X q164 6
def r164_7:=X q164 7
def r164_8:=X q164 8
def r164_9:=X q164 9
def r164_10:=X q164 10
def r164_11:=X q164 11
def r164_12:=X q164 12
def l164_1:CC:=(.seq (rN r164_7) (.seq (.cond (.t 31) .skip (.exit 2)) (.seq (.block 3 (.seq (rN r164_8) (.seq (rN r164_9) (.seq (rN r164_10) (rN r164_11))))) (rN r164_12))))
def r164_13:=X q164 13
def r164_14:=X q164 14
def l164_0:CC:=(.seq (rN r164_3) (.seq (.cond (.t 23) .skip (.exit 0)) (.seq (.block 1 (.seq (rN r164_4) (.seq (rN r164_5) (.seq (.seq (rN r164_6) (.block 2 (.loop l164_1))) (rN r164_13))))) (rN r164_14))))
def r164_15:=X q164 15
def c164:CC:=(.seq (rN r164_0) (.seq (rN r164_1) (.seq (.seq (rN r164_2) (.block 0 (.loop l164_0))) (.seq (rN r164_15) .ret))))
theorem o164:FnI 164 77 Tryz.f164 c164 [.cell 4 40]:=oM Tryz.func164
def q165:=V (RS Tryz.f165=·)
def r165_0:=X q165 0
def r165_1:=X q165 1
def r165_2:=X q165 2
def r165_3:=X q165 3
def c165:CC:=(.seq (rN r165_0) (.seq (.reg r165_1 (some [(0,2),(1,2),(0,4),(1,4),(2,4),(3,4),(0,5),(1,5),(2,5),(3,5),(4,5)])) (.seq (.reg r165_2 (some [(1,3),(1,6),(3,6),(4,6),(1,8),(3,8),(4,8),(6,8),(1,12),(3,12),(4,12),(6,12),(8,12),(9,12),(10,12),(1,14),(3,14),(4,14),(6,14),(8,14),(9,14),(10,14),(12,14),(1,20),(3,20),(4,20),(6,20),(8,20),(9,20),(10,20),(12,20),(14,20),(15,20),(16,20)])) (.seq (rN r165_3) .ret))))
theorem o165:FnI 165 34 Tryz.f165 c165 [.cell 4 42]:=oM Tryz.func165
def q168:=V (RS Tryz.f168=·)
def r168_0:=X q168 0
def r168_1:=X q168 1
def r168_2:=X q168 2
def r168_3:=X q168 3
def r168_4:=X q168 4
def c168:CC:=(.seq (rN r168_0) (.seq (rN r168_1) (.seq (.seq (rN r168_2) (.cond (.t 14) (.seq (rN r168_3) .ret) .skip)) (.seq (rN r168_4) .ret))))
theorem o168:FnI 168 17 Tryz.f168 c168 [.cell 2 42]:=oM Tryz.func168
def q184:=V (RS Tryz.f184=·)
def r184_0:=X q184 0
def r184_1:=X q184 1
def r184_2:=X q184 2
def c184:CC:=(.seq (rN r184_0) (.seq (rN r184_1) (.seq (rN r184_2) .ret)))
theorem o184:FnI 184 16 Tryz.f184 c184 [.cell 4 40]:=oM Tryz.func184
def q185:=V (RS Tryz.f185=·)
def r185_0:=X q185 0
def r185_1:=X q185 1
def r185_2:=X q185 2
def r185_3:=X q185 3
def r185_4:=X q185 4
def r185_5:=X q185 5
def r185_6:=X q185 6
def r185_7:=X q185 7
def r185_8:=X q185 8
def r185_9:=X q185 9
def r185_10:=X q185 10
def l185_1:CC:=(.seq (rN r185_7) (.seq (.cond (.t 22) .skip (.exit 2)) (.seq (.block 3 (.seq (rN r185_8) (rN r185_9))) (rN r185_10))))
def r185_11:=X q185 11
def r185_12:=X q185 12
def l185_0:CC:=(.seq (rN r185_3) (.seq (.cond (.t 16) .skip (.exit 0)) (.seq (.block 1 (.seq (rN r185_4) (.seq (rN r185_5) (.seq (.seq (rN r185_6) (.block 2 (.loop l185_1))) (rN r185_11))))) (rN r185_12))))
def r185_13:=X q185 13
def c185:CC:=(.seq (rN r185_0) (.seq (rN r185_1) (.seq (.seq (rN r185_2) (.block 0 (.loop l185_0))) (.seq (rN r185_13) .ret))))
theorem o185:FnI 185 42 Tryz.f185 c185 [.tmp 6]:=oM Tryz.func185
def q186:=V (RS Tryz.f186=·)
def r186_0:=X q186 0
def r186_1:=X q186 1
def r186_2:=X q186 2
def r186_3:=X q186 3
def r186_4:=X q186 4
def r186_5:=X q186 5
def l186_0:CC:=(.seq (.seq (rN r186_3) (.cond (.t 9) .skip (.exit 0))) (.seq (.block 1 (rN r186_4)) (rN r186_5)))
def r186_6:=X q186 6
def c186:CC:=(.seq (rN r186_0) (.seq (rN r186_1) (.seq (.seq (rN r186_2) (.block 0 (.loop l186_0))) (.seq (rN r186_6) .ret))))
theorem o186:FnI 186 20 Tryz.f186 c186 [.tmp 4]:=oM Tryz.func186
def r187_0:RL:=[oP 1 (.box (.t 0)),oP 2 (.box (.k (.agg [(.bool false),(.vec [] 0 (some 0))])))]
def r187_1:RL:=[oP 3 (.fld 1 (.t 1)),ldO 4 false 1 3,cL 5 184 [(.k (.bool false)),.t 4],sT (.store 2 (.t 2) (.t 5))]
def c187:CC:=(.seq (rN r187_0) (.seq (rN r187_1) .ret))
theorem o187:FnI 187 6 Tryz.f187 c187 [.cell 2 40]:=oM Tryz.func187
def q188:=V (RS Tryz.f188=·)
def r188_0:=X q188 0
def r188_1:=X q188 1
def r188_2:=X q188 2
def c188:CC:=(.seq (rN r188_0) (.seq (rN r188_1) (.seq (rN r188_2) .ret)))
theorem o188:FnI 188 11 Tryz.f188 c188 [.cell 2 40]:=oM Tryz.func188
def q189:=V (RS Tryz.f189=·)
def r189_0:=X q189 0
def r189_1:=X q189 1
def c189:CC:=(.seq (rN r189_0) (.seq (rN r189_1) .ret))
theorem o189:FnI 189 4 Tryz.f189 c189 [.cell 0 42]:=oM Tryz.func189
def q190:=V (RS Tryz.f190=·)
def r190_0:=X q190 0
def r190_1:=X q190 1
def r190_2:=X q190 2
def r190_3:=X q190 3
def r190_4:=X q190 4
def r190_5:=X q190 5
def r190_6:=X q190 6
def c190:CC:=(.seq (rN r190_0) (.seq (.reg r190_1 (some [(1,4),(2,4)])) (.seq (.seq (rN r190_2) (.cond (.t 17) (.seq (.reg r190_3 (some [(1,4)])) .ret) .skip)) (.seq (.seq (rN r190_4) (.cond (.t 27) (.seq (.reg r190_5 (some [(1,4)])) .ret) .skip)) (.seq (.reg r190_6 (some [(1,4)])) .ret)))))
theorem o190:FnI 190 40 Tryz.f190 c190 [.cell 4 40]:=oM Tryz.func190
def q191:=V (RS Tryz.f191=·)
def r191_0:=X q191 0
def r191_1:=X q191 1
def r191_2:=X q191 2
def r191_3:=X q191 3
def r191_4:=X q191 4
def r191_5:=X q191 5
def r191_6:=X q191 6
def l191_0:CC:=(.seq (rN r191_3) (.seq (.cond (.t 11) .skip (.exit 0)) (.seq (.block 1 (.seq (rN r191_4) (.reg r191_5 (some [(0,4),(0,8),(4,8),(0,9)])))) (rN r191_6))))
def r191_7:=X q191 7
def c191:CC:=(.seq (rN r191_0) (.seq (rN r191_1) (.seq (.seq (rN r191_2) (.block 0 (.loop l191_0))) (.seq (rN r191_7) .ret))))
theorem o191:FnI 191 26 Tryz.f191 c191 [.cell 4 40]:=oM Tryz.func191
def q197:=V (RS Tryz.f197=·)
def r197_0:=X q197 0
def r197_1:=X q197 1
def r197_2:=X q197 2
def c197:CC:=(.seq (rN r197_0) (.seq (rN r197_1) (.seq (rN r197_2) .ret)))
theorem o197:FnI 197 16 Tryz.f197 c197 [.cell 4 40]:=oM Tryz.func197
def q198:=V (RS Tryz.f198=·)
def r198_0:=X q198 0
def r198_1:=X q198 1
def r198_2:=X q198 2
def r198_3:=X q198 3
def r198_4:=X q198 4
def r198_5:=X q198 5
def r198_6:=X q198 6
def r198_7:=X q198 7
def r198_8:=X q198 8
def r198_9:=X q198 9
def r198_10:=X q198 10
def r198_11:=X q198 11
def c198:CC:=(.seq (rN r198_0) (.seq (.reg r198_1 (some [(1,4),(2,4)])) (.seq (.seq (rN r198_2) (.cond (.t 21) (.seq (rN r198_3) .ret) .skip)) (.seq (rN r198_4) (.seq (.reg r198_5 (some [(1,3),(1,8),(3,8),(6,8),(1,11),(3,11),(6,11),(8,11),(10,11),(1,12),(3,12),(6,12),(8,12),(10,12),(11,12)])) (.seq (.seq (rN r198_6) (.cond (.t 43) (.seq (.reg r198_7 (some [(0,2)])) (.seq (.seq (rN r198_8) (.cond (.t 50) (.seq (.reg r198_9 (some [(0,1),(0,3),(1,3),(2,3),(3,4)])) .ret) .skip)) (.seq (.reg r198_10 (some [(0,1),(0,3),(1,3),(2,3),(3,4)])) .ret))) .skip)) (.seq (.reg r198_11 (some [(0,1),(1,2)])) .ret)))))))
theorem o198:FnI 198 61 Tryz.f198 c198 [.cell 4 40,.cell 5 40,.tmp 6]:=oM Tryz.func198
def q208:=V (RS Tryz.f208=·)
def r208_0:=X q208 0
def r208_1:=X q208 1
def r208_2:=X q208 2
def r208_3:=X q208 3
def r208_4:=X q208 4
def r208_5:=X q208 5
def r208_6:=X q208 6
def r208_7:=X q208 7
def r208_8:=X q208 8
def r208_9:=X q208 9
def r208_10:=X q208 10
def r208_11:=X q208 11
def l208_0:CC:=(.seq (.seq (rN r208_4) (.cond (.t 17) .skip (.exit 0))) (.seq (.block 1 (.seq (.seq (rN r208_5) (.cond (.t 23) (rN r208_6) .skip)) (.seq (.seq (rN r208_7) (.cond (.t 34) (rN r208_8) .skip)) (.seq (rN r208_9) (rN r208_10))))) (rN r208_11)))
def r208_12:=X q208 12
def c208:CC:=(.seq (rN r208_0) (.seq (rN r208_1) (.seq (rN r208_2) (.seq (.seq (rN r208_3) (.block 0 (.loop l208_0))) (.seq (rN r208_12) .ret)))))
theorem o208:FnI 208 54 Tryz.f208 c208 [.tmp 4]:=oM Tryz.func208
def q209:=V (RS Tryz.f209=·)
def r209_0:=X q209 0
def r209_1:=X q209 1
def r209_2:=X q209 2
def r209_3:=X q209 3
def r209_4:=X q209 4
def r209_5:=X q209 5
def r209_6:=X q209 6
def r209_7:=X q209 7
def r209_8:=X q209 8
def r209_9:=X q209 9
def r209_10:=X q209 10
def r209_11:=X q209 11
def r209_12:=X q209 12
def l209_0:CC:=(.seq (.seq (rN r209_4) (.cond (.t 12) .skip (.exit 0))) (.seq (.block 1 (.seq (rN r209_5) (.seq (.seq (rN r209_6) (.cond (.t 19) (rN r209_7) .skip)) (.seq (rN r209_8) (.seq (rN r209_9) (.seq (rN r209_10) (.cond (.t 44) (rN r209_11) .skip))))))) (rN r209_12)))
def r209_13:=X q209 13
def c209:CC:=(.seq (rN r209_0) (.seq (rN r209_1) (.seq (rN r209_2) (.seq (.seq (rN r209_3) (.block 0 (.loop l209_0))) (.seq (rN r209_13) .ret)))))
theorem o209:FnI 209 46 Tryz.f209 c209 [.tmp 4]:=oM Tryz.func209
def q211:=V (RS Tryz.f211=·)
def r211_0:=X q211 0
def r211_1:=X q211 1
def r211_2:=X q211 2
def r211_3:=X q211 3
def r211_4:=X q211 4
def r211_5:=X q211 5
def r211_6:=X q211 6
def r211_7:=X q211 7
def r211_8:=X q211 8
def r211_9:=X q211 9
def r211_10:=X q211 10
def r211_11:=X q211 11
def l211_0:CC:=(.seq (.seq (rN r211_6) (.cond (.t 39) .skip (.exit 0))) (.seq (.block 1 (.seq (rN r211_7) (.seq (rN r211_8) (.cond (.t 57) (.seq (rN r211_9) (.reg r211_10 (some []))) .skip)))) (rN r211_11)))
def r211_12:=X q211 12
def c211:CC:=(.seq (rN r211_0) (.seq (.seq (rN r211_1) (.cond (.t 16) (.seq (rN r211_2) (.seq (.reg r211_3 (some [])) .ret)) .skip)) (.seq (rN r211_4) (.seq (.seq (rN r211_5) (.block 0 (.loop l211_0))) (.seq (rN r211_12) .ret)))))
theorem o211:FnI 211 75 Tryz.f211 c211 [.tmp 4,.tmp 5]:=oM Tryz.func211
def q214:=V (RS Tryz.f214=·)
def r214_0:=X q214 0
def r214_1:=X q214 1
def r214_2:=X q214 2
def r214_3:=X q214 3
def r214_4:=X q214 4
def r214_5:=X q214 5
def r214_6:=X q214 6
def r214_7:=X q214 7
def l214_0:CC:=(.seq (rN r214_3) (.seq (.cond (.t 11) .skip (.exit 0)) (.seq (.block 1 (.seq (rN r214_4) (.seq (rN r214_5) (rN r214_6)))) (rN r214_7))))
def r214_8:=X q214 8
def c214:CC:=(.seq (rN r214_0) (.seq (rN r214_1) (.seq (.seq (rN r214_2) (.block 0 (.loop l214_0))) (.seq (rN r214_8) .ret))))
theorem o214:FnI 214 28 Tryz.f214 c214 [.tmp 4]:=oM Tryz.func214
end
open Go.Limb
def u32s(l:List Nat):List AV:=l.map λ(n:Nat)=>AV.int .u32 (n:Int)
theorem zap(l:List Nat):(u32s l).length=l.length:=by simp[u32s]
theorem zbc(l:List Nat)(i:Nat)(h:i<l.length)(d:AV):(u32s l).getD i d= .int .u32 ((l.getD i 0:Nat):Int):=by
 simp[u32s,h]
theorem zos(l:List Nat)(n:Nat):(u32s l).take n=u32s (l.take n):=by simp[u32s,List.map_take]
theorem zet(l:List Nat)(i a:Nat):(u32s l).set i (.int .u32 (a:Int))=u32s (l.set i a):=by simp[u32s,List.map_set]
theorem zgy(l:List Nat):AV.closed.closedL (u32s l)=true:=by
 induction l with
 |nil=>rfl
 |cons d l ih=>exact ih
theorem qbs(l:List Nat)(m d:Nat)(H:Heap):(u32s l).mapM (frzI m H (d+1))=some (u32s l):=by
 refine znh (λa ha=>?_);simp only[u32s,List.mem_map]at ha;obtain⟨n,_,rfl⟩:=ha;rfl
theorem wQ{a b:Int}(h:a=b/\ -9223372036854775808<=b/\b<9223372036854775808):IntKind.i64.wrap a=b:=by
 obtain⟨rfl,h1,h2⟩:=h;simp[IntKind.wrap,IntKind.bits,IntKind.signed];omega
theorem wS1(i:Nat)(h:i<9223372036854775807):IntKind.i64.wrap ((i:Int)+1)=((i+1:Nat):Int):=wQ (by omega)
theorem w64{a:Int}(h1: -9223372036854775808<=a)(h2:a<9223372036854775808):IntKind.i64.wrap a=a:=by
 simp[IntKind.wrap,IntKind.bits,IntKind.signed];omega
def zag(z:Int)(a:AV):Prop:= ∃l c,zbp l/\l.length<=1100/\val l=z.natAbs/\a= .agg [.bool (decide (z<0)),.vec (u32s l) l.length c]
theorem qfn{n0 fr n sz bytes:Nat}{H:Heap}{cs ds:List AV}{c c':Option Nat}:zby n0 fr H sz bytes (.vec cs n c) (.vec ds 0 c')=some (.vec cs n c,[],[]):=by
 simp[zby,lenA,zdr,need]
theorem qfo{n0 fr m sz bytes:Nat}{H:Heap}{ds:List AV}{c':Option Nat}(hm:0<m)(hl:m*sz<=ds.length)(h1:4*m*bytes<=281474976710656)(h2:m<4611686018427387904):
  zby n0 fr H sz bytes (.vec [] 0 (some 0)) (.vec ds m c')=some (.sl fr 0 m sz none,[(fr,some (ds.take (m*sz)))],[]):=by
 have e1:m≠0:=by omega
 have e2:4*(0+m)*bytes<=2^48:=by rw[qL];exact h1
 have e3:0+m<2^62:=by rw[qL];exact h2
 simp only[zby,lenA,zdr,need,qR,qA,hl,and_self,if_true,e1,if_false,xR,xB,e2,e3,List.take_nil,xD,true_and];simp only[qL]
theorem zot{H:Heap}{id n:Nat}{c:Option Nat}{l:List Nat}(hb:getB H id=some (u32s l))(hn:n=l.length):AL.Fin 0 (.sl id 0 n 1 c) H (.vec (u32s l) n c) []:=by
 refine .freeze 2 _ _ _ ?_ (by intro i cs h;omega);have e:=qbs l 0 0 H;rw[frzI];simp only[yJ,if_false,hb,need,qL,xZ,hn,zap,qA,if_true,xK];rw[qJ (by rw[zap];omega),e];rfl
theorem zmx(l:List Nat)(c:Option Nat)(hl:l.length<16777216):∃c',Rt 161 [.vec (u32s l) l.length c] [] (.vec (u32s (zbf l)) (zbf l).length c') []:=by
 have key:∀{E:Env} {Q:Post},E 0= .vec (u32s l) l.length c->E 3= .int .i64 (l.length:Nat)->(∀E',E' 0= .vec (u32s l) l.length c->E' 3= .int .i64 (zfc l l.length:Nat)->Q (.exit 0) E' [])->Wg 0 22 (.loop l161_0) E [] Q:=by
  intro E Q h0 h3 hQ;refine zaf (λk E H=>k<=l.length/\zfc l k=zfc l l.length/\E 0= .vec (u32s l) l.length c/\E 3= .int .i64 (k:Nat)/\H=[]) (n:=l.length) ⟨by omega,rfl,h0,h3,rfl⟩ ?_;rintro k E H ⟨hk,ht,h0,h3,rfl⟩;refine wM ?_;cases k with
  |zero=>
   simp only[l161_0,r161_2,SS,fC,reduceCtorEq,reduceIte,qQ,h3,Int.natCast_zero,show decide ((0:Int)<0)=false from rfl];refine hQ _ ?_ ?_<;>simp only[UU,qQ, *];rw[<-ht];rfl
  |succ k=>
   have g:=zbc l k (by omega) AV.junk;have w1:IntKind.i64.wrap (((k+1:Nat):Int)-1)=(k:Nat):=wQ (by omega);have d1:decide ((0:Int)<((k+1:Nat):Int))=true:=dT;simp only[l161_0,r161_2,r161_3,SS,fC,reduceCtorEq,reduceIte,qQ,h0,h3,d1,w1,g,qW,zap];refine⟨⟨by omega,by omega⟩,by omega,λhz=>?_,λhz=>?_⟩
   ·have hz:l.getD k 0=0:=by omega
    refine⟨k,_,_,by omega,⟨by omega,?_,?_,?_,rfl⟩,.refl⟩
    ·rw[<-ht,zfc,if_pos hz]
    ·simp only[UU,qQ, *]
    ·simp only[UU,qQ,reduceIte, *]
   ·have hz:l.getD k 0≠0:=by omega
    refine hQ _ ?_ ?_
    ·simp only[UU,qQ, *]
    ·simp only[UU,qQ, *];rw[<-ht,zfc,if_neg hz]
 have hle:=zgx l l.length
 have hsl:((u32s l).drop (0*1)).take ((zfc l l.length-0)*1)=u32s (zbf l):=by
  simp only[xK,xZ,Nat.sub_zero,zos];rfl
 rcases Nat.eq_zero_or_pos (zfc l l.length)with h0 | h0
 ·have e:zbf l=[]:=by unfold zbf;rw[h0];rfl
  refine⟨some 0,?_⟩;refine oF o161 ?_;simp only[c161,r161_0,r161_1,SS,reduceCtorEq,reduceIte,qQ];refine key (by simp only[UU,qQ, *]) (by simp only[UU,qQ,reduceIte, *]) (λE' h0' h3'=>?_);simp only[r161_4,SS,reduceCtorEq,reduceIte,qQ,h0',h3',qW,zap];refine⟨by omega,⟨by omega,by omega,by omega⟩,?_⟩;rw[e,h0,Nat.zero_sub,qfn];exact⟨.inl trivial,_,rfl,.drop _ _ rfl (by intro i cs h;omega)⟩
 ·have hlen:=zfk l;refine⟨none,?_⟩;refine oF o161 ?_;simp only[c161,r161_0,r161_1,SS,reduceCtorEq,reduceIte,qQ];refine key (by simp only[UU,qQ, *]) (by simp only[UU,qQ,reduceIte, *]) (λE' h0' h3'=>?_);simp only[r161_4,SS,reduceCtorEq,reduceIte,qQ,h0',h3',qW,zap];refine⟨by omega,⟨by omega,by omega,by omega⟩,?_⟩;rw[Nat.sub_zero,zos,qfo h0 (by rw[zap,xZ];exact Nat.le_of_eq hlen.symm) (by omega) (by omega)];refine⟨.inl trivial,_,rfl,?_⟩
  have e1:(u32s (l.take (zfc l l.length))).take (zfc l l.length*1)=u32s (zbf l):=by
   rw[xZ,qJ (by rw[zap];exact Nat.le_of_eq hlen)];rfl
  rw[e1,<-hlen];exact zot rfl rfl
def sgnZ(s:Bool)(n:Nat):Int:=if s then -(n:Int)else n
theorem zft(s:Bool)(n:Nat):(sgnZ s n).natAbs=n:=by unfold sgnZ;split<;>omega
theorem zou(s:Bool)(l:List Nat)(c:Option Nat)(hd:Dig l)(hl:l.length<1048576)(hfit:val l<BIG):∃v,zag (sgnZ s (val l)) v/\Rt 184 [.bool s,.vec (u32s l) l.length c] [] v []:=by
 obtain⟨c',ht⟩:=zmx l c (by omega);have hlen:(zbf l).length<=l.length:=by rw[zfk];exact zgx _ _
 have hneg:decide (sgnZ s (val l)<0)=(if s=true then decide ((0:Int)<((zbf l).length:Nat))else false):=by
  cases s
  ·simp[sgnZ]
  ·have h1:=zkg (zaz hd);rw[zbq]at h1;simp only[sgnZ,if_true];by_cases h0:zbf l=[]
   ·rw[h0]at h1 ⊢;have:val l=0:=h1.2 rfl;simp[this]
   ·have:val l≠0:=λe=>h0 (h1.1 e)
    have:0<(zbf l).length:=List.length_pos_iff.2 h0;rw[dT,dT]
 refine⟨_,⟨zbf l,c',zaz hd,canon_len (zaz hd) (by rw[zbq];exact hfit),by rw[zbq,zft],rfl⟩,?_⟩;rw[hneg];refine oF o184 ?_;simp only[c184,r184_0,r184_1,SS,reduceCtorEq,reduceIte,qQ];refine zaa ht ?_;cases s
 ·simp only[r184_2,SS,fC,reduceCtorEq,reduceIte,qZ,qQ,qX];exact dR
 ·simp only[r184_2,SS,fC,reduceCtorEq,reduceIte,qZ,qQ,qX];exact dR
theorem zlw{z:Int}{a:AV}(h:zag z a):∃v,zag z v/\Rt 122 [a] [] v []:=by
 obtain⟨l,c,hc,hl,hv,rfl⟩:=h;obtain⟨v,hv1,hr⟩:=zou (decide (z<0)) l c hc.1 (by omega) (zfd hc.1 hl)
 have e:sgnZ (decide (z<0)) (val l)=z:=by
  rw[hv];unfold sgnZ;simp only[decide_eq_true_eq];split<;>omega
 rw[e]at hv1;obtain⟨l',c',_,_,_,rfl⟩:=hv1;refine⟨_,⟨l',c',by assumption,by assumption,by assumption,rfl⟩,?_⟩;refine oF o122 ?_;simp only[c122,r122_0,r122_1,SS,fC,reduceCtorEq,reduceIte,qZ,qQ,qX];refine zaa hr ?_;simp only[SS,reduceIte,qZ,qQ,qX];exact dR
theorem zNeg{z:Int}{a:AV}(h:zag z a):∃v,zag (-z) v/\Rt 126 [a] [] v []:=by
 obtain⟨l,c,hc,hl,hv,rfl⟩:=h;obtain⟨v,hv1,hr⟩:=zou (!decide (z<0)) l c hc.1 (by omega) (zfd hc.1 hl)
 have e:sgnZ (!decide (z<0)) (val l)= -z:=by
  rw[hv];unfold sgnZ;simp only[Bool.not_eq_true',decide_eq_false_iff_not];split<;>omega
 rw[e]at hv1;obtain⟨l',c',_,_,_,rfl⟩:=hv1;refine⟨_,⟨l',c',by assumption,by assumption,by assumption,rfl⟩,?_⟩;refine oF o126 ?_;simp only[c126,r126_0,r126_1,SS,fC,reduceCtorEq,reduceIte,qZ,qQ,qX];refine zaa hr ?_;simp only[SS,reduceIte,qZ,qQ,qX];exact dR
theorem zAbs{z:Int}{a:AV}(h:zag z a):∃v,zag (z.natAbs:Int) v/\Rt 187 [a] [] v []:=by
 obtain⟨l,c,hc,hl,hv,rfl⟩:=h;obtain⟨v,hv1,hr⟩:=zou false l c hc.1 (by omega) (zfd hc.1 hl);have e:sgnZ false (val l)=(z.natAbs:Int):=by rw[hv];rfl
 rw[e]at hv1;obtain⟨l',c',_,_,_,rfl⟩:=hv1;refine⟨_,⟨l',c',by assumption,by assumption,by assumption,rfl⟩,?_⟩;refine oF o187 ?_;simp only[c187,r187_0,r187_1,SS,fC,reduceCtorEq,reduceIte,qZ,qQ,qX];refine zaa hr ?_;simp only[SS,reduceIte,qZ,qQ,qX];exact dR
theorem zwb{z:Int}{a:AV}(h:zag z a):Rt 149 [a] [] (.int .i64 z.sign) []:=by
 obtain⟨l,c,hc,hl,hv,rfl⟩:=h;obtain⟨c',ht⟩:=zmx l c (by omega);have h1:=zkg (zaz hc.1);rw[zbq,hv]at h1;refine oF o149 ?_;simp only[c149,r149_0,r149_1,SS,fC,reduceCtorEq,reduceIte,qZ,qQ,qX];refine zaa ht ?_;simp only[SS,reduceIte,qQ];refine⟨λh0=>?_,λh0=>?_⟩
 ·have:z=0:=by
   have:=h1.2 (List.length_eq_zero_iff.1 (by omega));omega
  subst this;simp only[r149_2,SS];exact dR
 ·have:z≠0:=by
   intro e;have:=h1.1 (by omega);rw[this]at h0;simp at h0
  simp only[r149_3,SS,fC,reduceIte,qZ,qQ,qX];refine⟨λh2=>?_,λh2=>?_⟩
  ·rw[qD h2];simp only[r149_4,SS];exact dR
  ·rw[qO (by omega)];simp only[r149_5,SS];exact dR
theorem wu32(x:Nat):IntKind.u32.wrap (x:Int)=((x%4294967296:Nat):Int):=by
 simp[IntKind.wrap,IntKind.bits,IntKind.signed]
theorem wu64(x:Nat):IntKind.u64.wrap (x:Int)=((x%18446744073709551616:Nat):Int):=by
 simp[IntKind.wrap,IntKind.bits,IntKind.signed]
theorem zdl{x:Nat}(h:x<18446744073709551616):IntKind.u64.wrap (x:Int)=(x:Int):=by
 rw[wu64,qH h]
theorem zzj{x:Nat}(h:x<4294967296):IntKind.u32.wrap (x:Int)=(x:Int):=by
 rw[wu32,qH h]
theorem zzk(x:Nat):Int.fdiv (x:Int) (2^min (Int.toNat 32) IntKind.u64.bits)=((x/4294967296:Nat):Int):=by
 show Int.fdiv (x:Int) 4294967296=_
 rw[Int.fdiv_eq_ediv_of_nonneg _ (by decide)];omega
theorem qra(s:Bool)(u:Nat)(hu:u<18446744073709551616):∃v,zag (sgnZ s u) v/\Rt 152 [.bool s,.int .u64 u] [] v []:=by
 have hd:Dig [u%4294967296,u/4294967296]:=Dig.cons (xV _ (by decide)) (Dig.cons (by omega) Dig.nil);have e:val [u%4294967296,u/4294967296]=u:=by simp only[Limb.val];omega
 obtain⟨v,hv,hr⟩:=zou s [u%4294967296,u/4294967296] (some 2) hd (by simp) (by rw[e];exact zgi (by omega));rw[e]at hv;obtain⟨l',c',_,_,_,rfl⟩:=hv;refine⟨_,⟨l',c',by assumption,by assumption,by assumption,rfl⟩,?_⟩;refine oF o152 ?_;simp only[c152,r152_0,r152_1,SS,reduceCtorEq,reduceIte,qZ,qQ,qX,zzk,wu32,zzj (show u/4294967296<4294967296 by omega)];refine⟨by omega,?_⟩;refine zgg (id:=1) (cs:=u32s [u%4294967296,u/4294967296]) (d:=2) (args0:=[.bool s,.sl 0 0 2 1 (some 2)]) hr ?_ ?_ ?_ ?_
 ·rfl
 ·rfl
 ·rfl
 simp only[zay,zad,xM,yK,SS,reduceIte,qZ,qQ,qX];exact dR
theorem zfb(n:Int)(h1: -9223372036854775808<=n)(h2:n<9223372036854775808):∃v,zag n v/\Rt 87 [.int .i64 n] [] v []:=by
 by_cases hn:n<0
 ·obtain⟨k,hk⟩:∃k:Nat,n= -(k:Int):=⟨n.natAbs,by omega⟩
  subst hk;obtain⟨v,hv,hr⟩:=qra true k (by omega);have e:sgnZ true k= -(k:Int):=rfl;rw[e]at hv;obtain⟨l',c',_,_,_,rfl⟩:=hv;refine⟨_,⟨l',c',by assumption,by assumption,by assumption,rfl⟩,?_⟩
  have w1:IntKind.u64.wrap (-(k:Int))=((18446744073709551616-k:Nat):Int):=by
   simp[IntKind.wrap,IntKind.bits,IntKind.signed];omega
  have w2:IntKind.u64.wrap (0-((18446744073709551616-k:Nat):Int))=(k:Nat):=by
   simp[IntKind.wrap,IntKind.bits,IntKind.signed];omega
  refine oF o87 ?_;simp only[c87,r87_0,r87_1,SS,reduceCtorEq,reduceIte,qQ];refine⟨λ_=>?_,λh=>absurd hn h⟩;simp only[r87_2,SS,reduceCtorEq,reduceIte,qQ,w1,w2];refine zaa hr ?_;simp only[SS,reduceIte,qZ,qQ,qX];exact dR
 ·obtain⟨k,rfl⟩:∃k:Nat,n=(k:Int):=⟨n.toNat,by omega⟩
  obtain⟨v,hv,hr⟩:=qra false k (by omega);have e:sgnZ false k=(k:Int):=rfl;rw[e]at hv;obtain⟨l',c',_,_,_,rfl⟩:=hv;refine⟨_,⟨l',c',by assumption,by assumption,by assumption,rfl⟩,?_⟩;refine oF o87 ?_;simp only[c87,r87_0,r87_1,SS,reduceCtorEq,reduceIte,qQ];refine⟨λh=>absurd h hn,λ_=>?_⟩;simp only[r87_3,SS,reduceCtorEq,reduceIte,qQ,zdl (show k<18446744073709551616 by omega)];refine zaa hr ?_;simp only[SS,reduceIte,qZ,qQ,qX];exact dR
theorem zcmp(m n:List Nat)(c d:Option Nat)(hm:m.length<16777216)(hn:n.length<16777216):Rt 88 [.vec (u32s m) m.length c,.vec (u32s n) n.length d] [] (.int .i64 (cmpL m n)) []:=by
 refine oF o88 ?_;simp only[c88,r88_0,r88_1,SS,reduceCtorEq,reduceIte,qQ,ne_eq,Int.ofNat_inj];refine⟨λh=>?_,λh=>?_⟩
 ·simp only[r88_2,SS,reduceCtorEq,reduceIte,qQ];refine⟨λh2=>?_,λh2=>?_⟩
  ·have e:cmpL m n= -1:=by unfold cmpL;rw[if_neg h,if_pos (by omega)]
   rw[e];simp only[r88_3,SS];exact dR
  ·have e:cmpL m n=1:=by unfold cmpL;rw[if_neg h,if_neg (by omega)]
   rw[e];simp only[r88_4,SS];exact dR
 ·have h:m.length=n.length:=by simpa using h
  have e:cmpL m n=cmpN m n m.length:=by unfold cmpL;rw[if_pos h]
  rw[e];simp only[r88_5,SS,reduceCtorEq,reduceIte,qQ];refine zaf (λk E H=>k<=m.length/\cmpN m n k=cmpN m n m.length/\E 0= .vec (u32s m) m.length c/\E 1= .vec (u32s n) n.length d/\E 5= .int .i64 ((k:Int)-1)/\H=[]) (n:=m.length) ⟨by omega,rfl,?_,?_,?_,rfl⟩ ?_
  ·simp only[UU,qQ]
  ·simp only[UU,qQ]
  ·simp only[UU,qQ,reduceIte];rw[w64 (by omega) (by omega)]
  rintro k E H ⟨hk,ht,h0,h1,h5,rfl⟩;refine wM ?_;simp only[l88_0,r88_6,SS,reduceCtorEq,reduceIte,qQ,h5];refine⟨λhge=>?_,λhlt=>?_⟩
  ·obtain⟨k,rfl⟩:∃j,k=j+1:=⟨k-1,by omega⟩
   have e5:((k+1:Nat):Int)-1=(k:Nat):=by omega
   rw[e5]at h5;have g1:=zbc m k (by omega) AV.junk;have g2:=zbc n k (by omega) AV.junk;simp only[cmpN]at ht;simp only[r88_7,SS,fC,reduceCtorEq,reduceIte,qQ,e5,h0,h1,h5,qW,g1,g2,zap];refine⟨⟨by omega,by omega⟩,by omega,⟨by omega,by omega⟩,by omega,rfl,λhne=>?_,λheq=>?_⟩
   ·have hne:m.getD k 0≠n.getD k 0:=by omega
    rw[if_neg hne]at ht;simp only[r88_8,SS,fC,reduceCtorEq,reduceIte,qQ,h0,h1,h5,qW,g1,g2,zap];refine⟨⟨by omega,by omega⟩,by omega,⟨by omega,by omega⟩,by omega,rfl,λhl=>?_,λhl=>?_⟩
    ·rw[if_pos (by omega)]at ht;rw[<-ht];simp only[r88_9,SS];exact dR
    ·rw[if_neg (by omega)]at ht;rw[<-ht];simp only[r88_10,SS];exact dR
   ·have heq:m.getD k 0=n.getD k 0:=by omega
    rw[if_pos heq]at ht;simp only[r88_11,SS,reduceIte,qQ,h5];refine⟨k,_,_,by omega,⟨by omega,ht,?_,?_,?_,rfl⟩,.refl⟩
    ·simp only[UU,qQ, *]
    ·simp only[UU,qQ, *]
    ·simp only[UU,qQ,reduceIte];rw[w64 (by omega) (by omega)]
  ·have hk0:k=0:=by omega
   subst hk0;rw[<-ht];simp only[r88_12,SS];exact dR
theorem zCmp{x y:Int}{a b:AV}(ha:zag x a)(hb:zag y b):Rt 121 [a,b] [] (.int .i64 (if x<y then -1 else if x=y then 0 else 1)) []:=by
 have s1:=zwb ha;have s2:=zwb hb;obtain⟨l,c,hc,hl,hv,rfl⟩:=ha;obtain⟨r,d,hd,hlr,hw,rfl⟩:=hb;obtain⟨c1,t1⟩:=zmx l c (by omega);obtain⟨c2,t2⟩:=zmx r d (by omega);have l1:(zbf l).length<=l.length:=by rw[zfk];exact zgx _ _
 have l2:(zbf r).length<=r.length:=by rw[zfk];exact zgx _ _
 have t3:=zcmp (zbf l) (zbf r) c1 c2 (by omega) (by omega);rw[zel (zaz hc.1) (zaz hd.1),zbq,zbq,hv,hw]at t3;refine oF o121 ?_;simp only[c121,r121_0,r121_1,SS,reduceCtorEq,reduceIte,qZ,qQ,qX];refine zaa s1 ?_;simp only[SS,reduceIte,qZ,qQ,qX];refine zaa s2 ?_;simp only[SS,reduceIte,qQ];refine⟨rfl,?_⟩;simp only[r121_2,SS,reduceIte,qQ];refine⟨λhne=>?_,λheq=>?_⟩
 ·simp only[r121_3,SS,reduceIte,qQ];refine⟨λhl=>?_,λhl=>?_⟩
  ·rw[if_pos (by
    rcases qV x 0 with h | h | h<;>rcases qV y 0 with h' | h' | h'<;>
     simp[qD,qO,h,h']at hl<;>omega)]
   simp only[r121_4,SS];exact dR
  ·rw[if_neg (by
    rcases qV x 0 with h | h | h<;>rcases qV y 0 with h' | h' | h'<;>
     simp[qD,qO,h,h']at hl hne<;>omega),if_neg (by intro e;rw[e]at hne;exact hne rfl)]
   simp only[r121_5,SS];exact dR
 ·have heq:x.sign=y.sign:=by simpa using heq
  simp only[r121_6,SS,fC,reduceIte,qZ,qQ,qX];refine zaa t1 ?_;simp only[SS,fC,reduceIte,qZ,qQ,qX];refine zaa t2 ?_;simp only[SS,reduceIte,qQ];refine zaa t3 ?_
  have e:IntKind.i64.wrap (x.sign*sgn x.natAbs y.natAbs)=(if x<y then -1 else if x=y then 0 else 1):=by
   have e1:x.sign*sgn x.natAbs y.natAbs=(if x<y then -1 else if x=y then 0 else 1):=by
    unfold sgn
    rcases qV x 0 with h | h | h<;>rcases qV y 0 with h' | h' | h'<;>
     simp[qD,qO,h,h']at heq ⊢ <;> (repeat' split)<;>omega
   rw[e1];split
   ·rfl
   ·split<;>rfl
  simp only[SS,reduceIte,qQ,e];refine⟨rfl,?_⟩;exact dR
def zzl(B:Heap)(sz n:Nat)(cs:List AV)(a:AV)(H:Heap):Prop:=
 (n=0/\cs=[]/\a= .vec [] 0 (some 0)/\∃j,H=B++List.replicate j none)\/
 (0<n/\cs.length=n*sz/\∃j,a= .sl (B.length+j) 0 n sz none/\H=B++(List.replicate j none++[some cs]))
theorem ztg(j:Nat)(x:Option (List AV))(r:Heap)(hx:x=none):List.replicate j (none:Option (List AV))++x::r=List.replicate (j+1) none++r:=by
 subst hx;rw[List.replicate_succ',List.append_assoc];rfl
theorem zov{B:Heap}{sz n bytes:Nat}{cs xs:List AV}{a:AV}{H:Heap}(h:zzl B sz n cs a H)(hx:xs.length=sz)(hs:AV.scalL xs=true)(hb:4*(n+1)*bytes<=281474976710656)(hn:n+1<4611686018427387904):
  ∃e rd H4 H5,(∀n0,zby n0 (H.length+1) (H++[some xs]) sz bytes a (.sl H.length 0 1 sz (some 1))=some (.sl (H.length+1) 0 (n+1) sz none,e,rd))/\zad e (H++[some xs]++[none])=H4/\getB H4 (H.length+1)=some (cs++xs)/\
   (∀(Γ:Glob) (n0:Nat) (E:Env),n0<=B.length->Weak Γ n0 E H4 E H5)/\zzl B sz (n+1) (cs++xs) (.sl (H.length+1) 0 (n+1) sz none) H5:=by
 have hg:getB (H++[some xs]) H.length=some xs:=by
  simp[getB]
 have b1:4*(n+1)*bytes<=2^48:=hb;have b2:n+1<2^62:=hn;have hxs:(xs.drop 0).take (1*sz)=xs:=by rw[xK,xH,qJ (by omega)]
 have hel:zdr (H++[some xs]) sz 1 (.sl H.length 0 1 sz (some 1))=some (xs,[H.length]):=by
  simp only[zdr,hg,need,qA,qL,xH,hx,and_self,if_true];rw[xK,qJ (by omega)]
 rcases h with⟨rfl,rfl,rfl,j,rfl⟩ | ⟨h0,hl,j,rfl,rfl⟩
 ·refine⟨[((B++List.replicate j none).length+1,some xs)],[(B++List.replicate j none).length],_,B++(List.replicate (j+1) none++[some xs]),λn0=>?_,rfl,?_,λΓ n0 E hn0=>?_,?_⟩
  ·simp only[zby,lenA,qR,hel];have b1':4*(0+1)*bytes<=2^48:=hb;simp only[need,yW,if_false,xR,xB,b1',b2,and_self,if_true,xU,xD]
  ·simp only[zad];have:B++List.replicate j none++[some xs]++[none]=(B++List.replicate j none)++[some xs,none]:=by simp
   rw[this,qU _ _ (by omega),xJ];unfold getB;rw[qY (by omega),xJ];rfl
  ·have e1:zad [((B++List.replicate j none).length+1,some xs)] (B++List.replicate j none++[some xs]++[none])=(B++List.replicate j none)++[some xs,some xs]:=by
    simp only[zad];have:B++List.replicate j none++[some xs]++[none]=(B++List.replicate j none)++[some xs,none]:=by simp
    rw[this,qU _ _ (by omega),xJ];rfl
   rw[e1]
   have e2:B++(List.replicate (j+1) none++[some xs])=(B++List.replicate j none)++[none,some xs]:=by
    rw[<-ztg j none _ rfl];simp
   rw[e2];refine zvy (by simp) (λi=>?_);rcases qN i (B++List.replicate j (none:Option (List AV))).length with hi | hi
   ·left;rw[qE hi,qE hi]
   ·rw[qY hi,qY hi];have:n0<=i:=by simp at hi;omega
    generalize i-(B++List.replicate j (none:Option (List AV))).length=k
    match k with
    |0=>exact .inr ⟨this,rfl⟩
    |k+1=>exact .inl rfl
  ·refine .inr ⟨by omega,by simp;omega,j+1,?_,rfl⟩;simp[Nat.add_assoc]
 ·have hj:getB (B++(List.replicate j none++[some cs])++[some xs]) (B.length+j)=some cs:=by
   have:B++(List.replicate j none++[some cs])++[some xs]=(B++List.replicate j none)++(some cs::[some xs]):=by simp
   rw[this];simp[getB]
  have hlen:(B++(List.replicate j none++[some cs])).length=B.length+j+1:=by simp;omega
  refine⟨[(B.length+j,none),(B.length+j+1+1,some (cs++xs))],[B.length+j,B.length+j+1],_,B++(List.replicate (j+2) none++[some (cs++xs)]),λn0=>?_,rfl,?_,λΓ n0 E hn0=>?_,?_⟩
  ·simp only[zby,lenA,qR,hel,hj];have e1:¬((none:Option Nat)=some n):=by simp
   have e2:B.length+j≠B.length+j+1+1:=by omega
   rw[hlen];simp only[need,yW,if_false,hl,qA,b1,b2,and_self,if_true,e1,xB,hs,e2,ne_eq,not_false_eq_true];rw[qJ (by omega)]
  ·simp only[zad];have:B++(List.replicate j none++[some cs])++[some xs]++[none]=(B++List.replicate j none)++[some cs,some xs,none]:=by simp
   rw[this,hlen,qU _ _ (by simp),qU _ _ (by simp;omega)];have k1:B.length+j-(B++List.replicate j (none:Option (List AV))).length=0:=by simp
   have k2:B.length+j+1+1-(B++List.replicate j (none:Option (List AV))).length=2:=by simp;omega
   rw[k1,k2];unfold getB;rw[qY (by simp;omega),k2];rfl
  ·have e1:zad [(B.length+j,none),(B.length+j+1+1,some (cs++xs))] (B++(List.replicate j none++[some cs])++[some xs]++[none])=(B++List.replicate j none)++[none,some xs,some (cs++xs)]:=by
    simp only[zad];have:B++(List.replicate j none++[some cs])++[some xs]++[none]=(B++List.replicate j none)++[some cs,some xs,none]:=by simp
    rw[this,qU _ _ (by simp),qU _ _ (by simp;omega)];have k1:B.length+j-(B++List.replicate j (none:Option (List AV))).length=0:=by simp
    have k2:B.length+j+1+1-(B++List.replicate j (none:Option (List AV))).length=2:=by simp;omega
    rw[k1,k2];rfl
   rw[e1]
   have e2:B++(List.replicate (j+2) none++[some (cs++xs)])=(B++List.replicate j none)++[none,none,some (cs++xs)]:=by
    rw[<-ztg (j+1) none _ rfl,<-ztg j none _ rfl];simp
   rw[e2];refine zvy (by simp) (λi=>?_);rcases qN i (B++List.replicate j (none:Option (List AV))).length with hi | hi
   ·left;rw[qE hi,qE hi]
   ·rw[qY hi,qY hi];have:n0<=i:=by simp at hi;omega
    generalize i-(B++List.replicate j (none:Option (List AV))).length=k
    match k with
    |0=>exact .inl rfl
    |1=>exact .inr ⟨this,rfl⟩
    |k+2=>exact .inl rfl
  ·refine .inr ⟨by omega,by rw[List.length_append,hl,hx,Nat.add_mul,xH],j+2,?_,rfl⟩;rw[hlen];rfl
theorem zow{l:List Nat}{i:Nat}(h:l.length<=i):l.getD i 0=0:=by
 rw[qK,xE h];rfl
theorem zdi{α:Type}(H:List α)(x:α):(H++[x]).length=H.length+1:=by simp
theorem qrb{x y:Nat}(hx:x<4294967296)(hy:y<=4294967296):IntKind.u32.wrap (IntKind.u64.wrap ((x:Int)-(y:Int)))=(((x+8589934592-y)%4294967296:Nat):Int):=by
 simp[IntKind.wrap,IntKind.bits,IntKind.signed];omega
theorem zsum(m n:List Nat)(c d:Option Nat)(hm:m.length<1048576)(hn:n.length<1048576)(dm:Dig m)(dn:Dig n):
  ∃c',Rt 208 [.vec (u32s m) m.length c,.vec (u32s n) n.length d] [] (.vec (u32s (sumL m n (max m.length n.length) 0 0 [])) (sumL m n (max m.length n.length) 0 0 []).length c') []:=by
 refine⟨none,?_⟩;refine oF o208 ?_;generalize hfin:sumL m n (max m.length n.length) 0 0 []=fin;simp only[c208,r208_0,r208_1,r208_2,r208_3,SS,reduceCtorEq]
 refine zaf (λk E H=>∃i cy out a,k+i=max m.length n.length/\out.length=i/\cy<=1/\sumL m n k i cy out=fin/\E 0= .vec (u32s m) m.length c/\E 1= .vec (u32s n) n.length d/\
  E 5=a/\E 6= .int .u64 (cy:Nat)/\E 7= .int .i64 (i:Nat)/\zzl [] 1 i (u32s out) a H) (n:=max m.length n.length) ⟨0,0,[],_,by omega,rfl,by omega,hfin,?_,?_,rfl,?_,?_,.inl ⟨rfl,rfl,?_,0,rfl⟩⟩ ?_
 ·simp only[UU,qQ]
 ·simp only[UU,qQ]
 ·simp only[UU,qQ,reduceIte];rfl
 ·simp only[UU,qQ,reduceIte];rfl
 ·simp only[UU,qQ,reduceIte]
 rintro k E H ⟨i,cy,out,a,hki,hol,hcy,hf,h0,h1,h5,h6,h7,hO⟩;have hx:∃t,decide ((i:Int)<(m.length:Nat))=t:=⟨_,rfl⟩
 have bm:=dm.getD i;have bn:=dn.getD i;cases k with
 |zero=>
  refine wM ?_;have d1:decide ((i:Int)<(m.length:Nat))=false:=dF;have d2:decide ((i:Int)<(n.length:Nat))=false:=dF;simp only[l208_0,r208_4,SS,fC,reduceCtorEq,reduceIte,qQ,h0,h1,h7,d1,d2];simp only[sumL]at hf;obtain⟨e,rd,H4,H5,hap,hH4,hg,hw,hO'⟩:=zov (bytes:=4) (xs:=[.int .u32 ((cy%4294967296:Nat):Int)]) hO rfl rfl (by omega) (by omega);simp only[r208_12,SS,reduceIte,qQ,qX,h5,h6,wu32,zdi,hap];refine⟨.inl trivial,_,rfl,?_⟩;have e1:u32s out++[.int .u32 ((cy%4294967296:Nat):Int)]=u32s fin:=by rw[<-hf];simp[u32s]
  rw[e1]at hg;have hfl:fin.length=i+1:=by rw[<-hf];simp[hol]
  rw[hfl];refine zot ?_ hfl.symm;rw[hH4];exact hg
 |succ k=>
  have step9:∀E':Env,E' 0= .vec (u32s m) m.length c->E' 1= .vec (u32s n) n.length d->E' 5=a->E' 6= .int .u64 ((cy+m.getD i 0+n.getD i 0:Nat):Int)->E' 7= .int .i64 (i:Nat)->
    Wg 0 54 (.seq (.reg r208_9 none) (.reg r208_10 none)) E' H (λx E'' H''=>x= .normal/\E'' 0= .vec (u32s m) m.length c/\E'' 1= .vec (u32s n) n.length d/\E'' 7= .int .i64 (i:Nat)/\E'' 6= .int .u64 (((cy+m.getD i 0+n.getD i 0)/4294967296:Nat):Int)/\
     ∃H5,(∀E3,Weak G 0 E3 H'' E3 H5)/\zzl [] 1 (i+1) (u32s (out++[(cy+m.getD i 0+n.getD i 0)%4294967296])) (E'' 5) H5):=by
   intro E' g0 g1 g5 g6 g7;obtain⟨e,rd,H4,H5,hap,hH4,hg,hw,hO'⟩:=zov (bytes:=4) (xs:=[.int .u32 (((cy+m.getD i 0+n.getD i 0)%4294967296:Nat):Int)]) hO rfl rfl (by omega) (by omega);refine wM ?_;simp only[r208_9,SS,reduceIte,qQ,qX,g5,g6,wu32,zdi,hap];simp only[r208_10,SS,reduceCtorEq,reduceIte,qQ,zzk,g0,g1,g7,g6];refine⟨by omega,?_⟩;rw[hH4];refine⟨H5,λE3=>hw _ _ _ (by simp),?_⟩;have e1:u32s out++[.int .u32 (((cy+m.getD i 0+n.getD i 0)%4294967296:Nat):Int)]=u32s (out++[(cy+m.getD i 0+n.getD i 0)%4294967296]):=by simp[u32s]
   rw[e1]at hO';exact hO'
  have st1:∀E':Env,E' 0= .vec (u32s m) m.length c->E' 1= .vec (u32s n) n.length d->E' 5=a->E' 6= .int .u64 (cy:Nat)->E' 7= .int .i64 (i:Nat)->
    Wg 0 54 (.seq (.reg r208_5 none) (.cond (.t 23) (.reg r208_6 none) .skip)) E' H (λx E'' H''=>x= .normal/\H''=H/\E'' 0= .vec (u32s m) m.length c/\E'' 1= .vec (u32s n) n.length d/\E'' 5=a/\E'' 6= .int .u64 ((cy+m.getD i 0:Nat):Int)/\E'' 7= .int .i64 (i:Nat)):=by
   intro E' g0 g1 g5 g6 g7;refine wM ?_;simp only[r208_5,SS,reduceCtorEq,reduceIte,qQ,g0,g7];refine⟨λhl=>?_,λhl=>?_⟩
   ·have g:=zbc m i (by omega) AV.junk;have w1:IntKind.u64.wrap ((cy:Int)+((m.getD i 0:Nat):Int))=((cy+m.getD i 0:Nat):Int):=by rw[<-qB];exact zdl (by omega)
    simp only[r208_6,SS,fC,reduceCtorEq,reduceIte,qQ,g0,g1,g5,g6,g7,qW,g,zap,zdl (show m.getD i 0<18446744073709551616 by omega),w1];exact⟨⟨by omega,hl⟩,by omega⟩
   ·simp only[g1,g5,g6,zow (show m.length<=i by omega),xQ,and_self]
  have st2:∀E':Env,E' 0= .vec (u32s m) m.length c->E' 1= .vec (u32s n) n.length d->E' 5=a->E' 6= .int .u64 ((cy+m.getD i 0:Nat):Int)->E' 7= .int .i64 (i:Nat)->
    Wg 0 54 (.seq (.reg r208_7 none) (.cond (.t 34) (.reg r208_8 none) .skip)) E' H (λx E'' H''=>x= .normal/\H''=H/\E'' 0= .vec (u32s m) m.length c/\E'' 1= .vec (u32s n) n.length d/\E'' 5=a/\E'' 6= .int .u64 ((cy+m.getD i 0+n.getD i 0:Nat):Int)/\E'' 7= .int .i64 (i:Nat)):=by
   intro E' g0 g1 g5 g6 g7;refine wM ?_;simp only[r208_7,SS,reduceCtorEq,reduceIte,qQ,g1,g7];refine⟨λhl=>?_,λhl=>?_⟩
   ·have g:=zbc n i (by omega) AV.junk;have w1:IntKind.u64.wrap (((cy+m.getD i 0:Nat):Int)+((n.getD i 0:Nat):Int))=((cy+m.getD i 0+n.getD i 0:Nat):Int):=by rw[<-qB];exact zdl (by omega)
    simp only[r208_8,SS,fC,reduceCtorEq,reduceIte,qQ,g0,g1,g5,g6,g7,qW,g,zap,zdl (show n.getD i 0<18446744073709551616 by omega),w1];exact⟨⟨by omega,hl⟩,by omega⟩
   ·simp only[g0,g5,g6,zow (show n.length<=i by omega),xQ,and_self]
  have hor:(if decide ((i:Int)<(m.length:Nat))=true then AV.bool true else AV.bool (decide ((i:Int)<(n.length:Nat))))= .bool true:=by
   by_cases h:(i:Int)<(m.length:Nat)
   ·rw[if_pos (decide_eq_true h)]
   ·rw[if_neg (by simp at h ⊢;exact h),dT]
  have tail:∀E':Env,E' 0= .vec (u32s m) m.length c->E' 1= .vec (u32s n) n.length d->E' 5=a->E' 6= .int .u64 (cy:Nat)->E' 7= .int .i64 (i:Nat)->
    Wg 0 54 (.seq (.block 1 (.seq (.seq (.reg r208_5 none) (.cond (.t 23) (.reg r208_6 none) .skip)) (.seq (.seq (.reg r208_7 none) (.cond (.t 34) (.reg r208_8 none) .skip)) (.seq (.reg r208_9 none) (.reg r208_10 none))))) (.reg r208_11 none)) E' H
     (λx E'' H''=>x= .normal/\E'' 0= .vec (u32s m) m.length c/\E'' 1= .vec (u32s n) n.length d/\E'' 7= .int .i64 ((i+1:Nat):Int)/\E'' 6= .int .u64 (((cy+m.getD i 0+n.getD i 0)/4294967296:Nat):Int)/\
     ∃H5,(∀E3,Weak G 0 E3 H'' E3 H5)/\zzl [] 1 (i+1) (u32s (out++[(cy+m.getD i 0+n.getD i 0)%4294967296])) (E'' 5) H5):=by
   intro E' g0 g1 g5 g6 g7;refine zkf (zoi (zkf ((st1 E' g0 g1 g5 g6 g7).mono ?_)));rintro x E1 H1 ⟨rfl,rfl,a0,a1,a5,a6,a7⟩;refine zkf ((st2 E1 a0 a1 a5 a6 a7).mono ?_);rintro x E2 H2 ⟨rfl,rfl,b0,b1,b5,b6,b7⟩;refine(step9 E2 b0 b1 b5 b6 b7).mono ?_;rintro x E3 H3 ⟨rfl,c0,c1,c7,c6,H5,hw,hO'⟩;refine wM ?_;have w1:=wS1 i (by omega);simp only[r208_11,SS,reduceCtorEq,reduceIte,qQ,c0,c1,c7,c6,w1];exact⟨H5,hw,hO'⟩
  simp only[l208_0];refine wW ?_;simp only[r208_4,SS,fC,reduceCtorEq,reduceIte,qQ,h0,h1,h7];refine⟨λhnm=>⟨λhn=>?_,λhnn=>absurd hnn (by omega)⟩,λhm=>?_⟩
  all_goals
   refine(tail _ (by simp only[UU,qQ,h0]) (by simp only[UU,qQ,h1]) (by simp only[UU,qQ,h5]) (by simp only[UU,qQ,h6]) (by simp only[UU,qQ,h7])).mono ?_;rintro x E3 H3 ⟨rfl,c0,c1,c7,c6,H5,hw,hO'⟩;refine⟨k,E3,H5,by omega,⟨i+1,_,_,_,by omega,by simp[hol],?_,hf,c0,c1,rfl,c6,c7,hO'⟩,hw E3⟩;omega
theorem zjn(m n:List Nat)(c d:Option Nat)(hm:m.length<1048576)(hn:n.length<=m.length)(dm:Dig m)(dn:Dig n):
  ∃c',Rt 209 [.vec (u32s m) m.length c,.vec (u32s n) n.length d] [] (.vec (u32s (difL m n m.length 0 0 [])) (difL m n m.length 0 0 []).length c') []:=by
 have hlen:∀k i b out,(difL m n k i b out).length=k+out.length:=by
  intro k
  induction k with
  |zero=>intro i b out;simp[difL]
  |succ k ih=>intro i b out;simp only[difL];rw[ih];simp;omega
 refine⟨if m.length=0 then some 0 else none,?_⟩;refine oF o209 ?_;generalize hfin:difL m n m.length 0 0 []=fin;have hfl:fin.length=m.length:=by rw[<-hfin,hlen];simp
 simp only[c209,r209_0,r209_1,r209_2,r209_3,SS,reduceCtorEq]
 refine zaf (λk E H=>∃i b out a,k+i=m.length/\out.length=i/\b<=1/\difL m n k i b out=fin/\E 0= .vec (u32s m) m.length c/\E 1= .vec (u32s n) n.length d/\
  E 5=a/\E 6= .int .u64 (b:Nat)/\E 7= .int .i64 (i:Nat)/\zzl [] 1 i (u32s out) a H) (n:=m.length) ⟨0,0,[],_,by omega,rfl,by omega,hfin,?_,?_,rfl,?_,?_,.inl ⟨rfl,rfl,?_,0,rfl⟩⟩ ?_
 ·simp only[UU,qQ]
 ·simp only[UU,qQ]
 ·simp only[UU,qQ,reduceIte];rfl
 ·simp only[UU,qQ,reduceIte];rfl
 ·simp only[UU,qQ,reduceIte]
 rintro k E H ⟨i,b,out,a,hki,hol,hb,hf,h0,h1,h5,h6,h7,hO⟩;have bm:=dm.getD i;have bn:=dn.getD i;cases k with
 |zero=>
  refine wM ?_;have d1:decide ((i:Int)<(m.length:Nat))=false:=dF;have hf:out=fin:=hf;subst hf;simp only[l209_0,r209_4,SS,fC,reduceCtorEq,reduceIte,qQ,h0,h7,d1];simp only[r209_13,SS,reduceIte,qQ,h5];refine⟨.inl trivial,_,rfl,?_⟩;rcases hO with⟨rfl,h9,rfl,j,rfl⟩ | ⟨hi,hl,j,rfl,rfl⟩
  ·have:m.length=0:=by omega
   have:out=[]:=List.length_eq_zero_iff.1 hol;subst this;rw[if_pos (by omega)];exact .drop _ _ rfl (by intro i cs h;omega)
  ·rw[if_neg (by omega),hol];refine zot ?_ hol.symm;simp[getB]
 |succ k=>
  simp only[difL]at hf
  have st6:∀E':Env,E' 0= .vec (u32s m) m.length c->E' 1= .vec (u32s n) n.length d->E' 5=a->E' 8= .int .u64 (b:Nat)->E' 7= .int .i64 (i:Nat)->
    Wg 0 46 (.seq (.reg r209_6 none) (.cond (.t 19) (.reg r209_7 none) .skip)) E' H (λx E'' H''=>x= .normal/\H''=H/\E'' 0= .vec (u32s m) m.length c/\E'' 1= .vec (u32s n) n.length d/\E'' 5=a/\E'' 8= .int .u64 ((b+n.getD i 0:Nat):Int)/\E'' 7= .int .i64 (i:Nat)):=by
   intro E' g0 g1 g5 g8 g7;refine wM ?_;simp only[r209_6,SS,reduceCtorEq,reduceIte,qQ,g1,g7];refine⟨λhl=>?_,λhl=>?_⟩
   ·have g:=zbc n i (by omega) AV.junk;have w1:IntKind.u64.wrap ((b:Int)+((n.getD i 0:Nat):Int))=((b+n.getD i 0:Nat):Int):=by rw[<-qB];exact zdl (by omega)
    simp only[r209_7,SS,fC,reduceCtorEq,reduceIte,qQ,g0,g1,g5,g8,g7,qW,g,zap,zdl (show n.getD i 0<18446744073709551616 by omega),w1];exact⟨⟨by omega,hl⟩,by omega⟩
   ·simp only[g0,g5,g8,zow (show n.length<=i by omega),xQ,and_self]
  have hi:i<m.length:=by omega
  have gm:=zbc m i hi AV.junk;have wm:IntKind.u64.wrap ((m.getD i 0:Nat):Int)=((m.getD i 0:Nat):Int):=zdl (by omega)
  have wd:IntKind.u32.wrap (IntKind.u64.wrap (((m.getD i 0:Nat):Int)-((b+n.getD i 0:Nat):Int)))=(((m.getD i 0+8589934592-(b+n.getD i 0))%4294967296:Nat):Int):=by
   exact qrb (by omega) (by omega)
  obtain⟨e,rd,H4,H5,hap,hH4,hg,hw,hO'⟩:=zov (bytes:=4) (xs:=[.int .u32 (((m.getD i 0+8589934592-(b+n.getD i 0))%4294967296:Nat):Int)]) hO rfl rfl (by omega) (by omega);have e1:u32s out++[.int .u32 (((m.getD i 0+8589934592-(b+n.getD i 0))%4294967296:Nat):Int)]=u32s (out++[(m.getD i 0+8589934592-(b+n.getD i 0))%4294967296]):=by simp[u32s]
  rw[e1]at hO';have w1:=wS1 i (by omega);simp only[l209_0];refine wW ?_;simp only[r209_4,SS,reduceCtorEq,reduceIte,qQ,h0,h7];refine⟨λ_=>?_,λh=>absurd h (by omega)⟩;refine zkf (zoi (wW ?_));simp only[r209_5,SS,reduceIte,qQ,h6];refine zkf ((st6 _ (by simp only[UU,qQ,h0]) (by simp only[UU,qQ,h1]) (by simp only[UU,qQ,h5]) (by simp only[UU,qQ,reduceIte]) (by simp only[UU,qQ,h7])).mono ?_);rintro x E2 H2 ⟨rfl,rfl,b0,b1,b5,b8,b7⟩;refine wM ?_;simp only[r209_8,SS,fC,reduceCtorEq,reduceIte,qQ,qX,b0,b5,b7,b8,qW,gm,zap,wm,wd,zdi,hap];refine⟨⟨by omega,by omega⟩,by omega,?_⟩;simp only[r209_9,SS];simp only[r209_10,SS,fC,reduceCtorEq,reduceIte,qQ,b0,b7,b8,qW,gm,zap,wm];refine⟨⟨by omega,by omega⟩,by omega,λhlt=>?_,λhlt=>?_⟩
  ·have eb:brw (m.getD i 0) (b+n.getD i 0)=1:=by unfold brw;rw[if_pos (by omega)]
   rw[eb]at hf;simp only[r209_11,SS];refine wM ?_;simp only[r209_12,SS,reduceIte,qQ,b7,w1];rw[hH4];refine⟨k,_,H5,by omega,⟨i+1,1,_,_,by omega,by simp[hol],by omega,hf,?_,?_,rfl,?_,?_,?_⟩,hw _ _ _ (by simp)⟩<;>simp only[UU,qQ,reduceIte,b0,b1]
   ·rfl
   ·exact hO'
  ·have eb:brw (m.getD i 0) (b+n.getD i 0)=0:=by unfold brw;rw[if_neg (by omega)]
   rw[eb]at hf;refine wM ?_;simp only[r209_12,SS,reduceIte,qQ,b7,w1];rw[hH4];refine⟨k,_,H5,by omega,⟨i+1,0,_,_,by omega,by simp[hol],by omega,hf,?_,?_,rfl,?_,?_,?_⟩,hw _ _ _ (by simp)⟩<;>simp only[UU,qQ,reduceIte,b0,b1]
   ·rfl
   ·exact hO'
theorem zkh(l:List Nat):(zbf l).length<=l.length:=by rw[zfk];exact zgx _ _
theorem zag.closed{z:Int}{a:AV}(h:zag z a):a.closed=true:=by
 obtain⟨l,c,_,_,_,rfl⟩:=h;rfl
theorem zag.fits{z:Int}{a:AV}(h:zag z a):z.natAbs<BIG:=by
 obtain⟨l,c,hc,hl,hv,rfl⟩:=h;rw[<-hv];exact zfd hc.1 hl
theorem zAdd{x y:Int}{a b:AV}(ha:zag x a)(hb:zag y b)(hf:(x+y).natAbs<BIG):∃v,zag (x+y) v/\Rt 190 [a,b] [] v []:=by
 obtain⟨l,c,hc,hl,hv,rfl⟩:=ha;obtain⟨r,d,hd,hlr,hw,rfl⟩:=hb;obtain⟨c1,t1⟩:=zmx l c (by omega);obtain⟨c2,t2⟩:=zmx r d (by omega);have l1:=zkh l;have l2:=zkh r;have k1:=zaz hc.1;have k2:=zaz hd.1;have v1:=(zbq l).trans hv;have v2:=(zbq r).trans hw;have t3:=zcmp (zbf l) (zbf r) c1 c2 (by omega) (by omega);rw[zel k1 k2,v1,v2]at t3;by_cases hs:decide (x<0)=decide (y<0)
 ·obtain⟨c3,t4⟩:=zsum (zbf l) (zbf r) c1 c2 (by omega) (by omega) k1.1 k2.1;obtain⟨s1,s2,s3⟩:=qjx (zbf l) (zbf r) k1.1 k2.1 (max (zbf l).length (zbf r).length) 0 0 [] (by omega) rfl Dig.nil (by omega) (by omega) rfl;rw[v1,v2]at s1
  have hx:x.natAbs+y.natAbs=(x+y).natAbs:=by
   rcases qV x 0 with h | h | h<;>rcases qV y 0 with h' | h' | h'<;>simp at hs<;>omega
  obtain⟨v,hv1,t5⟩:=zou (decide (x<0)) _ c3 s2 (by rw[s3];omega) (by rw[s1,hx];exact hf)
  have e:sgnZ (decide (x<0)) (Limb.val (sumL (zbf l) (zbf r) (max (zbf l).length (zbf r).length) 0 0 []))=x+y:=by
   rw[s1];unfold sgnZ;simp only[decide_eq_true_eq];simp at hs;split<;>omega
  rw[e]at hv1;obtain⟨l',c',_,_,_,rfl⟩:=hv1;refine⟨_,⟨l',c',by assumption,by assumption,by assumption,rfl⟩,?_⟩;refine oF o190 ?_;simp only[c190,r190_0,r190_1,SS,fC,reduceCtorEq,reduceIte,qZ,qQ,qX];refine zaa t1 ?_;simp only[SS,fC,reduceIte,qZ,qQ,qX];refine zaa t2 ?_;simp only[SS,reduceIte,qQ];refine⟨rfl,?_⟩;simp only[r190_2,SS,fC,reduceIte,qZ,qQ,qX,hs,beq_self_eq_true];simp only[r190_3,SS,fC,reduceIte,qZ,qQ,qX];refine zaa t4 ?_;rw[hs]at t5;simp only[SS,reduceIte,qQ];refine zaa t5 ?_;simp only[SS,reduceIte,qZ,qQ,qX];refine⟨rfl,?_⟩;exact dR
 ·have hs':(decide (x<0) == decide (y<0))=false:=by simpa using hs
  by_cases hcmp:y.natAbs<=x.natAbs
  ·have hsg:decide ((0:Int)<=sgn x.natAbs y.natAbs)=true:=by
    unfold sgn;rw[if_neg (by omega)];split<;>rfl
   have hlen:(zbf r).length<=(zbf l).length:=by
    rcases qN (zbf l).length (zbf r).length with h | h
    ·exfalso;have:=zel k1 k2;unfold cmpL at this;rw[if_neg (by omega),if_pos h,v1,v2]at this;rw[<-this]at hsg;simp at hsg
    ·exact h
   obtain⟨c3,t4⟩:=zjn (zbf l) (zbf r) c1 c2 (by omega) hlen k1.1 k2.1;obtain⟨s1,s2,s3⟩:=zor (zbf l) (zbf r) k1.1 k2.1 hlen (by omega) (zbf l).length 0 0 [] (by omega) rfl Dig.nil (by omega) rfl;rw[v1,v2]at s1;obtain⟨v,hv1,t5⟩:=zou (decide (x<0)) _ c3 s2 (by rw[s3];omega) (zfd s2 (by rw[s3];omega))
   have e:sgnZ (decide (x<0)) (Limb.val (difL (zbf l) (zbf r) (zbf l).length 0 0 []))=x+y:=by
    unfold sgnZ;simp only[decide_eq_true_eq];simp at hs;split<;>omega
   rw[e]at hv1;obtain⟨l',c',_,_,_,rfl⟩:=hv1;refine⟨_,⟨l',c',by assumption,by assumption,by assumption,rfl⟩,?_⟩;refine oF o190 ?_;simp only[c190,r190_0,r190_1,SS,fC,reduceCtorEq,reduceIte,qZ,qQ,qX];refine zaa t1 ?_;simp only[SS,fC,reduceIte,qZ,qQ,qX];refine zaa t2 ?_;simp only[SS,reduceIte,qQ];refine⟨rfl,?_⟩;simp only[r190_2,SS,fC,reduceIte,qZ,qQ,qX,hs'];simp only[r190_4,SS,reduceIte,qQ];refine zaa t3 ?_;simp only[SS,fC,reduceIte,qQ,hsg];simp only[r190_5,SS,fC,reduceIte,qZ,qQ,qX];refine zaa t4 ?_;simp only[SS,reduceIte,qQ];refine zaa t5 ?_;simp only[SS,reduceIte,qZ,qQ,qX];refine⟨rfl,?_⟩;exact dR
  ·have hsg:decide ((0:Int)<=sgn x.natAbs y.natAbs)=false:=by
    unfold sgn;rw[if_pos (by omega)];rfl
   have hlen:(zbf l).length<=(zbf r).length:=by
    rcases qN (zbf r).length (zbf l).length with h | h
    ·exfalso;have:=zel k1 k2;unfold cmpL at this;rw[if_neg (by omega),if_neg (by omega),v1,v2]at this;rw[<-this]at hsg;simp at hsg
    ·exact h
   obtain⟨c3,t4⟩:=zjn (zbf r) (zbf l) c2 c1 (by omega) hlen k2.1 k1.1;obtain⟨s1,s2,s3⟩:=zor (zbf r) (zbf l) k2.1 k1.1 hlen (by omega) (zbf r).length 0 0 [] (by omega) rfl Dig.nil (by omega) rfl;rw[v1,v2]at s1;obtain⟨v,hv1,t5⟩:=zou (decide (y<0)) _ c3 s2 (by rw[s3];omega) (zfd s2 (by rw[s3];omega))
   have e:sgnZ (decide (y<0)) (Limb.val (difL (zbf r) (zbf l) (zbf r).length 0 0 []))=x+y:=by
    unfold sgnZ;simp only[decide_eq_true_eq];simp at hs;split<;>omega
   rw[e]at hv1;obtain⟨l',c',_,_,_,rfl⟩:=hv1;refine⟨_,⟨l',c',by assumption,by assumption,by assumption,rfl⟩,?_⟩;refine oF o190 ?_;simp only[c190,r190_0,r190_1,SS,fC,reduceCtorEq,reduceIte,qZ,qQ,qX];refine zaa t1 ?_;simp only[SS,fC,reduceIte,qZ,qQ,qX];refine zaa t2 ?_;simp only[SS,reduceIte,qQ];refine⟨rfl,?_⟩;simp only[r190_2,SS,fC,reduceIte,qZ,qQ,qX,hs'];simp only[r190_4,SS,reduceIte,qQ];refine zaa t3 ?_;simp only[SS,fC,reduceIte,qQ,hsg];simp only[r190_6,SS,fC,reduceIte,qZ,qQ,qX];refine zaa t4 ?_;simp only[SS,reduceIte,qQ];refine zaa t5 ?_;simp only[SS,reduceIte,qZ,qQ,qX];refine⟨rfl,?_⟩;exact dR
theorem zSub{x y:Int}{a b:AV}(ha:zag x a)(hb:zag y b)(hf:(x-y).natAbs<BIG):∃v,zag (x-y) v/\Rt 163 [a,b] [] v []:=by
 obtain⟨n,hn,t1⟩:=zNeg hb;obtain⟨v,hv,t2⟩:=zAdd ha hn (by rwa[<-xO]);rw[<-xO]at hv;obtain⟨l,c,_,_,_,rfl⟩:=ha;obtain⟨r,d,_,_,_,rfl⟩:=hb;obtain⟨l1,c1,_,_,_,rfl⟩:=hn;obtain⟨l',c',_,_,_,rfl⟩:=hv;refine⟨_,⟨l',c',by assumption,by assumption,by assumption,rfl⟩,?_⟩;refine oF o163 ?_;simp only[c163,r163_0,r163_1,SS,reduceCtorEq,reduceIte,qZ,qQ,qX];refine zaa t1 ?_;simp only[SS,reduceIte,qQ];refine zaa t2 ?_;simp only[SS,reduceIte,qZ,qQ,qX];refine⟨rfl,?_⟩;exact dR
structure MulE(m n:List Nat)(sa sb:Bool)(ca cb:Option Nat)(E:Env):Prop where
 e2:E 2= .ptr 0 0
 e3:E 3= .ptr 1 0
 e4:E 4= .ptr 2 0
 e5:E 5= .sl 3 0 (m.length+n.length) 1 (some (m.length+n.length))
 e20:E 20= .vec (u32s m) m.length ca
 e21:E 21= .int .i64 (m.length:Nat)
def mulH(m n out:List Nat)(sa sb:Bool)(ca cb:Option Nat):Heap:=
 [some [.bool sa,.vec (u32s m) m.length ca],some [.bool sb,.vec (u32s n) n.length cb],some [.bool false,.vec [] 0 (some 0)],some (u32s out)]
theorem qxz(m n:List Nat)(sa sb:Bool)(ca cb:Option Nat)(i:Nat)(hi:i<m.length)(dm:Dig m)(dn:Dig n)(hm:m.length<=1100)(hn:n.length<=1100)(out0:List Nat)(ho0:out0.length=m.length+n.length)(do0:Dig out0){E:Env}{Q:Post}
  (hE:MulE m n sa sb ca cb E) (h6:E 6= .int .i64 (i:Nat)) (h7:E 7= .int .u32 (m.getD i 0:Nat)) (h8:E 8= .int .u64 0) (h22:E 22= .int .i64 (i:Nat)) (h28:E 28= .vec (u32s n) n.length cb) (h29:E 29= .int .i64 (n.length:Nat)) (h30:E 30= .int .i64 0)
  (hQ:∀E',MulE m n sa sb ca cb E'->E' 6= .int .i64 (i:Nat)->E' 22= .int .i64 (i:Nat)->E' 8= .int .u64 ((mulR n (m.getD i 0) i n.length 0 0 out0).1:Nat)->Q (.exit 2) E' (mulH m n (mulR n (m.getD i 0) i n.length 0 0 out0).2 sa sb ca cb)):
  Wg 0 77 (.loop l164_1) E (mulH m n out0 sa sb ca cb) Q:=by
 have bx:=dm.getD i
 refine zaf (λk E H=>∃j c out,j+k=n.length/\c<4294967296/\out.length=m.length+n.length/\Dig out/\mulR n (m.getD i 0) i k j c out=mulR n (m.getD i 0) i n.length 0 0 out0/\MulE m n sa sb ca cb E/\E 6= .int .i64 (i:Nat)/\E 7= .int .u32 (m.getD i 0:Nat)/\
  E 8= .int .u64 (c:Nat)/\E 22= .int .i64 (i:Nat)/\E 28= .vec (u32s n) n.length cb/\E 29= .int .i64 (n.length:Nat)/\E 30= .int .i64 (j:Nat)/\H=mulH m n out sa sb ca cb) (n:=n.length) ⟨0,0,out0,by omega,by omega,ho0,do0,rfl,hE,h6,h7,h8,h22,h28,h29,h30,rfl⟩ ?_
 rintro k E H ⟨j,c,out,hjk,hc,ho,hd,hr,hE,h6,h7,h8,h22,h28,h29,h30,rfl⟩;obtain⟨e2,e3,e4,e5,e20,e21⟩:=hE;refine wM ?_;simp only[l164_1,r164_7,SS,reduceIte,h29,h30];refine⟨λhlt=>?_,λhge=>?_⟩
 ·obtain⟨k,rfl⟩:∃k',k=k'+1:=⟨k-1,by omega⟩
  have hj:j<n.length:=by omega
  have gn:=zbc n j hj AV.junk;have go:=zbc out (i+j) (by omega) AV.junk;have by1:=dn.getD j;have bo:=hd.getD (i+j);have hxy:m.getD i 0*n.getD j 0<=4294967295*4294967295:=Nat.mul_le_mul (by omega) (by omega);simp only[mulR]at hr;have w1:IntKind.u64.wrap (((m.getD i 0:Nat):Int)*((n.getD j 0:Nat):Int))=((m.getD i 0*n.getD j 0:Nat):Int):=by rw[<-Int.natCast_mul];exact zdl (by omega)
  have w2:IntKind.i64.wrap ((i:Int)+(j:Int))=((i+j:Nat):Int):=by rw[<-qB];exact w64 (by omega) (by omega)
  have w3:IntKind.u64.wrap (((m.getD i 0*n.getD j 0:Nat):Int)+((out.getD (i+j) 0:Nat):Int))=((m.getD i 0*n.getD j 0+out.getD (i+j) 0:Nat):Int):=by rw[<-qB];exact zdl (by omega)
  have w4:IntKind.u64.wrap ((c:Int)+((m.getD i 0*n.getD j 0+out.getD (i+j) 0:Nat):Int))=((c+(m.getD i 0*n.getD j 0+out.getD (i+j) 0):Nat):Int):=by rw[<-qB];exact zdl (by omega)
  have w5:=wS1 j (by omega)
  simp only[r164_8,r164_9,r164_10,r164_11,r164_12,SS,fC,reduceIte,qQ,mulH,h6,h7,h8,h28,h30,e5,qW,gn,go,zap,ho,zdl (show m.getD i 0<18446744073709551616 by omega),zdl (show n.getD j 0<18446744073709551616 by omega),
   zdl (show out.getD (i+j) 0<18446744073709551616 by omega),w1,w2,w3,w4,w5,wu32,zzk,zet]
  refine⟨⟨by omega,by omega⟩,by omega,⟨by omega,by omega⟩,by omega,⟨by omega,by omega⟩,by omega,by omega,?_⟩;refine⟨k,_,_,by omega,⟨j+1,_,_,by omega,?_,?_,?_,hr,⟨?_,?_,?_,?_,?_,?_⟩,?_,?_,?_,?_,?_,?_,?_,rfl⟩,.refl⟩
  ·omega
  ·simpa using ho
  ·exact hd.set (xV _ (by decide))
  all_goals simp only[UU,qQ,reduceIte, *]
 ·have hk:k=0:=by omega
  subst hk;simp only[mulR]at hr;rw[<-hr]at hQ;exact hQ _ ⟨by simp only[UU,qQ, *],by simp only[UU,qQ, *],by simp only[UU,qQ, *],by simp only[UU,qQ, *],by simp only[UU,qQ, *],by simp only[UU,qQ, *]⟩ (by simp only[UU,qQ, *]) (by simp only[UU,qQ, *]) (by simp only[UU,qQ, *])
theorem zzm{l:List Nat}{n:Nat}{c:Option Nat}(hn:n=l.length):frzI 0 [some (u32s l)] 2 (.sl 0 0 n 1 c)=some (.vec (u32s l) n c):=by
 have e:=qbs l 0 0 [some (u32s l)];rw[frzI];simp only[yJ,if_false,zoo,need,qL,xZ,hn,zap,qA,if_true,xK];rw[qJ (by rw[zap];omega),e];rfl
theorem qrc{l:List Nat}{n:Nat}{c:Option Nat}{s:Bool}(hn:n=l.length):([.bool s,.sl 0 0 n 1 c]:List AV).mapM (frzI 0 [some (u32s l)] 2)=some [.bool s,.vec (u32s l) n c]:=by
 rw[xI,xI,zzm hn];rfl
theorem zeu{E:Env}{H:Heap}{t id:Nat}{u v:AV}(hE:E t= .ptr id 0)(hb:getB H id=some [u,v]):resA Tryz.prog [.cell t 40] E H=some (.agg [u,v]):=by
 have hs:ldSz Tryz.prog 40=some (true,2):=by kernel_rfl
 simp only[resA,zdv,xI,List.mapM_nil,hE,hb,hs];rfl
theorem qkc(x y:Int):sgnZ (decide (x<0) != decide (y<0)) (x*y).natAbs=x*y:=by
 unfold sgnZ;rcases qV x 0 with h | h | h
 ·rcases qV y 0 with h' | h' | h'
  ·have:=Int.mul_pos_of_neg_of_neg h h';rw[decide_eq_true h,decide_eq_true h'];simp only[bne_self_eq_false,qP,if_false];omega
  ·subst h';simp
  ·have:=Int.mul_neg_of_neg_of_pos h h';rw[decide_eq_true h,dF];simp only[Bool.bne_false,if_true];omega
 ·subst h;simp
 ·rcases qV y 0 with h' | h' | h'
  ·have:=Int.mul_neg_of_pos_of_neg h h';rw[dF,decide_eq_true h'];simp only[Bool.bne_true,Bool.not_false,if_true];omega
  ·subst h';simp
  ·have:=Int.mul_pos h h';rw[dF,dF];simp only[bne_self_eq_false,qP,if_false];omega
theorem zMul{x y:Int}{a b:AV}(ha:zag x a)(hb:zag y b)(hf:(x*y).natAbs<BIG):∃v,zag (x*y) v/\Rt 164 [a,b] [] v []:=by
 obtain⟨m,ca,hc,hl,hv,rfl⟩:=ha;obtain⟨n,cb,hd,hlr,hw,rfl⟩:=hb
 have hz:val (List.replicate (m.length+n.length) 0)=0/\Dig (List.replicate (m.length+n.length) 0):=by
  constructor
  ·generalize m.length+n.length=k
   induction k with
   |zero=>rfl
   |succ k ih=>rw[List.replicate_succ,Limb.val,ih]
  ·intro z hz;simp at hz;omega
 obtain⟨s1,s2,s3⟩:=qka n hd.1 m 0 (List.replicate (m.length+n.length) 0) hc.1 hz.2 (by simp) (by intro t _;simp[qK,List.getElem?_replicate];split<;>rfl);rw[hz.1,hv,hw,Nat.pow_zero,xH,qL,<-Int.natAbs_mul]at s3;rw[List.length_replicate]at s1;obtain⟨v,hv1,t5⟩:=zou (decide (x<0) != decide (y<0)) (mulL n m 0 (List.replicate (m.length+n.length) 0)) (some (m.length+n.length)) s2 (by rw[s1];omega) (by rw[s3];exact hf)
 have e:sgnZ (decide (x<0) != decide (y<0)) (Limb.val (mulL n m 0 (List.replicate (m.length+n.length) 0)))=x*y:=by
  rw[s3];exact qkc x y
 rw[e]at hv1;obtain⟨l',c',_,_,_,rfl⟩:=hv1;refine⟨_,⟨l',c',by assumption,by assumption,by assumption,rfl⟩,?_⟩;have w1:IntKind.i64.wrap ((m.length:Int)+(n.length:Int))=((m.length+n.length:Nat):Int):=by rw[<-qB];exact w64 (by omega) (by omega)
 refine oF o164 ?_;simp only[c164,r164_0,r164_1,SS,fC,reduceCtorEq,reduceIte,qZ,qQ,qX,w1,qW];refine⟨by omega,⟨by omega,by omega,by omega,by omega⟩,?_⟩;simp only[r164_2,SS,fC,reduceIte,qZ,qQ,qX];have hrep:List.replicate (m.length+n.length) (AV.int IntKind.u32 0)=u32s (List.replicate (m.length+n.length) 0):=by simp[u32s]
 rw[hrep]
 refine zaf (λk E H=>∃i out,i+k=m.length/\out.length=m.length+n.length/\Dig out/\mulL n (m.drop i) i out=mulL n m 0 (List.replicate (m.length+n.length) 0)/\MulE m n (decide (x<0)) (decide (y<0)) ca cb E/\E 22= .int .i64 (i:Nat)/\
  H=mulH m n out (decide (x<0)) (decide (y<0)) ca cb) (n:=m.length) ⟨0,List.replicate (m.length+n.length) 0,by omega,by simp,hz.2,rfl,⟨by simp only[UU,qQ,reduceIte],by simp only[UU,qQ,reduceIte],by simp only[UU,qQ,reduceIte],by simp only[UU,qQ,reduceIte],by simp only[UU,qQ,reduceIte],by simp only[UU,qQ,reduceIte]⟩,by simp only[UU,qQ,reduceIte];rfl,rfl⟩ ?_
 rintro k E H ⟨i,out,hik,ho,hdo,hr,hE,h22,rfl⟩;have hE':=hE;obtain⟨e2,e3,e4,e5,e20,e21⟩:=hE;refine wM ?_;simp only[l164_0,r164_3,SS,reduceCtorEq,reduceIte,e21,h22];refine⟨λhlt=>?_,λhge=>?_⟩
 ·obtain⟨k,rfl⟩:∃k',k=k'+1:=⟨k-1,by omega⟩
  have hi:i<m.length:=by omega
  have gm:=zbc m i hi AV.junk
  have hdrop:m.drop i=m.getD i 0::m.drop (i+1):=by
   rw[List.drop_eq_getElem_cons hi,qK,xX hi];rfl
  rw[hdrop,mulL]at hr;have w5:=wS1 i (by omega);have w6:IntKind.i64.wrap ((i:Int)+(n.length:Int))=((i+n.length:Nat):Int):=by rw[<-qB];exact w64 (by omega) (by omega)
  obtain⟨q1,q2,q3,q4,q5⟩:=zwa n hd.1 (m.getD i 0) i (hc.1.getD i) n.length 0 0 out (by decide) (by omega) (by omega) hdo;simp only[r164_4,r164_5,r164_6,SS,fC,reduceIte,qZ,qQ,qX,e20,h22,qW,gm,zap,mulH,e3];refine⟨⟨by omega,hlt⟩,by omega,?_⟩;refine qxz m n (decide (x<0)) (decide (y<0)) ca cb i hi hc.1 hd.1 hl hlr out ho hdo ⟨?_,?_,?_,?_,?_,?_⟩ ?_ ?_ ?_ ?_ ?_ ?_ ?_ (λE1 hE1 f6 f22 f8=>?rest)
  case rest=>
   have hE1':=hE1;obtain⟨f2,f3,f4,f5,f20,f21⟩:=hE1;simp only[r164_13,r164_14,SS,fC,reduceCtorEq,reduceIte,qZ,qQ,qX,f3,f5,f6,f8,f22,mulH,qW,zap,w5,w6,wu32,qH q1,zet,q2,ho];refine⟨⟨by omega,by omega⟩,by omega,?_⟩;refine⟨k,_,_,by omega,⟨i+1,_,by omega,?_,?_,hr,⟨?_,?_,?_,?_,?_,?_⟩,?_,rfl⟩,.refl⟩
   ·simpa using q2.trans ho
   ·exact q3.set q1
   all_goals simp only[UU,qQ,reduceIte, *]
  all_goals simp only[UU,qQ,reduceIte, *]
 ·have hk:i=m.length:=by omega
  subst hk;rw[List.drop_length]at hr;simp only[mulL]at hr;simp only[r164_15,SS,fC,reduceIte,qZ,qQ,qX,e2,e3,e5,mulH];have hb:(!(decide (x<0) == decide (y<0)))=(decide (x<0) != decide (y<0)):=rfl;rw[<-hr,ho]at t5;rw[hb];refine zgg (id:=3) (cs:=u32s out) (d:=2) (args0:=[.bool (decide (x<0) != decide (y<0)),.sl 0 0 (m.length+n.length) 1 (some (m.length+n.length))]) t5 ?_ ?_ ?_ ?_ rfl (zgy _)
  ·rfl
  ·exact qrc ho.symm
  ·rfl
  simp only[zay,zad,xM,yK,SS,reduceIte,qZ,qQ,qX,e4];refine⟨.inl trivial,_,?_,.drop _ _ rfl (by intro i cs h;omega)⟩;exact zeu (id:=2) (by simp only[UU,qQ,e4]) rfl
theorem or64{a b:Nat}(ha:a<4294967296)(hb:b<4294967296):IntKind.u64.wrap ((BitVec.ofInt IntKind.u64.bits (a:Int) ||| BitVec.ofInt IntKind.u64.bits ((b*4294967296:Nat):Int)).toNat:Int)=((a+4294967296*b:Nat):Int):=by
 have e1:(BitVec.ofInt IntKind.u64.bits (a:Int) ||| BitVec.ofInt IntKind.u64.bits ((b*4294967296:Nat):Int)).toNat=a+4294967296*b:=by
  rw[BitVec.toNat_or,BitVec.ofInt_natCast,BitVec.ofInt_natCast,BitVec.toNat_ofNat,BitVec.toNat_ofNat]
  show a%18446744073709551616 ||| b*4294967296%18446744073709551616=_
  rw[qH (by omega),qH (by omega),Nat.or_comm,xC b];have:=Nat.two_pow_add_eq_or_of_lt (i:=32) (b:=a) ha b;rw[show(2:Nat)^32=4294967296 from rfl]at this;rw[<-this];omega
 rw[e1];exact zdl (by omega)
theorem qbt(m:List Nat)(dm:Dig m){i:Nat}(hi:i<m.length)(hi2:i<2):IntKind.u64.wrap ((BitVec.ofInt IntKind.u64.bits ((val (m.take i):Nat):Int) ||| BitVec.ofInt IntKind.u64.bits (IntKind.u64.wrap (((m.getD i 0:Nat):Int)*2^min (32*i) IntKind.u64.bits))).toNat:Int)=(val (m.take (i+1)):Nat):=by
 have bi:=dm.getD i;rw[zbn];rcases(by omega:i=0\/i=1)with rfl | rfl
 ·have e1:IntKind.u64.wrap (((m.getD 0 0:Nat):Int)*2^min (32*0) IntKind.u64.bits)=((m.getD 0 0:Nat):Int):=by
   show IntKind.u64.wrap (((m.getD 0 0:Nat):Int)*1)=_
   rw[yQ];exact zdl (by omega)
  rw[e1];have e2:val (m.take 0)=0:=rfl;rw[e2];have:=or64 (a:=m.getD 0 0) (b:=0) bi (by omega);rw[BitVec.or_comm];simpa using this
 ·have e1:IntKind.u64.wrap (((m.getD 1 0:Nat):Int)*2^min (32*1) IntKind.u64.bits)=((m.getD 1 0*4294967296:Nat):Int):=by
   show IntKind.u64.wrap (((m.getD 1 0:Nat):Int)*4294967296)=_
   rw[show((m.getD 1 0:Nat):Int)*4294967296=((m.getD 1 0*4294967296:Nat):Int) by omega];exact zdl (by omega)
  rw[e1];have hlt:=zgh (dm.take 1);have hlen:(m.take 1).length=1:=by rw[qT];omega
  rw[hlen]at hlt;have:=or64 (a:=val (m.take 1)) (b:=m.getD 1 0) (by omega) bi;rw[this]
theorem zlow(m:List Nat)(c:Option Nat)(dm:Dig m)(hm:m.length<1048576):Rt 162 [.vec (u32s m) m.length c] [] (.int .u64 (val (m.take 2):Nat)) []:=by
 refine oF o162 ?_;simp only[c162,r162_0,r162_1,r162_2,SS,reduceCtorEq];refine zaf (λk E H=>∃i,i+k=min 2 m.length/\E 0= .vec (u32s m) m.length c/\E 3= .int .u64 (val (m.take i):Nat)/\E 4= .int .i64 (i:Nat)/\H=[]) (n:=min 2 m.length) ⟨0,by omega,by simp only[UU,qQ],by simp only[UU,qQ,reduceIte];rfl,by simp only[UU,qQ,reduceIte];rfl,rfl⟩ ?_;rintro k E H ⟨i,hik,h0,h3,h4,rfl⟩;refine wM ?_;have bi:=dm.getD i
 have hv:val (m.take 2)=val (m.take (min 2 m.length)):=by
  rcases Nat.le_total 2 m.length with h | h
  ·rw[yZ h]
  ·rw[Nat.min_eq_right h,qJ h,qS]
 cases k with
 |zero=>
  have hi:i=min 2 m.length:=by omega
  rw[<-hi]at hv;rw[hv];by_cases hl:i<m.length
  ·have d1:decide ((i:Int)<(m.length:Nat))=true:=dT;have d2:decide ((i:Int)<2)=false:=dF;simp only[l162_0,r162_3,SS,fC,reduceCtorEq,reduceIte,qQ,h0,h4,d1,d2];simp only[r162_6,SS,reduceIte,qQ,h3];exact dR
  ·have d1:decide ((i:Int)<(m.length:Nat))=false:=dF;simp only[l162_0,r162_3,SS,fC,reduceCtorEq,reduceIte,qQ,h0,h4,d1];simp only[r162_6,SS,reduceIte,qQ,h3];exact dR
 |succ k=>
  have hi:i<m.length:=by omega
  have hi2:i<2:=by omega
  have d1:decide ((i:Int)<(m.length:Nat))=true:=dT;have d2:decide ((i:Int)<2)=true:=dT;have g:=zbc m i hi AV.junk;have w5:=wS1 i (by omega);have w6:IntKind.i64.wrap (32*(i:Int))=((32*i:Nat):Int):=wQ (by omega);have w7:=qbt m dm hi hi2;simp only[l162_0,r162_3,SS,fC,reduceCtorEq,reduceIte,qQ,h0,h4,d1,d2];simp only[r162_4,r162_5,SS,fC,reduceCtorEq,reduceIte,qQ,h0,h3,h4,qW,g,zap,w5,w6,zdl (show m.getD i 0<18446744073709551616 by omega),w7];refine⟨⟨by omega,by omega⟩,by omega,by omega,?_⟩;refine⟨k,_,_,by omega,⟨i+1,by omega,?_,?_,?_,rfl⟩,.refl⟩<;>simp only[UU,qQ,reduceIte, *]
theorem zdc{l:List Nat}(h:zbp l)(hv:val l<18446744073709551616):l.length<=2:=by
 rcases qN 2 l.length with h1 | h1
 ·exfalso;have h2:=zhv h.2 (by intro e;rw[e]at h1;simp at h1);have h3:4294967296^2<=4294967296^(l.length-1):=qG (by decide) (by omega);omega
 ·exact h1
theorem zth(m n:List Nat)(c d:Option Nat)(cm:zbp m)(cn:zbp n)(hm:val m<18446744073709551616)(hn:val n<18446744073709551616)(hn0:val n≠0):
  ∃q r c1 c2,zbp q/\zbp r/\q.length<=1100/\r.length<=1100/\val q=val m/val n/\val r=val m%val n/\
   Rt 211 [.vec (u32s m) m.length c,.vec (u32s n) n.length d] [] (.tup [.vec (u32s q) q.length c1,.vec (u32s r) r.length c2]) []:=by
 have lm:=zdc cm hm;have ln:=zdc cn hn;have t1:=zlow m c cm.1 (by omega);have t2:=zlow n d cn.1 (by omega);rw[qJ lm]at t1;rw[qJ ln]at t2;have hq:val m/val n<18446744073709551616:=xP (Nat.div_le_self _ _) hm;have hr:val m%val n<18446744073709551616:=xP (Nat.mod_le _ _) hm;obtain⟨vq,hq1,t3⟩:=qra false (val m/val n) hq;obtain⟨vr,hr1,t4⟩:=qra false (val m%val n) hr;obtain⟨q,c1,q1,q2,q3,rfl⟩:=hq1;obtain⟨r,c2,r1,r2,r3,rfl⟩:=hr1;refine⟨q,r,c1,c2,q1,r1,q2,r2,q3.trans (zft _ _),r3.trans (zft _ _),?_⟩;have d1:decide ((m.length:Int)<=2)=true:=dT;have d2:decide ((n.length:Int)<=2)=true:=dT
 have w1:IntKind.u64.wrap (Int.tdiv (val m:Nat) (val n:Nat))=((val m/val n:Nat):Int):=by
  show IntKind.u64.wrap ((val m/val n:Nat):Int)=_
  exact zdl hq
 have w2:Int.tmod (val m:Nat) (val n:Nat)=((val m%val n:Nat):Int):=rfl;refine oF o211 ?_;simp only[c211,r211_0,r211_1,SS,fC,reduceCtorEq,reduceIte,qQ,d1,d2];simp only[r211_2,SS,reduceCtorEq,reduceIte,qQ];refine zaa t1 ?_;simp only[SS,reduceIte,qQ];refine zaa t2 ?_;simp only[SS,reduceIte,qQ];simp only[r211_3,SS,reduceIte,qQ,w1];refine⟨by omega,?_⟩;refine zaa t3 ?_;simp only[SS,fC,reduceIte,qZ,qQ,qX];refine⟨by omega,?_⟩;refine zaa t4 ?_;simp only[SS,fC,reduceIte,qZ,qQ,qX];refine⟨rfl,?_⟩;exact dR
theorem zre{x y:Int}(hy:y≠0):x/y=(if x.natAbs%y.natAbs≠0/\x<0 then(if y<0 then sgnZ (decide (x<0) != decide (y<0)) (x.natAbs/y.natAbs)+1 else sgnZ (decide (x<0) != decide (y<0)) (x.natAbs/y.natAbs)-1)else sgnZ (decide (x<0) != decide (y<0)) (x.natAbs/y.natAbs))/\
  x%y=(if x.natAbs%y.natAbs≠0/\x<0 then sgnZ (decide (x<0)) (x.natAbs%y.natAbs)+(y.natAbs:Int)else sgnZ (decide (x<0)) (x.natAbs%y.natAbs)):=by
 have h:=Nat.div_add_mod x.natAbs y.natAbs;have hR:=xV x.natAbs (show 0<y.natAbs by omega);generalize x.natAbs/y.natAbs=Q at*;generalize x.natAbs%y.natAbs=R at*;have h':(y.natAbs:Int)*Q+R=x.natAbs:=by exact_mod_cast h
 rcases Int.lt_or_lt_of_ne hy with hy1 | hy1
 ·rw[Int.ediv_emod_unique' hy1];have ey:(y.natAbs:Int)= -y:=by omega
  rw[ey]at h' ⊢;unfold sgnZ;rw[decide_eq_true hy1];by_cases hx:x<0
  ·have ex:(x.natAbs:Int)= -x:=by omega
   rw[ex]at h';rw[decide_eq_true hx];simp only[bne_self_eq_false,qP,if_false,if_true,hy1,hx,and_true];rw[Int.neg_mul]at h';by_cases h0:R=0
   ·subst h0;simp only[ne_eq,not_true_eq_false,if_false];refine⟨by omega,by omega,by omega⟩
   ·simp only[ne_eq,h0,not_false_eq_true,if_true];rw[Int.mul_add,yQ];refine⟨by omega,by omega,by omega⟩
  ·have ex:(x.natAbs:Int)=x:=by omega
   rw[ex]at h';rw[decide_eq_false hx];simp only[Bool.bne_true,Bool.not_false,if_true,hx,and_false,if_false,qP];rw[Int.neg_mul]at h';rw[yX];refine⟨by omega,by omega,by omega⟩
 ·rw[Int.ediv_emod_unique hy1];have ey:(y.natAbs:Int)=y:=by omega
  rw[ey]at h' ⊢;unfold sgnZ;rw[decide_eq_false (show¬y<0 by omega)];by_cases hx:x<0
  ·have ex:(x.natAbs:Int)= -x:=by omega
   rw[ex]at h';rw[decide_eq_true hx];simp only[Bool.bne_false,if_true,hx,and_true,show¬y<0 by omega,if_false];by_cases h0:R=0
   ·subst h0;simp only[ne_eq,not_true_eq_false,if_false];rw[yX];refine⟨by omega,by omega,by omega⟩
   ·simp only[ne_eq,h0,not_false_eq_true,if_true];rw[Int.mul_sub,yX,yQ];refine⟨by omega,by omega,by omega⟩
  ·have ex:(x.natAbs:Int)=x:=by omega
   rw[ex]at h';rw[decide_eq_false hx];simp only[bne_self_eq_false,qP,if_false,hx,and_false];refine⟨by omega,by omega,by omega⟩
