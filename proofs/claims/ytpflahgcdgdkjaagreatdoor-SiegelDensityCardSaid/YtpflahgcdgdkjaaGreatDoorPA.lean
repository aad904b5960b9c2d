/- A part of the proof. -/
import Derived.Test.YtpflahgcdgdkjaaGreatDoorAL70
import Derived.Test.YtpflahgcdgdkjaaGreatDoorAL60
import Derived.Test.YtpflahgcdgdkjaaGreatDoorProg
import Derived.KernelRfl
import Derived.Test.YtpflahgcdgdkjaaGreatDoorSS
import Derived.Test.YtpflahgcdgdkjaaGreatDoorAL52
set_option linter.all false
set_option maxRecDepth 100000
namespace Go.Proofs.YtpflahgcdgdkjaaGreatDoor
open Nat renaming reduceEqDiff -> qQ, reduceAdd -> qX, reduceLeDiff -> qZ, reduceSub -> qU
open Int renaming reduceLT -> qJ, reduceSub -> qK, reduceNeg -> qW, natCast_zero -> qV, reduceLE -> qY
open List renaming replicate_zero -> qA, append_nil -> qD
open Option.some renaming injEq -> qB
open Option renaming bind_some -> qC
open Go Go.AL Go.Proofs
def G:Glob:=⟨[(0,[.int .i64 7,.int .i64 11,.int .i64 13,.int .i64 17,.int .i64 19,.int .i64 23,.int .i64 29,.int .i64 31])],fun _ _ _ _ _=>False,fun _=>[]⟩
theorem zhb:Tryz.prog.follows .mixedOrders=true:=by kernel_rfl
def okS:List Nat:=[49,78,155]
def okB (f:Nat):Bool:=hasN okS f
theorem quc:(okS.all fun f=>okFn Tryz.prog f)=true:=by kernel_rfl
theorem qre:∀f,okB f=true->okFn Tryz.prog f=true:=fun f h=>List.all_eq_true.1 quc f (zrc _ _ h)
abbrev Rt:=Ret Tryz.prog G
abbrev Wg:=W Tryz.prog G
abbrev wG:=wpC Tryz.prog G
theorem wM {n0 nt:Nat} {c:CC} {E:Env} {H:Heap} {Q:Post} (h:wpC Tryz.prog G n0 nt c E H Q):W Tryz.prog G n0 nt c E H Q:=zne zhb h
theorem wW {n0 nt:Nat} {a b:CC} {E:Env} {H:Heap} {Q:Post} (h:wpC Tryz.prog G n0 nt a E H (zdt (fun E' H'=>W Tryz.prog G n0 nt b E' H' Q) Q)):W Tryz.prog G n0 nt (.seq a b) E H Q:=zlr (wM h)
theorem kR {B:Prop} {o:Option AV} {v:AV} {n:Nat} {H:Heap} (h:o=some v:=by rfl):(True\/B)/\∃v',o=some v'/\Fin n v' H v H:=⟨.inl trivial,v,h,.keep _ _⟩
theorem dR {B:Prop} {o:Option AV} {v:AV} {H:Heap} (h:o=some v:=by rfl) (hc:v.under 0=true:=by rfl):(True\/B)/\∃v',o=some v'/\Fin 0 v' H v []:=⟨.inl trivial,v,h,.drop _ _ hc (by intro i cs h;omega)⟩
abbrev FnI (f nt:Nat) (fn:Func) (c:CC) (rs:List ResultVar):Prop:= Tryz.prog.funcs[f]?=some fn/\(fn.body.bind (zcz Tryz.prog G fn.ntmps),fn.results.toList,fn.ntmps)=(some c,rs,nt)
section
variable {f nt:Nat} {fn:Func} {c:CC} {rs:List ResultVar} {args:List AV} {H:Heap} {v:AV} {Hout:Heap} (i:FnI f nt fn c rs)
include i
theorem oF (h:wpC Tryz.prog G H.length nt c (zik args) H (fun x E' H'=>(x= .ret\/x= .normal)/\∃v',resA Tryz.prog rs E' H'=some v'/\Fin H.length v' H' v Hout)) (hn:args.length<=nt:=by simp) (hl:H.length<=Hout.length:=by simp) (hne:f≠4095:=by decide):Ret Tryz.prog G f args H v Hout:=
 qxy zhb i.1 (congrArg Prod.fst i.2) rs nt (congrArg (·.2.1) i.2) (congrArg (·.2.2) i.2) hn hl h hne
theorem oFw (h:wpC Tryz.prog G H.length nt c (zik args) H (fun x E' H'=>(x= .ret\/x= .normal)/\∃v' v'',resA Tryz.prog rs E' H'=some v'/\Fin H.length v' H' v'' Hout/\v''.wk=v)) (hn:args.length<=nt:=by simp) (hl:H.length<=Hout.length:=by simp) (hne:f≠4095:=by decide):Ret Tryz.prog G f args H v Hout:=
 qub zhb i.1 (congrArg Prod.fst i.2) rs nt (congrArg (·.2.1) i.2) (congrArg (·.2.2) i.2) hn hl h hne
theorem oFW (h:W Tryz.prog G H.length nt c (zik args) H (fun x E' H'=>(x= .ret\/x= .normal)/\∃v',resA Tryz.prog rs E' H'=some v'/\Fin H.length v' H' v Hout)) (hn:args.length<=nt:=by simp) (hl:H.length<=Hout.length:=by simp) (hne:f≠4095:=by decide):Ret Tryz.prog G f args H v Hout:=by
 obtain ⟨hf,hi⟩:=i
 obtain ⟨hc,rfl,rfl⟩:fn.body.bind (zcz Tryz.prog G fn.ntmps)=some c/\fn.results.toList=rs/\fn.ntmps=nt:=by simpa using hi
 cases hb:fn.body with
 | none=>rw [hb] at hc;simp at hc
 | some code=>
  rw [hb] at hc
  exact znc hf hb hc hn hl hne h
end
def r108_0:RL:=[oP 2 (.mov (.k (.vec [] 0 (some 0))))]
def r108_1:RL:=[mV 3 0,lN 4 3,bK 5 .gtr 4 0,mV 6 5,gU 7 6 true (.mov (.t 0)),gU 8 6 true (.mov (.t 0)),gU 9 6 true (.len false (.t 8)),gU 10 6 true (.bin .sub (.t 9) (kI 1)),gU 11 6 true (.idx 1 (.t 7) (.t 10)),gU 12 6 true (.load false 1 (.t 11)),gU 13 6 true (.bin .eql (.t 12) (.k (.int .u32 0))),oP 14 (.pick (.t 6) (.t 13) (.k (.bool false)))]
def r108_2:RL:=[mV 15 0,mV 16 0,lN 17 16,bK 18 .sub 17 1,oP 19 (.slice 1 (.t 15) none (some (.t 18)) none),mV 0 19]
def l108_0:CC:=(.seq (.seq (rN r108_1) (.cond (.t 14) .skip (.exit 0))) (.block 1 (rN r108_2)))
def r108_3:RL:=[mV 20 0,mV 2 20]
def c108:CC:=(.seq (rN r108_0) (.seq (.block 0 (.loop l108_0)) (.seq (rN r108_3) .ret)))
theorem o108:FnI 108 21 Tryz.f108 c108 [(.tmp 2)]:=⟨Tryz.func108,by kernel_rfl⟩
def r158_0:RL:=[oP 2 (.mov (.k (.int .u64 0)))]
def r158_1:RL:=[oP 3 (.mov (.k (.int .u64 0)))]
def r158_2:RL:=[mV 6 0,lN 7 6,oP 8 (.mov (kI 0))]
def r158_3:RL:=[bT 9 .lss 8 7]
def r158_4:RL:=[mV 10 8,iX 11 1 6 8,ldO 12 false 1 11,mV 4 10,mV 5 12]
def r158_5:RL:=[mV 13 3,mV 14 5,oP 15 (.conv .u64 (.t 14)),mV 16 4,oP 17 (.bin .mul (kI 32) (.t 16)),bT 18 .shl 15 17,bT 19 .or 13 18,mV 3 19]
def r158_6:RL:=[bK 20 .add 8 1,mV 8 20]
def l158_0:CC:=(.seq (rN r158_3) (.seq (.cond (.t 9) .skip (.exit 0)) (.seq (.block 1 (.seq (rN r158_4) (rN r158_5))) (rN r158_6))))
def r158_7:RL:=[mV 21 3,mV 2 21]
def c158:CC:=(.seq (rN r158_0) (.seq (rN r158_1) (.seq (.seq (rN r158_2) (.block 0 (.loop l158_0))) (.seq (rN r158_7) .ret))))
theorem o158:FnI 158 22 Tryz.f158 c158 [(.tmp 2)]:=⟨Tryz.func158,by kernel_rfl⟩
def r80_0:RL:=[oP 4 (.box (.k (.agg [(.bool false),(.vec [] 0 (some 0))])))]
def r80_1:RL:=[mV 5 1,lN 6 5,bK 7 .eql 6 0]
def r80_2:RL:=[oP 8 (.build [(.bool false),(.vec [] 0 (some 0))] []),sT (.store 2 (.t 4) (.t 8))]
def r80_3:RL:=[mV 9 0,mV 10 1,oP 11 (.build [(.bool false),(.vec [] 0 (some 0))] [(0,(1,(.t 9))),(1,(1,(.t 10)))]),sT (.store 2 (.t 4) (.t 11))]
def c80:CC:=(.seq (rN r80_0) (.seq (.seq (rN r80_1) (.cond (.t 7) (.seq (rN r80_2) .ret) .skip)) (.seq (rN r80_3) .ret)))
theorem o80:FnI 80 12 Tryz.f80 c80 [(.cell 4 40)]:=⟨Tryz.func80,by kernel_rfl⟩
def r81_0:RL:=[oP 2 (.mov (.k (.vec [] 0 (some 0))))]
def r81_1:RL:=[mV 3 0,oP 4 (.conv .u32 (.t 3)),mV 5 0,oP 6 (.bin .shr (.t 5) (.k (.int .u64 32))),oP 7 (.conv .u32 (.t 6)),oP 8 (.bsl 2 1 [(.int .u32 0),(.int .u32 0)] [(0,(1,(.t 4))),(1,(1,(.t 7)))]),cL 9 108 [.t 8],mV 2 9]
def c81:CC:=(.seq (rN r81_0) (.seq (rN r81_1) .ret))
theorem o81:FnI 81 10 Tryz.f81 c81 [(.tmp 2)]:=⟨Tryz.func81,by kernel_rfl⟩
def r109_0:RL:=[oP 4 (.mov (.k (.vec [] 0 (some 0))))]
def r109_1:RL:=[mV 12 0,lN 13 12,bK 14 .leq 13 1,mV 15 14,gU 16 15 true (.mov (.t 1)),gU 17 15 true (.len false (.t 16)),gU 18 15 true (.bin .leq (.t 17) (kI 1)),oP 19 (.pick (.t 15) (.t 18) (.k (.bool false)))]
def r109_2:RL:=[mV 20 0,cL 21 158 [.t 20],mV 22 1,cL 23 158 [.t 22],bT 24 .mul 21 23,cL 25 81 [.t 24],mV 4 25]
def r109_3:RL:=[mV 26 0,lN 27 26,mV 28 1,lN 29 28,bT 30 .add 27 29,oP 31 (.mksl 1 4 [(.int .u32 0)] (.t 30) (.t 30)),mV 5 31]
def r109_4:RL:=[mV 32 0,lN 33 32,oP 34 (.mov (kI 0))]
def r109_5:RL:=[bT 35 .lss 34 33]
def r109_6:RL:=[mV 36 34,iX 37 1 32 34,ldO 38 false 1 37,mV 6 36,mV 7 38]
def r109_7:RL:=[mV 39 7,oP 40 (.bin .eql (.t 39) (.k (.int .u32 0)))]
def r109_8:RL:=[mV 41 5,mV 42 6,mV 43 6,mV 44 1,lN 45 44,bT 46 .add 43 45,bK 47 .add 46 1,oP 48 (.slice 1 (.t 41) (some (.t 42)) (some (.t 47)) none),mV 8 48]
def r109_9:RL:=[oP 9 (.mov (.k (.int .u64 0)))]
def r109_10:RL:=[mV 49 1,lN 50 49,oP 51 (.mov (kI 0))]
def r109_11:RL:=[bT 52 .lss 51 50]
def r109_12:RL:=[mV 53 51,iX 54 1 49 51,ldO 55 false 1 54,mV 10 53,mV 11 55]
def r109_13:RL:=[mV 56 9,mV 57 7,oP 58 (.conv .u64 (.t 57)),mV 59 11,oP 60 (.conv .u64 (.t 59)),bT 61 .mul 58 60,mV 62 8,mV 63 10,iX 64 1 62 63,ldO 65 false 1 64,oP 66 (.conv .u64 (.t 65)),bT 67 .add 61 66,bT 68 .add 56 67,mV 9 68]
def r109_14:RL:=[mV 69 8,mV 70 10,mV 71 9,oP 72 (.conv .u32 (.t 71)),iX 73 1 69 70,sT (.store 1 (.t 73) (.t 72))]
def r109_15:RL:=[mV 74 9,oP 75 (.bin .shr (.t 74) (.k (.int .u64 32))),mV 9 75]
def r109_16:RL:=[bK 76 .add 51 1,mV 51 76]
def l109_1:CC:=(.seq (rN r109_11) (.seq (.cond (.t 52) .skip (.exit 2)) (.seq (.block 3 (.seq (rN r109_12) (.seq (rN r109_13) (.seq (rN r109_14) (rN r109_15))))) (rN r109_16))))
def r109_17:RL:=[mV 77 8,mV 78 1,lN 79 78,mV 80 9,oP 81 (.conv .u32 (.t 80)),iX 82 1 77 79,sT (.store 1 (.t 82) (.t 81))]
def r109_18:RL:=[bK 83 .add 34 1,mV 34 83]
def l109_0:CC:=(.seq (rN r109_5) (.seq (.cond (.t 35) .skip (.exit 0)) (.seq (.block 1 (.seq (rN r109_6) (.seq (.seq (rN r109_7) (.cond (.t 40) (.exit 1) .skip)) (.seq (rN r109_8) (.seq (rN r109_9) (.seq (.seq (rN r109_10) (.block 2 (.loop l109_1))) (rN r109_17))))))) (rN r109_18))))
def r109_19:RL:=[mV 84 5,cL 85 108 [.t 84],mV 4 85]
def c109:CC:=(.seq (rN r109_0) (.seq (.seq (rN r109_1) (.cond (.t 19) (.seq (rN r109_2) .ret) .skip)) (.seq (rN r109_3) (.seq (.seq (rN r109_4) (.block 0 (.loop l109_0))) (.seq (rN r109_19) .ret)))))
theorem o109:FnI 109 86 Tryz.f109 c109 [(.tmp 4)]:=⟨Tryz.func109,by kernel_rfl⟩
def r52_0:RL:=[oP 2 (.box (.t 0)),oP 3 (.box (.t 1)),oP 4 (.box (.k (.agg [(.bool false),(.vec [] 0 (some 0))])))]
def r52_1:RL:=[oP 5 (.fld 0 (.t 2)),ldO 6 false 1 5,oP 7 (.fld 0 (.t 3)),ldO 8 false 1 7,oP 9 (.beq true (.t 6) (.t 8)),oP 10 (.fld 1 (.t 2)),ldO 11 false 1 10,cL 12 108 [.t 11],oP 13 (.fld 1 (.t 3)),ldO 14 false 1 13,cL 15 108 [.t 14],cL 16 109 [.t 12,.t 15],cL 17 80 [.t 9,.t 16],sT (.store 2 (.t 4) (.t 17))]
def c52:CC:=(.seq (rN r52_0) (.seq (.reg r52_1 (some [(1,3),(1,6),(3,6),(1,7),(3,7),(1,9),(3,9),(6,9),(7,9),(1,10),(3,10),(1,11),(3,11)])) .ret))
theorem o52:FnI 52 18 Tryz.f52 c52 [(.cell 4 40)]:=⟨Tryz.func52,by kernel_rfl⟩
def r35_0:RL:=[oP 2 (.box (.k (.agg [(.bool false),(.vec [] 0 (some 0))])))]
def r35_1:RL:=[mV 3 0,bK 4 .lss 3 0]
def r35_2:RL:=[mV 5 0,oP 6 (.conv .u64 (.t 5)),oP 7 (.un .neg (.t 6)),cL 8 81 [.t 7],cL 9 80 [(.k (.bool true)),.t 8],sT (.store 2 (.t 2) (.t 9))]
def r35_3:RL:=[mV 10 0,oP 11 (.conv .u64 (.t 10)),cL 12 81 [.t 11],cL 13 80 [(.k (.bool false)),.t 12],sT (.store 2 (.t 2) (.t 13))]
def c35:CC:=(.seq (rN r35_0) (.seq (.seq (rN r35_1) (.cond (.t 4) (.seq (rN r35_2) .ret) .skip)) (.seq (rN r35_3) .ret)))
theorem o35:FnI 35 14 Tryz.f35 c35 [(.cell 2 40)]:=⟨Tryz.func35,by kernel_rfl⟩
def r76_0:RL:=[oP 1 (.box (.t 0)),oP 2 (.mov (kI 0))]
def r76_1:RL:=[oP 4 (.fld 1 (.t 1)),ldO 5 false 1 4,cL 6 108 [.t 5],lN 7 6,bK 8 .eql 7 0,mV 3 8]
def r76_2:RL:=[oP 2 (.mov (kI 0))]
def r76_3:RL:=[oP 10 (.fld 0 (.t 1)),ldO 11 false 1 10,mV 9 11]
def r76_4:RL:=[oP 2 (.mov (.k (.int .i64 (-1))))]
def r76_5:RL:=[oP 2 (.mov (kI 1))]
def c76:CC:=(.seq (rN r76_0) (.seq (.block 0 (.seq (rN r76_1) (.cond (.t 3) (.seq (rN r76_2) .ret) (.seq (rN r76_3) (.cond (.t 9) (.seq (rN r76_4) .ret) .skip))))) (.seq (rN r76_5) .ret)))
theorem o76:FnI 76 12 Tryz.f76 c76 [(.tmp 2)]:=⟨Tryz.func76,by kernel_rfl⟩
def r107_0:RL:=[oP 4 (.mov (kI 0))]
def r107_1:RL:=[mV 7 0,lN 8 7,mV 9 1,lN 10 9,bT 11 .lss 8 10,mV 6 11]
def r107_2:RL:=[oP 4 (.mov (.k (.int .i64 (-1))))]
def r107_3:RL:=[mV 13 0,lN 14 13,mV 15 1,lN 16 15,bT 17 .gtr 14 16,mV 12 17]
def r107_4:RL:=[oP 4 (.mov (kI 1))]
def r107_5:RL:=[mV 18 0,lN 19 18,bK 20 .sub 19 1,mV 5 20]
def r107_6:RL:=[mV 21 5,bK 22 .geq 21 0]
def r107_7:RL:=[mV 26 0,mV 27 5,iX 28 1 26 27,ldO 29 false 1 28,mV 30 1,mV 31 5,iX 32 1 30 31,ldO 33 false 1 32,bT 34 .lss 29 33,mV 25 34]
def r107_8:RL:=[oP 4 (.mov (.k (.int .i64 (-1))))]
def r107_9:RL:=[mV 36 0,mV 37 5,iX 38 1 36 37,ldO 39 false 1 38,mV 40 1,mV 41 5,iX 42 1 40 41,ldO 43 false 1 42,bT 44 .gtr 39 43,mV 35 44]
def r107_10:RL:=[oP 4 (.mov (kI 1))]
def r107_11:RL:=[mV 23 5,bK 24 .sub 23 1,mV 5 24]
def l107_0:CC:=(.seq (.seq (rN r107_6) (.cond (.t 22) .skip (.exit 1))) (.seq (.block 2 (.block 3 (.seq (.reg r107_7 (some [(3,7)])) (.cond (.t 25) (.seq (rN r107_8) .ret) (.seq (.reg r107_9 (some [(3,7)])) (.cond (.t 35) (.seq (rN r107_10) .ret) .skip)))))) (rN r107_11)))
def r107_12:RL:=[oP 4 (.mov (kI 0))]
def c107:CC:=(.seq (rN r107_0) (.seq (.block 0 (.seq (rN r107_1) (.cond (.t 6) (.seq (rN r107_2) .ret) (.seq (rN r107_3) (.cond (.t 12) (.seq (rN r107_4) .ret) .skip))))) (.seq (.seq (rN r107_5) (.block 1 (.loop l107_0))) (.seq (rN r107_12) .ret))))
theorem o107:FnI 107 45 Tryz.f107 c107 [(.tmp 4)]:=⟨Tryz.func107,by kernel_rfl⟩
def r77_0:RL:=[oP 1 (.box (.t 0)),oP 2 (.box (.k (.agg [(.bool false),(.vec [] 0 (some 0))])))]
def r77_1:RL:=[oP 3 (.fld 0 (.t 1)),ldO 4 false 1 3,oP 5 (.fld 1 (.t 1)),ldO 6 false 1 5,cL 7 108 [.t 6],cL 8 142 [.t 7],cL 9 80 [.t 4,.t 8],sT (.store 2 (.t 2) (.t 9))]
def c77:CC:=(.seq (rN r77_0) (.seq (.reg r77_1 (some [(1,3),(1,4),(1,5)])) .ret))
theorem o77:FnI 77 10 Tryz.f77 c77 [(.cell 2 40)]:=⟨Tryz.func77,by kernel_rfl⟩
def r143_0:RL:=[oP 4 (.mov (.k (.vec [] 0 (some 0)))),oP 5 (.mov (.k (.vec [] 0 (some 0))))]
def r143_1:RL:=[mV 14 0,mV 15 1,cL 16 107 [.t 14,.t 15],bK 17 .lss 16 0,mV 13 17]
def r143_2:RL:=[mV 18 0,cL 19 142 [.t 18],oP 4 (.mov (.k (.vec [] 0 (some 0)))),mV 5 19]
def r143_3:RL:=[mV 21 0,lN 22 21,bK 23 .leq 22 2,mV 20 23]
def r143_4:RL:=[mV 24 0,cL 25 158 [.t 24],mV 26 1,cL 27 158 [.t 26],mV 6 25,mV 7 27]
def r143_5:RL:=[mV 28 6,mV 29 7,bT 30 .quo 28 29,cL 31 81 [.t 30],mV 32 6,mV 33 7,bT 34 .rem 32 33,cL 35 81 [.t 34],mV 4 31,mV 5 35]
def r143_6:RL:=[mV 37 1,lN 38 37,bK 39 .eql 38 1,mV 36 39]
def r143_7:RL:=[mV 40 0,cL 41 142 [.t 40],mV 4 41]
def r143_8:RL:=[mV 42 4,mV 43 1,oP 44 (.idx 1 (.t 43) (kI 0)),ldO 45 false 1 44,cL 46 182 [.t 42,.t 45],mV 8 46]
def r143_9:RL:=[mV 47 4,cL 48 108 [.t 47],mV 49 8,oP 50 (.conv .u64 (.t 49)),cL 51 81 [.t 50],mV 4 48,mV 5 51]
def r143_10:RL:=[mV 52 1,mV 53 1,lN 54 53,bK 55 .sub 54 1,iX 56 1 52 55,ldO 57 false 1 56,cL 58 192 [.t 57],mV 9 58]
def r143_11:RL:=[mV 59 1,mV 60 9,cL 61 193 [.t 59,.t 60],mV 62 1,lN 63 62,oP 64 (.slice 1 (.t 61) none (some (.t 63)) none),mV 10 64]
def r143_12:RL:=[mV 65 0,mV 66 9,cL 67 193 [.t 65,.t 66],mV 11 67]
def r143_13:RL:=[mV 68 0,lN 69 68,mV 70 1,lN 71 70,bT 72 .sub 69 71,bK 73 .add 72 1,oP 74 (.mksl 1 4 [(.int .u32 0)] (.t 73) (.t 73)),mV 4 74]
def r143_14:RL:=[mV 75 0,lN 76 75,mV 77 1,lN 78 77,bT 79 .sub 76 78,mV 12 79]
def r143_15:RL:=[mV 80 12,bK 81 .geq 80 0]
def r143_16:RL:=[mV 84 4,mV 85 12,mV 86 11,mV 87 12,mV 88 12,mV 89 1,lN 90 89,bT 91 .add 88 90,bK 92 .add 91 1,oP 93 (.slice 1 (.t 86) (some (.t 87)) (some (.t 92)) none),mV 94 10,cL 95 194 [.t 93,.t 94],iX 96 1 84 85,sT (.store 1 (.t 96) (.t 95))]
def r143_17:RL:=[mV 82 12,bK 83 .sub 82 1,mV 12 83]
def l143_0:CC:=(.seq (.seq (rN r143_15) (.cond (.t 81) .skip (.exit 1))) (.seq (.block 2 (rN r143_16)) (rN r143_17)))
def r143_18:RL:=[mV 97 11,mV 98 9,cL 99 195 [.t 97,.t 98]]
def r143_19:RL:=[mV 100 4,cL 101 108 [.t 100],mV 102 11,cL 103 108 [.t 102],mV 4 101,mV 5 103]
def c143:CC:=(.seq (rN r143_0) (.seq (.block 0 (.seq (rN r143_1) (.cond (.t 13) (.seq (rN r143_2) .ret) (.seq (rN r143_3) (.cond (.t 20) (.seq (rN r143_4) (.seq (.reg r143_5 (some [])) .ret)) (.seq (rN r143_6) (.cond (.t 36) (.seq (rN r143_7) (.seq (rN r143_8) (.seq (rN r143_9) .ret))) .skip))))))) (.seq (rN r143_10) (.seq (rN r143_11) (.seq (rN r143_12) (.seq (rN r143_13) (.seq (.seq (rN r143_14) (.block 1 (.loop l143_0))) (.seq (rN r143_18) (.seq (rN r143_19) .ret)))))))))
theorem o143:FnI 143 104 Tryz.f143 c143 [(.tmp 4),(.tmp 5)]:=⟨Tryz.func143,by kernel_rfl⟩
def r79_0:RL:=[oP 2 (.box (.t 0)),oP 3 (.box (.t 1)),oP 4 (.box (.k (.agg [(.bool false),(.vec [] 0 (some 0))]))),oP 5 (.box (.k (.agg [(.bool false),(.vec [] 0 (some 0))]))),oP 6 (.mov (.k (.bool false)))]
def r79_1:RL:=[oP 11 (.fld 1 (.t 3)),ldO 12 false 1 11,cL 13 108 [.t 12],mV 7 13]
def r79_2:RL:=[mV 14 7,lN 15 14,bK 16 .eql 15 0]
def r79_3:RL:=[oP 17 (.build [(.bool false),(.vec [] 0 (some 0))] []),oP 18 (.build [(.bool false),(.vec [] 0 (some 0))] []),sT (.store 2 (.t 4) (.t 17)),sT (.store 2 (.t 5) (.t 18)),oP 6 (.mov (.k (.bool false)))]
def r79_4:RL:=[oP 20 (.fld 1 (.t 2)),ldO 21 false 1 20,cL 22 108 [.t 21],mV 23 7,cL 24 143 [.t 22,.t 23],mV 19 24,eX 25 19 0,eX 26 19 1,mV 8 25,mV 9 26]
def r79_5:RL:=[oP 27 (.fld 0 (.t 3)),ldO 28 false 1 27,mV 10 28]
def r79_6:RL:=[oP 30 (.fld 0 (.t 2)),ldO 31 false 1 30,mV 32 31,gU 33 32 true (.mov (.t 9)),gU 34 32 true (.len false (.t 33)),gU 35 32 true (.bin .gtr (.t 34) (kI 0)),oP 36 (.pick (.t 32) (.t 35) (.k (.bool false))),mV 29 36]
def r79_7:RL:=[oP 38 (.fld 0 (.t 2)),ldO 39 false 1 38,mV 37 39]
def r79_8:RL:=[mV 40 8,oP 41 (.bsl 1 1 [(.int .u32 0)] [(0,(1,(.k (.int .u32 1))))]),cL 42 144 [.t 40,.t 41],mV 8 42]
def r79_9:RL:=[mV 43 7,mV 44 9,cL 45 145 [.t 43,.t 44],mV 9 45]
def r79_10:RL:=[mV 46 10,oP 47 (.un .not (.t 46)),mV 10 47]
def r79_11:RL:=[mV 48 10,mV 49 8,cL 50 80 [.t 48,.t 49],mV 51 9,cL 52 80 [(.k (.bool false)),.t 51],sT (.store 2 (.t 4) (.t 50)),sT (.store 2 (.t 5) (.t 52)),oP 6 (.mov (.k (.bool true)))]
def c79:CC:=(.seq (rN r79_0) (.seq (rN r79_1) (.seq (.seq (rN r79_2) (.cond (.t 16) (.seq (rN r79_3) .ret) .skip)) (.seq (rN r79_4) (.seq (rN r79_5) (.seq (.block 0 (.seq (.block 2 (.seq (.block 1 (.seq (.seq (.seq (rN r79_6) (.cond (.t 29) (.exit 1) .skip)) (.seq (rN r79_7) (.cond (.t 37) (.exit 2) .skip))) (.exit 0))) (.seq (rN r79_8) (rN r79_9)))) (.seq (rN r79_10) (.exit 0)))) (.seq (rN r79_11) .ret)))))))
theorem o79:FnI 79 53 Tryz.f79 c79 [(.cell 4 40),(.cell 5 40),(.tmp 6)]:=⟨Tryz.func79,by kernel_rfl⟩
def r142_0:RL:=[oP 2 (.mov (.k (.vec [] 0 (some 0))))]
def r142_1:RL:=[mV 3 0,oP 4 (.snil false (.t 3))]
def r142_2:RL:=[oP 2 (.mov (.k (.vec [] 0 (some 0))))]
def r142_3:RL:=[oP 5 (.bsl 0 1 [] []),mV 6 0,oP 7 (.append 1 4 (.t 5) (.t 6)),mV 2 7]
def c142:CC:=(.seq (rN r142_0) (.seq (.seq (rN r142_1) (.cond (.t 4) (.seq (rN r142_2) .ret) .skip)) (.seq (rN r142_3) .ret)))
theorem o142:FnI 142 8 Tryz.f142 c142 [(.tmp 2)]:=⟨Tryz.func142,by kernel_rfl⟩
theorem qgq (cs:List AV) (c:Option Nat):Rt 142 [.vec cs 0 c] [] (.vec [] 0 (some 0)) []:=by
 refine oF o142 ?_
 simp only [c142,r142_0,r142_1,r142_2,r142_3,SS,reduceCtorEq,reduceIte,qQ]
 refine ⟨⟨.inl trivial,_,rfl,.keep _ _⟩,?_⟩
 simp only [zbf,lenA,zde,need,qC,Nat.zero_mul,Nat.le_refl,Nat.zero_le,and_self,if_true,zao,zad,List.take_zero]
 exact ⟨.inl trivial,_,rfl,.freeze 1 _ _ _ rfl (by intro i cs h;omega)⟩
theorem qym (cs:List AV) (n:Nat) (c:Option Nat) (h0:0<n) (hn:n<=cs.length) (hb:16*n<=2^48):Rt 142 [.vec cs n c] [] (.sl 1 0 n 1 none) [some [],some (cs.take n)]:=by
 refine oF o142 ?_
 simp only [c142,r142_0,r142_1,r142_2,r142_3,SS,fC,reduceCtorEq,reduceIte,qQ,show n≠0 by omega,if_false]
 have e1:n*1<=cs.length:=by omega
 simp only [zbf,lenA,zde,need,qC,hn,Nat.le_refl,and_self,if_true,show n≠0 by omega,if_false,getB,List.getElem?_cons_zero,Nat.zero_le,Nat.zero_add,true_and,show 4*n*4<=2^48 by omega,show n<2^62 by omega,zao,zad,Nat.mul_one,List.set_cons_succ,List.set_cons_zero,List.take_zero,List.nil_append]
 exact ⟨.inl trivial,_,rfl,.keep _ _⟩
def g142:List AV->Heap->Option (AV×Heap)
 | [.vec cs n _],[]=>match n with
  | 0=>some (.vec [] 0 (some 0),[])
  | n+1=>if n+1<=cs.length/\16*(n+1)<=281474976710656 then some (.sl 1 0 (n+1) 1 none,[some [],some (cs.take (n+1))]) else none
 | _,_=>none
theorem qud {args:List AV} {H:Heap} {v:AV} {H':Heap} (h:g142 args H=some (v,H')):Rt 142 args H v H':=by
 unfold g142 at h
 split at h
 ·split at h
  ·simp only [qB,Prod.mk.injEq] at h
   obtain ⟨rfl,rfl⟩:=h
   exact qgq _ _
  ·split at h
   ·rename_i hh
    simp only [qB,Prod.mk.injEq] at h
    obtain ⟨rfl,rfl⟩:=h
    exact qym _ _ _ (by omega) hh.1 hh.2
   ·simp at h
 ·simp at h
theorem n1:((1:Nat):Int)=1:=rfl
theorem n2:((2:Nat):Int)=2:=rfl
theorem wi0:IntKind.i64.wrap 0=0:=rfl
theorem wi1:IntKind.i64.wrap 1=1:=rfl
theorem wi2:IntKind.i64.wrap 2=2:=rfl
theorem wim1:IntKind.i64.wrap (-1)= -1:=rfl
theorem tn0:Int.toNat 0=0:=rfl
theorem tn1:Int.toNat 1=1:=rfl
theorem le0:((0:Int)<=0)=True:=eq_true (by decide)
theorem lt01:((0:Int)<1)=True:=eq_true (by decide)
theorem lt12:((1:Int)<2)=True:=eq_true (by decide)
theorem ne0 {x:Nat} (h:x≠0):decide ((x:Int)=0)=false:=by simp;omega
theorem qcb (c:Option Nat):Rt 108 [.vec [] 0 c] [] (.vec [] 0 c) []:=by
 refine oF o108 ?_
 simp only [c108,r108_0,SS,reduceCtorEq]
 refine W_un zhb 1 (zfc ?_)
 simp only [l108_0,r108_1,SS,fC,reduceCtorEq,reduceIte,qQ,qZ,decide_false,qJ,qY,qK,qW,qV,wim1]
 simp only [r108_3,SS,reduceCtorEq,reduceIte,qQ]
 exact kR
theorem zil (x:Nat) (c:Option Nat) (hx:x≠0):Rt 108 [.vec [.int .u32 x] 1 c] [] (.vec [.int .u32 x] 1 c) []:=by
 have h0:=ne0 hx
 refine oF o108 ?_
 simp only [c108,r108_0,SS,reduceCtorEq]
 refine W_un zhb 1 (zfc ?_)
 simp only [l108_0,r108_1,SS,fC,reduceCtorEq,reduceIte,qQ,qZ,decide_true,qK,n1,wi0,tn0,le0,lt01,h0]
 simp only [r108_3,SS,reduceCtorEq,reduceIte,qQ]
 exact kR
theorem que (x:Nat) (k:Nat) (hx:x≠0):Rt 108 [.sl 0 0 2 1 (some k)] [some [.int .u32 x,.int .u32 0]] (.sl 0 0 1 1 (some k)) [some [.int .u32 x,.int .u32 0]]:=by
 have h0:=ne0 hx
 refine oF o108 ?_
 simp only [c108,r108_0,SS,reduceCtorEq]
 refine W_un zhb 2 (zfc ?_)
 simp only [l108_0,r108_1,r108_2,SS,fC,reduceCtorEq,reduceIte,qX,qQ,qZ,decide_true,qJ,qY,qK,qX,qU,n2,wi1,tn1,lt12]
 refine zfc ?_
 simp only [SS,fC,reduceCtorEq,reduceIte,qX,qQ,qZ,decide_true,qK,qX,qU,n1,wi0,tn0,le0,lt01,h0]
 simp only [r108_3,SS,reduceCtorEq,reduceIte,qQ]
 exact kR
theorem qnf (k:Nat):Rt 108 [.sl 0 0 2 1 (some k)] [some [.int .u32 0,.int .u32 0]] (.vec [] 0 (some k)) [some [.int .u32 0,.int .u32 0]]:=by
 refine oF o108 ?_
 simp only [c108,r108_0,SS,reduceCtorEq]
 refine W_un zhb 3 (zfc ?_)
 simp only [l108_0,r108_1,r108_2,SS,fC,reduceCtorEq,reduceIte,qX,qQ,qZ,decide_true,qJ,qY,qK,qX,qU,n2,wi1,tn1,lt12]
 refine zfc ?_
 simp only [SS,fC,reduceCtorEq,reduceIte,qX,qQ,qZ,decide_true,qK,qX,qU,n1,wi0,tn0,le0,lt01]
 refine zfc ?_
 simp only [SS,fC,reduceCtorEq,reduceIte,qQ,qZ,decide_false,qJ,qY,qK,qW,qV,wim1]
 simp only [r108_3,SS,reduceCtorEq,reduceIte,qQ]
 exact kR
theorem quf (c:Option Nat):Rt 158 [.vec [] 0 c] [] (.int .u64 0) []:=by
 refine oF o158 ?_
 simp only [c158,r158_0,r158_1,r158_2,SS,reduceCtorEq,reduceIte]
 refine W_un zhb 1 (zfc ?_)
 simp only [l158_0,r158_3,SS,fC,reduceCtorEq,reduceIte,qQ,decide_false,qJ,qV]
 simp only [r158_7,SS,reduceIte,qQ]
 exact kR
theorem zni (x:Nat) (c:Option Nat) (hx:x<4294967296):Rt 158 [.vec [.int .u32 x] 1 c] [] (.int .u64 x) []:=by
 have w1:IntKind.u64.wrap (x:Int)=x:=zhy (by omega)
 have w2:IntKind.u64.wrap ((BitVec.ofInt IntKind.u64.bits 0 ||| BitVec.ofInt IntKind.u64.bits (x:Int)).toNat:Int)=x:=qgh (x:=x) (by omega)
 refine oF o158 ?_
 simp only [c158,r158_0,r158_1,r158_2,SS,reduceCtorEq,reduceIte]
 refine W_un zhb 2 (zfc ?_)
 simp only [l158_0,r158_3,SS,fC,reduceCtorEq,reduceIte,qQ,decide_true,n1,lt01]
 simp only [r158_4,r158_5,SS,fC,reduceIte,qQ,qZ,Int.reduceMul,n1,wi0,tn0,le0,lt01,w1,Nat.zero_min,Int.pow_zero,Int.mul_one,w2]
 simp only [r158_6,SS,reduceIte,qQ,Int.reduceAdd,wi1]
 refine zfc ?_
 simp only [SS,fC,reduceCtorEq,reduceIte,qX,qQ,qZ,decide_false,qJ,qY,qX,n1,tn1]
 simp only [r158_7,SS,reduceIte,qQ]
 exact kR
theorem zll (s:Bool) (cs:List AV) (c:Option Nat):Rt 80 [.bool s,.vec cs 0 c] [] (.agg [.bool false,.vec [] 0 (some 0)]) []:=by
 refine oF o80 ?_
 simp only [c80,r80_0,r80_1,r80_2,SS,fC,reduceCtorEq,reduceIte,qX,qQ,qZ,decide_true,qX,qV]
 exact dR
theorem zjn (s:Bool) (l:List AV) (c:Option Nat):Rt 80 [.bool s,.vec l 1 c] [] (.agg [.bool s,.vec l 1 c]) []:=by
 refine oF o80 ?_
 simp only [c80,r80_0,r80_1,r80_3,SS,fC,reduceCtorEq,reduceIte,qX,qQ,qZ,decide_false,Int.reduceEq,qX,n1]
 exact dR
theorem zjo:Rt 81 [.int .u64 0] [] (.vec [] 0 (some 2)) []:=by
 have w1:IntKind.u32.wrap 0=0:=rfl
 have w2:Int.fdiv 0 (2^min (Int.toNat 32) IntKind.u64.bits)=0:=rfl
 refine oF o81 ?_
 simp only [c81,r81_0,r81_1,SS,reduceCtorEq,reduceIte,qX,qQ,qZ,qY,qX,w1,w2]
 refine callA_one (qnf 2) rfl rfl ?_
 simp only [zaj,zad,qA,qD,SS,reduceIte,qQ]
 exact ⟨.inl trivial,_,rfl,.freeze 3 _ _ _ rfl (by intro i cs h;omega)⟩
theorem zex (x:Nat) (hx:x≠0) (hx':x<4294967296):Rt 81 [.int .u64 x] [] (.vec [.int .u32 x] 1 (some 2)) []:=by
 have w1:IntKind.u32.wrap (x:Int)=x:=qmy hx'
 have w3:IntKind.u32.wrap 0=0:=rfl
 have w2:Int.fdiv (x:Int) (2^min (Int.toNat 32) IntKind.u64.bits)=0:=by
  show Int.fdiv (x:Int) 4294967296=0
  rw [Int.fdiv_eq_ediv_of_nonneg _ (by decide)]
  omega
 refine oF o81 ?_
 simp only [c81,r81_0,r81_1,SS,reduceCtorEq,reduceIte,qX,qQ,qZ,qY,qX,w1,w2,w3]
 refine callA_one (que x 2 hx) rfl rfl ?_
 simp only [zaj,zad,qA,qD,SS,reduceIte,qQ]
 exact ⟨.inl trivial,_,rfl,.freeze 3 _ _ _ rfl (by intro i cs h;omega)⟩
theorem qng (y:Nat) (c d:Option Nat) (hy:y≠0) (hy':y<4294967296):Rt 109 [.vec [] 0 c,.vec [.int .u32 y] 1 d] [] (.vec [] 0 (some 2)) []:=by
 have w1:IntKind.u64.wrap 0=0:=rfl
 refine oF o109 ?_
 simp only [c109,SS,reduceCtorEq]
 simp only [r109_0,SS]
 simp only [r109_1,SS,fC,reduceCtorEq,reduceIte,qQ,decide_true,qY,n1,qV]
 simp only [r109_2,SS,reduceCtorEq,reduceIte,qQ]
 refine zaa (quf c) ?_
 simp only [SS,reduceIte,qQ]
 refine zaa (zni y d hy') ?_
 simp only [SS,reduceIte,qQ,w1,Int.zero_mul]
 refine zaa zjo ?_
 simp only [SS,reduceIte,qQ]
 exact kR
theorem qnh (x:Nat) (c d:Option Nat) (hx:x≠0) (hx':x<4294967296):Rt 109 [.vec [.int .u32 x] 1 c,.vec [] 0 d] [] (.vec [] 0 (some 2)) []:=by
 have w1:IntKind.u64.wrap 0=0:=rfl
 refine oF o109 ?_
 simp only [c109,SS,reduceCtorEq]
 simp only [r109_0,SS]
 simp only [r109_1,SS,fC,reduceCtorEq,reduceIte,qQ,decide_true,qY,n1,qV]
 simp only [r109_2,SS,reduceCtorEq,reduceIte,qQ]
 refine zaa (zni x c hx') ?_
 simp only [SS,reduceIte,qQ]
 refine zaa (quf d) ?_
 simp only [SS,reduceIte,qQ,w1,Int.mul_zero]
 refine zaa zjo ?_
 simp only [SS,reduceIte,qQ]
 exact kR
theorem qni (x:Nat) (y:Nat) (c d:Option Nat) (hx:x≠0) (hx':x<4294967296) (hy:y≠0) (hy':y<4294967296) (hxy:x*y<4294967296):Rt 109 [.vec [.int .u32 x] 1 c,.vec [.int .u32 y] 1 d] [] (.vec [.int .u32 (x*y:Nat)] 1 (some 2)) []:=by
 have w1:IntKind.u64.wrap ((x:Int)*(y:Int))=((x*y:Nat):Int):=by rw [<-Int.natCast_mul];exact zhy (by omega)
 have hn:x*y≠0:=Nat.mul_ne_zero hx hy
 refine oF o109 ?_
 simp only [c109,SS,reduceCtorEq]
 simp only [r109_0,SS]
 simp only [r109_1,SS,fC,reduceCtorEq,reduceIte,qQ,decide_true,qY,n1]
 simp only [r109_2,SS,reduceCtorEq,reduceIte,qQ]
 refine zaa (zni x c hx') ?_
 simp only [SS,reduceIte,qQ]
 refine zaa (zni y d hy') ?_
 simp only [SS,reduceIte,qQ,w1]
 refine zaa (zex _ hn hxy) ?_
 simp only [SS,reduceIte,qQ]
 exact kR
theorem jaw (s t:Bool) (y:Nat) (c d:Option Nat) (hy:y≠0) (hy':y<4294967296):Rt 52 [.agg [.bool s,.vec [] 0 c],.agg [.bool t,.vec [.int .u32 y] 1 d]] [] (.agg [.bool false,.vec [] 0 (some 0)]) []:=by
 refine oF o52 ?_
 simp only [c52,SS,reduceCtorEq]
 simp only [r52_0,SS,reduceIte,qX,qQ]
 simp only [r52_1,SS,fC,reduceIte,qX,qQ,qZ,qX]
 refine zaa (qcb c) ?_
 simp only [SS,fC,reduceIte,qX,qQ,qZ,qX]
 refine zaa (zil y d hy) ?_
 simp only [SS,reduceIte,qQ]
 refine zaa (qng y c d hy hy') ?_
 simp only [SS,reduceIte,qQ]
 refine zaa (zll _ _ _) ?_
 simp only [SS,reduceIte,qX,qQ,qZ,qX]
 refine ⟨rfl,?_⟩
 exact dR
theorem jax (s t:Bool) (x:Nat) (c d:Option Nat) (hx:x≠0) (hx':x<4294967296):Rt 52 [.agg [.bool s,.vec [.int .u32 x] 1 c],.agg [.bool t,.vec [] 0 d]] [] (.agg [.bool false,.vec [] 0 (some 0)]) []:=by
 refine oF o52 ?_
 simp only [c52,SS,reduceCtorEq]
 simp only [r52_0,SS,reduceIte,qX,qQ]
 simp only [r52_1,SS,fC,reduceIte,qX,qQ,qZ,qX]
 refine zaa (zil x c hx) ?_
 simp only [SS,fC,reduceIte,qX,qQ,qZ,qX]
 refine zaa (qcb d) ?_
 simp only [SS,reduceIte,qQ]
 refine zaa (qnh x c d hx hx') ?_
 simp only [SS,reduceIte,qQ]
 refine zaa (zll _ _ _) ?_
 simp only [SS,reduceIte,qX,qQ,qZ,qX]
 refine ⟨rfl,?_⟩
 exact dR
theorem qyn (s t:Bool) (x:Nat) (y:Nat) (c d:Option Nat) (hx:x≠0) (hx':x<4294967296) (hy:y≠0) (hy':y<4294967296) (hxy:x*y<4294967296):Rt 52 [.agg [.bool s,.vec [.int .u32 x] 1 c],.agg [.bool t,.vec [.int .u32 y] 1 d]] [] (.agg [.bool (!(s == t)),.vec [.int .u32 (x*y:Nat)] 1 (some 2)]) []:=by
 refine oF o52 ?_
 simp only [c52,SS,reduceCtorEq]
 simp only [r52_0,SS,reduceIte,qX,qQ]
 simp only [r52_1,SS,fC,reduceIte,qX,qQ,qZ,qX]
 refine zaa (zil x c hx) ?_
 simp only [SS,fC,reduceIte,qX,qQ,qZ,qX]
 refine zaa (zil y d hy) ?_
 simp only [SS,reduceIte,qQ]
 refine zaa (qni x y c d hx hx' hy hy' hxy) ?_
 simp only [SS,reduceIte,qQ]
 refine zaa (zjn _ _ _) ?_
 simp only [SS,reduceIte,qX,qQ,qZ,qX]
 refine ⟨rfl,?_⟩
 exact dR
theorem qyo:Rt 35 [.int .i64 0] [] (.agg [.bool false,.vec [] 0 (some 0)]) []:=by
 have w1:IntKind.u64.wrap 0=0:=rfl
 refine oF o35 ?_
 simp only [c35,SS,reduceCtorEq]
 simp only [r35_0,SS]
 simp only [r35_1,SS,fC,reduceCtorEq,reduceIte,qQ,decide_false,qJ]
 simp only [r35_3,SS,reduceCtorEq,reduceIte,qQ,w1]
 refine zaa zjo ?_
 simp only [SS,reduceIte,qQ]
 refine zaa (zll _ _ _) ?_
 simp only [SS,reduceIte,qX,qQ,qZ,qX]
 exact dR
theorem zyt (x:Nat) (hx:x≠0) (hx':x<4294967296):Rt 35 [.int .i64 x] [] (.agg [.bool false,.vec [.int .u32 x] 1 (some 2)]) []:=by
 have w1:IntKind.u64.wrap (x:Int)=x:=zhy (by omega)
 have h1:decide ((x:Int)<0)=false:=by simp
 refine oF o35 ?_
 simp only [c35,SS,reduceCtorEq]
 simp only [r35_0,SS]
 simp only [r35_1,SS,fC,reduceCtorEq,reduceIte,qQ,h1]
 simp only [r35_3,SS,reduceCtorEq,reduceIte,qQ,w1]
 refine zaa (zex x hx hx') ?_
 simp only [SS,reduceIte,qQ]
 refine zaa (zjn _ _ _) ?_
 simp only [SS,reduceIte,qX,qQ,qZ,qX]
 exact dR
theorem jay (s:Bool) (c:Option Nat):Rt 76 [.agg [.bool s,.vec [] 0 c]] [] (.int .i64 0) []:=by
 refine oF o76 ?_
 simp only [c76,SS,reduceCtorEq]
 simp only [r76_0,SS]
 simp only [r76_1,SS,fC,reduceIte,qX,qQ,qZ,qX]
 refine zaa (qcb c) ?_
 simp only [SS,fC,reduceIte,qQ,decide_true,qV]
 simp only [r76_2,SS]
 exact dR
theorem znj (x:Nat) (c:Option Nat) (hx:x≠0) (hx':x<4294967296):Rt 76 [.agg [.bool false,.vec [.int .u32 x] 1 c]] [] (.int .i64 1) []:=by
 refine oF o76 ?_
 simp only [c76,SS,reduceCtorEq]
 simp only [r76_0,SS]
 simp only [r76_1,SS,fC,reduceIte,qX,qQ,qZ,qX]
 refine zaa (zil x c hx) ?_
 simp only [SS,fC,reduceIte,qQ,decide_false,Int.reduceEq,n1]
 simp only [r76_3,SS,fC,reduceIte,qX,qQ,qZ,qX]
 simp only [r76_5,SS]
 exact dR
theorem qnj (l:List AV) (c d:Option Nat):Rt 107 [.vec [] 0 c,.vec l 1 d] [] (.int .i64 (-1)) []:=by
 refine oF o107 ?_
 simp only [c107,SS,reduceCtorEq]
 simp only [r107_0,SS]
 simp only [r107_1,SS,fC,reduceCtorEq,reduceIte,qQ,decide_true,qW,n1,qV,lt01]
 simp only [r107_2,SS,qW]
 exact kR
theorem qnk (x y:Nat) (c d:Option Nat) (h1:decide ((x:Int)<(y:Int))=true):Rt 107 [.vec [.int .u32 x] 1 c,.vec [.int .u32 y] 1 d] [] (.int .i64 (-1)) []:=by
 refine oF o107 ?_
 simp only [c107,SS,reduceCtorEq]
 simp only [r107_0,SS]
 simp only [r107_1,SS,fC,reduceCtorEq,reduceIte,qQ,decide_false,qJ,qW,n1]
 simp only [r107_3,SS,fC,reduceCtorEq,reduceIte,qQ,decide_false,qJ,qW,n1]
 simp only [r107_5,SS,reduceCtorEq,reduceIte,qQ,qK,qW,n1,wi0]
 refine W_un zhb 2 (zfc ?_)
 simp only [l107_0,r107_6,SS,fC,reduceCtorEq,reduceIte,qQ,decide_true,qW,le0]
 simp only [r107_7,SS,fC,reduceCtorEq,reduceIte,qQ,qZ,qW,n1,tn0,le0,lt01,h1]
 refine ⟨rfl,?_⟩
 simp only [r107_8,SS]
 exact kR
theorem qnl (x y:Nat) (c d:Option Nat) (h1:decide ((x:Int)<(y:Int))=false) (h2:decide ((y:Int)<(x:Int))=true):Rt 107 [.vec [.int .u32 x] 1 c,.vec [.int .u32 y] 1 d] [] (.int .i64 1) []:=by
 refine oF o107 ?_
 simp only [c107,SS,reduceCtorEq]
 simp only [r107_0,SS]
 simp only [r107_1,SS,fC,reduceCtorEq,reduceIte,qQ,decide_false,qJ,n1]
 simp only [r107_3,SS,fC,reduceCtorEq,reduceIte,qQ,decide_false,qJ,n1]
 simp only [r107_5,SS,reduceCtorEq,reduceIte,qQ,qK,n1,wi0]
 refine W_un zhb 2 (zfc ?_)
 simp only [l107_0,r107_6,SS,fC,reduceCtorEq,reduceIte,qQ,decide_true,le0]
 simp only [r107_7,SS,fC,reduceCtorEq,reduceIte,qQ,qZ,n1,tn0,le0,lt01,h1]
 refine ⟨rfl,?_⟩
 simp only [r107_9,SS,fC,reduceCtorEq,reduceIte,qQ,qZ,n1,tn0,le0,lt01,h2]
 refine ⟨rfl,?_⟩
 simp only [r107_10,SS]
 exact kR
theorem qnm (x y:Nat) (c d:Option Nat) (h1:decide ((x:Int)<(y:Int))=false) (h2:decide ((y:Int)<(x:Int))=false):Rt 107 [.vec [.int .u32 x] 1 c,.vec [.int .u32 y] 1 d] [] (.int .i64 0) []:=by
 refine oF o107 ?_
 simp only [c107,SS,reduceCtorEq]
 simp only [r107_0,SS]
 simp only [r107_1,SS,fC,reduceCtorEq,reduceIte,qQ,decide_false,qJ,n1]
 simp only [r107_3,SS,fC,reduceCtorEq,reduceIte,qQ,decide_false,qJ,n1]
 simp only [r107_5,SS,reduceCtorEq,reduceIte,qQ,qK,n1,wi0]
 refine W_un zhb 2 (zfc ?_)
 simp only [l107_0,r107_6,SS,fC,reduceCtorEq,reduceIte,qQ,decide_true,le0]
 simp only [r107_7,SS,fC,reduceCtorEq,reduceIte,qQ,qZ,n1,tn0,le0,lt01,h1]
 refine ⟨rfl,?_⟩
 simp only [r107_9,SS,fC,reduceCtorEq,reduceIte,qQ,qZ,n1,tn0,le0,lt01,h2]
 refine ⟨rfl,?_⟩
 simp only [r107_11,SS,reduceIte,qQ,qK,qW,wim1]
 refine zfc ?_
 simp only [SS,fC,reduceCtorEq,reduceIte,qQ,qZ,decide_false,qJ,qY,qW,n1]
 simp only [r107_12,SS]
 exact kR
theorem m1:((0:Int)<=1/\(1:Int)<=1/\(1:Int)*(4:Nat)<=2^48/\(1:Int)<2^63)=True:=eq_true (by decide)
theorem m2:((0:Int)<=2/\(2:Int)<=2/\(2:Int)*(4:Nat)<=2^48/\(2:Int)<2^63)=True:=eq_true (by decide)
def r8_0:RL:=[oP 2 (.box (.t 0)),oP 4 (.mov (.k (.vec [] 0 (some 0))))]
def r8_1:RL:=[ldO 9 true 4 2,mV 10 1,cL 11 25 [.t 9,.t 10],cL 12 24 [.t 11],cL 13 23 [.t 12],mV 8 13,eX 14 8 0,eX 15 8 1,eX 16 8 2,mV 5 14,mV 6 15,mV 7 16]
def r8_2:RL:=[mV 17 5,mV 4 17]
def c8:CC:=(.seq (rN r8_0) (.seq (rN r8_1) (.seq (rN r8_2) .ret)))
theorem o8:FnI 8 18 Tryz.f8 c8 [(.tmp 4)]:=⟨Tryz.func8,by kernel_rfl⟩
def r11_0:RL:=[oP 6 (.mov (.k (.vec [] 0 (some 0)))),oP 7 (.mov (kI 0))]
def r11_1:RL:=[mV 13 0,mV 14 1,cL 15 26 [.t 13,.t 14],mV 8 15]
def r11_2:RL:=[mV 16 8,bK 17 .neq 16 0]
def r11_3:RL:=[mV 18 8,oP 6 (.mov (.k (.vec [] 0 (some 0)))),mV 7 18]
def r11_4:RL:=[mV 19 2,bK 20 .lss 19 1]
def r11_5:RL:=[oP 6 (.mov (.k (.vec [] 0 (some 0)))),oP 7 (.mov (kI 1))]
def r11_6:RL:=[mV 22 1,mV 23 2,cL 24 27 [.t 22,.t 23],mV 21 24,eX 25 21 0,eX 26 21 1,mV 9 25,mV 10 26]
def r11_7:RL:=[mV 27 10,oP 28 (.un .not (.t 27))]
def r11_8:RL:=[oP 6 (.mov (.k (.vec [] 0 (some 0)))),oP 7 (.mov (kI 7))]
def r11_9:RL:=[mV 30 9,mV 31 0,lN 32 31,cL 33 27 [.t 30,.t 32],mV 29 33,eX 34 29 0,eX 35 29 1,mV 11 34,mV 12 35]
def r11_10:RL:=[mV 36 12,oP 37 (.un .not (.t 36))]
def r11_11:RL:=[oP 6 (.mov (.k (.vec [] 0 (some 0)))),oP 7 (.mov (kI 7))]
def r11_12:RL:=[mV 38 0,mV 39 9,cL 40 28 [.t 38,.t 39],mV 6 40,oP 7 (.mov (kI 0))]
def c11:CC:=(.seq (rN r11_0) (.seq (.seq (rN r11_1) (.seq (rN r11_2) (.cond (.t 17) (.seq (rN r11_3) .ret) .skip))) (.seq (.seq (rN r11_4) (.cond (.t 20) (.seq (rN r11_5) .ret) .skip)) (.seq (rN r11_6) (.seq (.seq (rN r11_7) (.cond (.t 28) (.seq (rN r11_8) .ret) .skip)) (.seq (.seq (rN r11_9) (.seq (rN r11_10) (.cond (.t 37) (.seq (rN r11_11) .ret) .skip))) (.seq (rN r11_12) .ret)))))))
theorem o11:FnI 11 41 Tryz.f11 c11 [(.tmp 6),(.tmp 7)]:=⟨Tryz.func11,by kernel_rfl⟩
def r23_0:RL:=[oP 2 (.mov (.k (.vec [] 0 (some 0)))),oP 3 (.mov (.k (.vec [] 0 (some 0)))),oP 4 (.mov (kI 0))]
def r23_1:RL:=[mV 13 0,cL 14 56 [.t 13],mV 5 14]
def r23_2:RL:=[mV 15 5,bK 16 .neq 15 0]
def r23_3:RL:=[mV 17 5,oP 2 (.mov (.k (.vec [] 0 (some 0)))),oP 3 (.mov (.k (.vec [] 0 (some 0)))),mV 4 17]
def r23_4:RL:=[mV 18 0,cL 19 57 [.t 18],oP 20 (.un .not (.t 19))]
def r23_5:RL:=[oP 2 (.mov (.k (.vec [] 0 (some 0)))),oP 3 (.mov (.k (.vec [] 0 (some 0)))),oP 4 (.mov (kI 7))]
def r23_6:RL:=[mV 21 0,cL 22 58 [.t 21],mV 6 22]
def r23_7:RL:=[mV 24 0,lN 25 24,cL 26 59 [.t 25],mV 23 26,eX 27 23 0,eX 28 23 1,mV 7 27,mV 8 28]
def r23_8:RL:=[mV 30 6,cL 31 60 [.t 30],mV 29 31,eX 32 29 0,eX 33 29 1,mV 9 32,mV 10 33]
def r23_9:RL:=[mV 34 10,oP 35 (.un .not (.t 34))]
def r23_10:RL:=[mV 37 6,cL 38 61 [.t 37],mV 36 38,eX 39 36 0,eX 40 36 1,mV 11 39,mV 12 40]
def r23_11:RL:=[mV 41 11,mV 42 7,mV 2 41,mV 3 42,oP 4 (.mov (kI 0))]
def r23_12:RL:=[mV 43 6,mV 44 9,cL 45 62 [.t 43,.t 44],mV 46 7,mV 47 9,cL 48 63 [.t 46,.t 47],mV 6 45,mV 7 48]
def l23_0:CC:=(.block 1 (.seq (rN r23_8) (.seq (.seq (rN r23_9) (.cond (.t 35) (.seq (rN r23_10) (.seq (rN r23_11) .ret)) .skip)) (rN r23_12))))
def c23:CC:=(.seq (rN r23_0) (.seq (.seq (rN r23_1) (.seq (rN r23_2) (.cond (.t 16) (.seq (rN r23_3) .ret) .skip))) (.seq (.seq (rN r23_4) (.cond (.t 20) (.seq (rN r23_5) .ret) .skip)) (.seq (rN r23_6) (.seq (rN r23_7) (.block 0 (.loop l23_0)))))))
theorem o23:FnI 23 49 Tryz.f23 c23 [(.tmp 2),(.tmp 3),(.tmp 4)]:=⟨Tryz.func23,by kernel_rfl⟩
def r24_0:RL:=[oP 2 (.mov (.k (.vec [] 0 (some 0))))]
def r24_1:RL:=[mV 6 0,cL 7 64 [.t 6],mV 5 7,eX 8 5 0,eX 9 5 1,mV 3 8,mV 4 9]
def r24_2:RL:=[mV 10 3,mV 2 10]
def c24:CC:=(.seq (rN r24_0) (.seq (rN r24_1) (.seq (rN r24_2) .ret)))
theorem o24:FnI 24 11 Tryz.f24 c24 [(.tmp 2)]:=⟨Tryz.func24,by kernel_rfl⟩
def r25_0:RL:=[oP 2 (.box (.t 0)),oP 4 (.mov (.k (.vec [] 0 (some 0))))]
def r25_1:RL:=[oP 8 (.fld 2 (.t 2)),ldO 9 false 1 8,oP 10 (.build [(.vec [] 0 (some 0)),(.int .i64 0)] [(0,(1,(.t 9)))]),oP 11 (.box (.t 10)),mV 5 11]
def r25_2:RL:=[oP 12 (.fld 0 (.t 2)),ldO 13 false 1 12,oP 14 (.conv .i64 (.t 13)),mV 15 1,bT 16 .rem 14 15,oP 17 (.bin .add (kI 1) (.t 16)),mV 6 17]
def r25_3:RL:=[oP 7 (.mov (.k (.vec [] 0 (some 0))))]
def r25_4:RL:=[oP 18 (.fld 1 (.t 2)),ldO 19 false 1 18,oP 20 (.bin .rem (.t 19) (.k (.int .u8 8)))]
def r25_5:RL:=[oP 25 (.bin .eql (.t 20) (.k (.int .u8 0))),mV 24 25]
def r25_6:RL:=[oP 26 (.bin .eql (.t 20) (.k (.int .u8 1))),mV 24 26]
def r25_7:RL:=[oP 27 (.bin .eql (.t 20) (.k (.int .u8 2))),mV 24 27]
def r25_8:RL:=[oP 28 (.bin .eql (.t 20) (.k (.int .u8 3))),mV 24 28]
def r25_9:RL:=[mV 29 5,mV 30 6,cL 31 65 [.t 29,.t 30],mV 7 31]
def r25_10:RL:=[oP 33 (.bin .eql (.t 20) (.k (.int .u8 4))),mV 32 33]
def r25_11:RL:=[mV 34 6,cL 35 66 [.t 34,(.k (.bool false))],mV 7 35]
def r25_12:RL:=[mV 36 7,oP 37 (.idx 1 (.t 36) (kI 0)),ldO 38 false 1 37,oP 39 (.idx 1 (.t 38) (kI 0)),ldO 40 false 1 39,mV 41 5,cL 42 67 [.t 41,(kI 3)],bT 43 .add 40 42,oP 44 (.idx 1 (.t 38) (kI 0)),sT (.store 1 (.t 44) (.t 43))]
def r25_13:RL:=[oP 46 (.bin .eql (.t 20) (.k (.int .u8 5))),mV 45 46]
def r25_14:RL:=[mV 47 6,cL 48 66 [.t 47,(.k (.bool true))],mV 7 48]
def r25_15:RL:=[mV 49 7,mV 50 6,bK 51 .sub 50 1,iX 52 1 49 51,ldO 53 false 1 52,mV 54 6,bK 55 .sub 54 1,iX 56 1 53 55,ldO 57 false 1 56,mV 58 5,cL 59 67 [.t 58,(kI 2)],bT 60 .add 57 59,iX 61 1 53 55,sT (.store 1 (.t 61) (.t 60))]
def r25_16:RL:=[oP 63 (.bin .eql (.t 20) (.k (.int .u8 6))),mV 62 63]
def r25_17:RL:=[mV 64 5,mV 65 6,cL 66 68 [.t 64,.t 65,(kI 9)],mV 7 66]
def r25_18:RL:=[mV 21 5,mV 22 6,cL 23 68 [.t 21,.t 22,(kI 1)],mV 7 23]
def r25_19:RL:=[mV 67 7,cL 68 69 [.t 67],oP 69 (.un .not (.t 68))]
def r25_20:RL:=[mV 70 5,mV 71 6,cL 72 68 [.t 70,.t 71,(kI 2)],mV 4 72]
def r25_21:RL:=[mV 73 7,mV 4 73]
def c25:CC:=(.seq (rN r25_0) (.seq (rN r25_1) (.seq (rN r25_2) (.seq (rN r25_3) (.seq (.seq (rN r25_4) (.block 0 (.seq (.seq (rN r25_5) (.cond (.t 24) .skip (.seq (rN r25_6) (.cond (.t 24) .skip (.seq (rN r25_7) (.cond (.t 24) .skip (rN r25_8))))))) (.cond (.t 24) (rN r25_9) (.seq (rN r25_10) (.cond (.t 32) (.seq (rN r25_11) (.reg r25_12 (some [(2,6),(4,6)]))) (.seq (rN r25_13) (.cond (.t 45) (.seq (rN r25_14) (.reg r25_15 (some [(4,10),(8,10)]))) (.seq (rN r25_16) (.cond (.t 62) (rN r25_17) (rN r25_18))))))))))) (.seq (.seq (rN r25_19) (.cond (.t 69) (.seq (rN r25_20) .ret) .skip)) (.seq (rN r25_21) .ret)))))))
theorem o25:FnI 25 74 Tryz.f25 c25 [(.tmp 4)]:=⟨Tryz.func25,by kernel_rfl⟩
def r26_0:RL:=[oP 4 (.mov (kI 0))]
def r26_1:RL:=[mV 5 0,cL 6 70 [.t 5],oP 7 (.un .not (.t 6))]
def r26_2:RL:=[oP 4 (.mov (kI 6))]
def r26_3:RL:=[mV 8 1,bK 9 .gtr 8 9973,mV 10 9,gU 11 10 false (.mov (.t 1)),gU 12 10 false (.call 71 [.t 11]),gU 13 10 false (.un .not (.t 12)),oP 14 (.pick (.t 10) (.k (.bool true)) (.t 13))]
def r26_4:RL:=[oP 4 (.mov (kI 20))]
def r26_5:RL:=[oP 4 (.mov (kI 0))]
def c26:CC:=(.seq (rN r26_0) (.seq (.seq (rN r26_1) (.cond (.t 7) (.seq (rN r26_2) .ret) .skip)) (.seq (.seq (rN r26_3) (.cond (.t 14) (.seq (rN r26_4) .ret) .skip)) (.seq (rN r26_5) .ret))))
theorem o26:FnI 26 15 Tryz.f26 c26 [(.tmp 4)]:=⟨Tryz.func26,by kernel_rfl⟩
def r27_0:RL:=[oP 4 (.mov (kI 0)),oP 5 (.mov (.k (.bool false)))]
def r27_1:RL:=[oP 6 (.mov (kI 1))]
def r27_2:RL:=[mV 7 1,oP 8 (.mov (kI 0))]
def r27_3:RL:=[bT 9 .lss 8 7]
def r27_4:RL:=[mV 10 6,mV 11 0,bT 12 .mul 10 11,mV 6 12]
def r27_5:RL:=[mV 13 6,bK 14 .gtr 13 2097152]
def r27_6:RL:=[oP 4 (.mov (kI 0)),oP 5 (.mov (.k (.bool false)))]
def r27_7:RL:=[bK 15 .add 8 1,mV 8 15]
def l27_0:CC:=(.seq (rN r27_3) (.seq (.cond (.t 9) .skip (.exit 0)) (.seq (.block 1 (.seq (rN r27_4) (.seq (rN r27_5) (.cond (.t 14) (.seq (rN r27_6) .ret) .skip)))) (rN r27_7))))
def r27_8:RL:=[mV 16 6,mV 4 16,oP 5 (.mov (.k (.bool true)))]
def c27:CC:=(.seq (rN r27_0) (.seq (rN r27_1) (.seq (.seq (rN r27_2) (.block 0 (.loop l27_0))) (.seq (rN r27_8) .ret))))
theorem o27:FnI 27 17 Tryz.f27 c27 [(.tmp 4),(.tmp 5)]:=⟨Tryz.func27,by kernel_rfl⟩
def r28_0:RL:=[oP 4 (.mov (.k (.vec [] 0 (some 0))))]
def r28_1:RL:=[mV 16 0,mV 17 1,cL 18 72 [.t 16,.t 17],mV 15 18,eX 19 15 0,eX 20 15 1,mV 5 19,mV 6 20]
def r28_2:RL:=[mV 21 1,oP 22 (.mksl 1 8 [(.int .i64 0)] (.t 21) (.t 21)),mV 7 22]
def r28_3:RL:=[mV 23 0,lN 24 23,oP 25 (.mksl 1 8 [(.int .i64 0)] (.t 24) (.t 24)),mV 8 25]
def r28_4:RL:=[mV 26 0,lN 27 26,oP 28 (.mksl 1 8 [(.int .i64 0)] (.t 27) (.t 27)),mV 9 28]
def r28_5:RL:=[oP 10 (.mov (kI 0))]
def r28_6:RL:=[mV 29 7,mV 30 10,iX 31 1 29 30,ldO 32 false 1 31,bK 33 .add 32 1,iX 34 1 29 30,sT (.store 1 (.t 34) (.t 33))]
def r28_7:RL:=[mV 35 5,lN 36 35,oP 37 (.mov (kI 0))]
def r28_8:RL:=[bT 38 .lss 37 36]
def r28_9:RL:=[mV 39 37,iX 40 1 35 37,ldO 41 false 1 40,mV 11 39,mV 12 41]
def r28_10:RL:=[mV 42 10,mV 43 9,mV 44 11,iX 45 1 43 44,ldO 46 false 1 45,oP 47 (.bin .mul (kI 2) (.t 46)),bT 48 .add 42 47,mV 49 12,mV 50 11,iX 51 1 49 50,ldO 52 false 1 51,bT 53 .add 48 52,mV 54 1,bT 55 .rem 53 54,mV 10 55]
def r28_11:RL:=[mV 56 12,lN 57 56,oP 58 (.mov (kI 0))]
def r28_12:RL:=[bT 59 .lss 58 57]
def r28_13:RL:=[mV 60 58,iX 61 1 56 58,ldO 62 false 1 61,mV 13 60,mV 14 62]
def r28_14:RL:=[mV 63 9,mV 64 13,mV 65 9,mV 66 13,iX 67 1 65 66,ldO 68 false 1 67,mV 69 14,bT 70 .add 68 69,mV 71 1,bT 72 .rem 70 71,iX 73 1 63 64,sT (.store 1 (.t 73) (.t 72))]
def r28_15:RL:=[bK 74 .add 58 1,mV 58 74]
def l28_1:CC:=(.seq (rN r28_12) (.seq (.cond (.t 59) .skip (.exit 2)) (.seq (.block 3 (.seq (rN r28_13) (rN r28_14))) (rN r28_15))))
def r28_16:RL:=[mV 75 8,mV 76 11,iX 77 1 75 76,ldO 78 false 1 77,bK 79 .add 78 1,iX 80 1 75 76,sT (.store 1 (.t 80) (.t 79))]
def r28_17:RL:=[mV 81 8,mV 82 11,iX 83 1 81 82,ldO 84 false 1 83,mV 85 1,bT 86 .lss 84 85]
def r28_18:RL:=[mV 87 8,mV 88 11,iX 89 1 87 88,sT (.store 1 (.t 89) (kI 0))]
def r28_19:RL:=[bK 90 .add 37 1,mV 37 90]
def l28_0:CC:=(.seq (rN r28_8) (.seq (.cond (.t 38) .skip (.exit 0)) (.seq (.block 1 (.seq (rN r28_9) (.seq (.reg r28_10 (some [(4,10)])) (.seq (.seq (rN r28_11) (.block 2 (.loop l28_1))) (.seq (.seq (rN r28_16) (.seq (rN r28_17) (.cond (.t 86) (.goto 0) .skip))) (rN r28_18)))))) (rN r28_19))))
def r28_20:RL:=[mV 91 7,mV 4 91]
def c28:CC:=(.seq (rN r28_0) (.scope (.seq (rN r28_1) (.seq (rN r28_2) (.seq (rN r28_3) (.seq (rN r28_4) (.seq (rN r28_5) (.seq (.label 0) (.seq (rN r28_6) (.seq (.seq (rN r28_7) (.block 0 (.loop l28_0))) (.seq (rN r28_20) .ret)))))))))))
theorem o28:FnI 28 92 Tryz.f28 c28 [(.tmp 4)]:=⟨Tryz.func28,by kernel_rfl⟩
def r29_0:RL:=[oP 2 (.mov (.k (.bool false)))]
def r29_1:RL:=[mV 6 0,cL 7 64 [.t 6],mV 5 7,eX 8 5 0,eX 9 5 1,mV 3 8,mV 4 9]
def r29_2:RL:=[mV 10 4,mV 11 10,gU 12 11 true (.mov (.t 3)),gU 13 11 true (.call 56 [.t 12]),gU 14 11 true (.bin .eql (.t 13) (kI 0)),oP 15 (.pick (.t 11) (.t 14) (.k (.bool false))),mV 16 15,gU 17 16 true (.mov (.t 3)),gU 18 16 true (.call 57 [.t 17]),oP 19 (.pick (.t 16) (.t 18) (.k (.bool false))),mV 20 19,gU 21 20 true (.mov (.t 3)),gU 22 20 true (.call 73 [.t 21]),oP 23 (.pick (.t 20) (.t 22) (.k (.bool false))),mV 2 23]
def c29:CC:=(.seq (rN r29_0) (.seq (rN r29_1) (.seq (rN r29_2) .ret)))
theorem o29:FnI 29 24 Tryz.f29 c29 [(.tmp 2)]:=⟨Tryz.func29,by kernel_rfl⟩
def r56_0:RL:=[oP 2 (.mov (kI 0))]
def r56_1:RL:=[mV 6 0,cL 7 118 [.t 6],mV 5 7,eX 8 5 0,eX 9 5 1,mV 3 8,mV 4 9]
def r56_2:RL:=[mV 11 4,oP 12 (.un .not (.t 11)),mV 13 12,gU 14 13 false (.mov (.t 3)),gU 15 13 false (.bin .gtr (.t 14) (kI 8)),oP 16 (.pick (.t 13) (.k (.bool true)) (.t 15)),mV 10 16]
def r56_3:RL:=[oP 2 (.mov (kI 3))]
def r56_4:RL:=[mV 18 0,cL 19 119 [.t 18],oP 20 (.un .not (.t 19)),mV 17 20]
def r56_5:RL:=[oP 2 (.mov (kI 4))]
def r56_6:RL:=[mV 22 0,cL 23 120 [.t 22],oP 24 (.un .not (.t 23)),mV 21 24]
def r56_7:RL:=[oP 2 (.mov (kI 5))]
def r56_8:RL:=[oP 2 (.mov (kI 0))]
def c56:CC:=(.seq (rN r56_0) (.seq (rN r56_1) (.seq (.block 0 (.seq (rN r56_2) (.cond (.t 10) (.seq (rN r56_3) .ret) (.seq (rN r56_4) (.cond (.t 17) (.seq (rN r56_5) .ret) (.seq (rN r56_6) (.cond (.t 21) (.seq (rN r56_7) .ret) .skip))))))) (.seq (rN r56_8) .ret))))
theorem o56:FnI 56 25 Tryz.f56 c56 [(.tmp 2)]:=⟨Tryz.func56,by kernel_rfl⟩
def r57_0:RL:=[oP 2 (.mov (.k (.bool false)))]
def r57_1:RL:=[mV 3 0,cL 4 98 [.t 3],cL 5 87 [(kI 10000)],cL 6 121 [.t 4,.t 5],bK 7 .leq 6 0,mV 2 7]
def c57:CC:=(.seq (rN r57_0) (.seq (rN r57_1) .ret))
theorem o57:FnI 57 8 Tryz.f57 c57 [(.tmp 2)]:=⟨Tryz.func57,by kernel_rfl⟩
def r58_0:RL:=[oP 2 (.mov (.k (.vec [] 0 (some 0))))]
def r58_1:RL:=[mV 7 0,lN 8 7,oP 9 (.mksl 1 24 [(.vec [] 0 (some 0))] (.t 8) (.t 8)),mV 3 9]
def r58_2:RL:=[mV 10 0,lN 11 10,oP 12 (.mov (kI 0))]
def r58_3:RL:=[bT 13 .lss 12 11]
def r58_4:RL:=[mV 14 12,mV 4 14]
def r58_5:RL:=[mV 15 0,mV 16 4,iX 17 1 15 16,ldO 18 false 1 17,lN 19 18,oP 20 (.mov (kI 0))]
def r58_6:RL:=[bT 21 .lss 20 19]
def r58_7:RL:=[iX 22 2 18 20,ldO 23 true 2 22,oP 6 (.box (.k (.agg [(.bool false),(.vec [] 0 (some 0))]))),sT (.store 2 (.t 6) (.t 23))]
def r58_8:RL:=[mV 24 3,mV 25 4,mV 26 3,mV 27 4,iX 28 1 26 27,ldO 29 false 1 28,ldO 30 true 2 6,cL 31 122 [.t 30],oP 32 (.bsl 1 2 [(.bool false),(.vec [] 0 (some 0))] [(0,(2,(.t 31)))]),oP 33 (.append 2 32 (.t 29) (.t 32)),iX 34 1 24 25,sT (.store 1 (.t 34) (.t 33))]
def r58_9:RL:=[bK 35 .add 20 1,mV 20 35]
def l58_1:CC:=(.seq (rN r58_6) (.seq (.cond (.t 21) .skip (.exit 2)) (.seq (.block 3 (.seq (rN r58_7) (.reg r58_8 (some [(5,6),(5,7),(5,8)])))) (rN r58_9))))
def r58_10:RL:=[bK 36 .add 12 1,mV 12 36]
def l58_0:CC:=(.seq (rN r58_3) (.seq (.cond (.t 13) .skip (.exit 0)) (.seq (.block 1 (.seq (rN r58_4) (.seq (rN r58_5) (.block 2 (.loop l58_1))))) (rN r58_10))))
def r58_11:RL:=[mV 37 3,mV 2 37]
def c58:CC:=(.seq (rN r58_0) (.seq (rN r58_1) (.seq (.seq (rN r58_2) (.block 0 (.loop l58_0))) (.seq (rN r58_11) .ret))))
theorem o58:FnI 58 38 Tryz.f58 c58 [(.tmp 2)]:=⟨Tryz.func58,by kernel_rfl⟩
def r59_0:RL:=[oP 2 (.mov (.k (.vec [] 0 (some 0)))),oP 3 (.mov (.k (.bool false)))]
def r59_1:RL:=[mV 6 0,bK 7 .lss 6 1,mV 8 7,gU 9 8 false (.mov (.t 0)),gU 10 8 false (.bin .gtr (.t 9) (kI 16)),oP 11 (.pick (.t 8) (.k (.bool true)) (.t 10))]
def r59_2:RL:=[oP 2 (.mov (.k (.vec [] 0 (some 0)))),oP 3 (.mov (.k (.bool false)))]
def r59_3:RL:=[mV 12 0,mV 13 0,cL 14 123 [.t 12,.t 13],mV 4 14]
def r59_4:RL:=[mV 15 4,lN 16 15,oP 17 (.mov (kI 0))]
def r59_5:RL:=[bT 18 .lss 17 16]
def r59_6:RL:=[mV 19 17,mV 5 19]
def r59_7:RL:=[mV 20 4,mV 21 5,iX 22 1 20 21,ldO 23 false 1 22,mV 24 5,cL 25 87 [(kI 1)],iX 26 2 23 24,sT (.store 2 (.t 26) (.t 25))]
def r59_8:RL:=[bK 27 .add 17 1,mV 17 27]
def l59_0:CC:=(.seq (rN r59_5) (.seq (.cond (.t 18) .skip (.exit 0)) (.seq (.block 1 (.seq (rN r59_6) (.reg r59_7 (some [(3,5)])))) (rN r59_8))))
def r59_9:RL:=[mV 28 4,mV 2 28,oP 3 (.mov (.k (.bool true)))]
def c59:CC:=(.seq (rN r59_0) (.seq (.seq (rN r59_1) (.cond (.t 11) (.seq (rN r59_2) .ret) .skip)) (.seq (rN r59_3) (.seq (.seq (rN r59_4) (.block 0 (.loop l59_0))) (.seq (rN r59_9) .ret)))))
theorem o59:FnI 59 29 Tryz.f59 c59 [(.tmp 2),(.tmp 3)]:=⟨Tryz.func59,by kernel_rfl⟩
def r60_0:RL:=[oP 2 (.mov (.k (.vec [] 0 (some 0)))),oP 3 (.mov (.k (.bool false)))]
def r60_1:RL:=[mV 11 0,cL 12 124 [.t 11],mV 10 12,eX 13 10 0,eX 14 10 1,mV 4 13,mV 5 14]
def r60_2:RL:=[mV 16 0,lN 17 16,cL 18 59 [.t 17],mV 15 18,eX 19 15 0,eX 20 15 1,mV 6 19,mV 7 20]
def r60_3:RL:=[mV 21 0,lN 22 21,oP 23 (.mov (kI 0))]
def r60_4:RL:=[bT 24 .lss 23 22]
def r60_5:RL:=[mV 25 23,mV 8 25]
def r60_6:RL:=[mV 26 8,bK 27 .sub 26 1,mV 9 27]
def r60_7:RL:=[mV 28 9,bK 29 .geq 28 0]
def r60_8:RL:=[mV 32 0,mV 33 4,mV 34 8,mV 35 9,cL 36 125 [.t 32,.t 33,.t 34,.t 35],oP 37 (.un .not (.t 36))]
def r60_9:RL:=[mV 38 6,mV 39 9,iX 40 1 38 39,ldO 41 false 1 40,mV 42 8,mV 43 0,mV 44 8,mV 45 9,cL 46 129 [.t 43,.t 44,.t 45],mV 47 4,mV 48 9,bK 49 .add 48 1,cL 50 130 [.t 47,.t 49],cL 51 128 [.t 46,.t 50],cL 52 127 [.t 51],cL 53 126 [.t 52],iX 54 2 41 42,sT (.store 2 (.t 54) (.t 53))]
def r60_10:RL:=[mV 55 6,mV 2 55,oP 3 (.mov (.k (.bool true)))]
def r60_11:RL:=[mV 30 9,bK 31 .sub 30 1,mV 9 31]
def l60_1:CC:=(.seq (.seq (rN r60_7) (.cond (.t 29) .skip (.exit 2))) (.seq (.block 3 (.seq (rN r60_8) (.cond (.t 37) (.seq (.reg r60_9 (some [(3,8),(3,12),(3,13),(3,14),(3,15)])) (.seq (rN r60_10) .ret)) .skip))) (rN r60_11)))
def r60_12:RL:=[mV 56 8,bK 57 .gtr 56 0,mV 58 57,gU 59 58 true (.mov (.t 0)),gU 60 58 true (.mov (.t 4)),gU 61 58 true (.mov (.t 8)),gU 62 58 true (.call 131 [.t 59,.t 60,.t 61]),gU 63 58 true (.un .not (.t 62)),oP 64 (.pick (.t 58) (.t 63) (.k (.bool false)))]
def r60_13:RL:=[mV 65 6,mV 66 8,mV 67 6,mV 68 8,bK 69 .sub 68 1,mV 70 6,mV 71 8,bK 72 .sub 71 1,iX 73 1 70 72,ldO 74 false 1 73,mV 75 6,mV 76 8,iX 77 1 75 76,ldO 78 false 1 77,iX 79 1 65 66,sT (.store 1 (.t 79) (.t 74)),iX 80 1 67 69,sT (.store 1 (.t 80) (.t 78))]
def r60_14:RL:=[mV 81 6,mV 2 81,oP 3 (.mov (.k (.bool true)))]
def r60_15:RL:=[bK 82 .add 23 1,mV 23 82]
def l60_0:CC:=(.seq (rN r60_4) (.seq (.cond (.t 24) .skip (.exit 0)) (.seq (.block 1 (.seq (rN r60_5) (.seq (.seq (rN r60_6) (.block 2 (.loop l60_1))) (.seq (rN r60_12) (.cond (.t 64) (.seq (.reg r60_13 (some [(9,13)])) (.seq (rN r60_14) .ret)) .skip))))) (rN r60_15))))
def r60_16:RL:=[oP 2 (.mov (.k (.vec [] 0 (some 0)))),oP 3 (.mov (.k (.bool false)))]
def c60:CC:=(.seq (rN r60_0) (.seq (rN r60_1) (.seq (rN r60_2) (.seq (.seq (rN r60_3) (.block 0 (.loop l60_0))) (.seq (rN r60_16) .ret)))))
theorem o60:FnI 60 83 Tryz.f60 c60 [(.tmp 2),(.tmp 3)]:=⟨Tryz.func60,by kernel_rfl⟩
def r61_0:RL:=[oP 2 (.mov (.k (.vec [] 0 (some 0)))),oP 3 (.mov (.k (.bool false)))]
def r61_1:RL:=[mV 13 0,cL 14 132 [.t 13],mV 12 14,eX 15 12 0,eX 16 12 1,eX 17 12 2,mV 4 15,mV 5 16,mV 6 17]
def r61_2:RL:=[mV 18 6,oP 19 (.un .not (.t 18))]
def r61_3:RL:=[oP 2 (.mov (.k (.vec [] 0 (some 0)))),oP 3 (.mov (.k (.bool false)))]
def r61_4:RL:=[mV 20 4,oP 21 (.mksl 1 24 [(.vec [] 0 (some 0))] (.t 20) (.t 20)),mV 7 21]
def r61_5:RL:=[mV 22 7,lN 23 22,oP 24 (.mov (kI 0))]
def r61_6:RL:=[bT 25 .lss 24 23]
def r61_7:RL:=[mV 26 24,mV 8 26]
def r61_8:RL:=[mV 27 7,mV 28 8,mV 29 5,oP 30 (.mksl 1 8 [(.int .i64 0)] (.t 29) (.t 29)),iX 31 1 27 28,sT (.store 1 (.t 31) (.t 30))]
def r61_9:RL:=[mV 32 7,mV 33 8,iX 34 1 32 33,ldO 35 false 1 34,lN 36 35,oP 37 (.mov (kI 0))]
def r61_10:RL:=[bT 38 .lss 37 36]
def r61_11:RL:=[mV 39 37,mV 9 39]
def r61_12:RL:=[mV 41 0,mV 42 8,iX 43 1 41 42,ldO 44 false 1 43,mV 45 9,iX 46 2 44 45,ldO 47 true 2 46,cL 48 97 [.t 47],mV 40 48,eX 49 40 0,eX 50 40 1,mV 10 49,mV 11 50]
def r61_13:RL:=[mV 51 11,oP 52 (.un .not (.t 51))]
def r61_14:RL:=[oP 2 (.mov (.k (.vec [] 0 (some 0)))),oP 3 (.mov (.k (.bool false)))]
def r61_15:RL:=[mV 53 7,mV 54 8,iX 55 1 53 54,ldO 56 false 1 55,mV 57 9,mV 58 10,iX 59 1 56 57,sT (.store 1 (.t 59) (.t 58))]
def r61_16:RL:=[bK 60 .add 37 1,mV 37 60]
def l61_1:CC:=(.seq (rN r61_10) (.seq (.cond (.t 38) .skip (.exit 2)) (.seq (.block 3 (.seq (rN r61_11) (.seq (rN r61_12) (.seq (.seq (rN r61_13) (.cond (.t 52) (.seq (rN r61_14) .ret) .skip)) (rN r61_15))))) (rN r61_16))))
def r61_17:RL:=[bK 61 .add 24 1,mV 24 61]
def l61_0:CC:=(.seq (rN r61_6) (.seq (.cond (.t 25) .skip (.exit 0)) (.seq (.block 1 (.seq (rN r61_7) (.seq (rN r61_8) (.seq (rN r61_9) (.block 2 (.loop l61_1)))))) (rN r61_17))))
def r61_18:RL:=[mV 62 7,mV 2 62,oP 3 (.mov (.k (.bool true)))]
def c61:CC:=(.seq (rN r61_0) (.seq (rN r61_1) (.seq (.seq (rN r61_2) (.cond (.t 19) (.seq (rN r61_3) .ret) .skip)) (.seq (rN r61_4) (.seq (.seq (rN r61_5) (.block 0 (.loop l61_0))) (.seq (rN r61_18) .ret))))))
theorem o61:FnI 61 63 Tryz.f61 c61 [(.tmp 2),(.tmp 3)]:=⟨Tryz.func61,by kernel_rfl⟩
def r62_0:RL:=[oP 4 (.mov (.k (.vec [] 0 (some 0))))]
def r62_1:RL:=[mV 8 1,cL 9 133 [.t 8],mV 7 9,eX 10 7 0,eX 11 7 1,mV 5 10,mV 6 11]
def r62_2:RL:=[mV 12 5,mV 13 0,cL 14 63 [.t 12,.t 13],mV 15 1,cL 16 63 [.t 14,.t 15],mV 4 16]
def c62:CC:=(.seq (rN r62_0) (.seq (rN r62_1) (.seq (rN r62_2) .ret)))
theorem o62:FnI 62 17 Tryz.f62 c62 [(.tmp 4)]:=⟨Tryz.func62,by kernel_rfl⟩
def r63_0:RL:=[oP 4 (.mov (.k (.vec [] 0 (some 0))))]
def r63_1:RL:=[mV 8 0,mV 9 1,cL 10 134 [.t 8,.t 9],mV 7 10,eX 11 7 0,eX 12 7 1,mV 5 11,mV 6 12]
def r63_2:RL:=[mV 13 5,mV 4 13]
def c63:CC:=(.seq (rN r63_0) (.seq (rN r63_1) (.seq (rN r63_2) .ret)))
theorem o63:FnI 63 14 Tryz.f63 c63 [(.tmp 4)]:=⟨Tryz.func63,by kernel_rfl⟩
def r64_0:RL:=[oP 2 (.mov (.k (.vec [] 0 (some 0)))),oP 3 (.mov (.k (.bool false)))]
def r64_1:RL:=[mV 9 0,lN 10 9,bK 11 .lss 10 1,mV 12 11,gU 13 12 false (.mov (.t 0)),gU 14 12 false (.len false (.t 13)),gU 15 12 false (.bin .gtr (.t 14) (kI 16)),oP 16 (.pick (.t 12) (.k (.bool true)) (.t 15))]
def r64_2:RL:=[oP 2 (.mov (.k (.vec [] 0 (some 0)))),oP 3 (.mov (.k (.bool false)))]
def r64_3:RL:=[mV 17 0,lN 18 17,oP 19 (.mov (kI 0))]
def r64_4:RL:=[bT 20 .lss 19 18]
def r64_5:RL:=[iX 21 1 17 19,ldO 22 false 1 21,mV 5 22]
def r64_6:RL:=[mV 23 5,lN 24 23,bK 25 .lss 24 1,mV 26 25,gU 27 26 false (.mov (.t 5)),gU 28 26 false (.len false (.t 27)),gU 29 26 false (.bin .gtr (.t 28) (kI 16)),oP 30 (.pick (.t 26) (.k (.bool true)) (.t 29)),mV 31 30,gU 32 31 false (.mov (.t 5)),gU 33 31 false (.len false (.t 32)),gU 34 31 false (.mov (.t 0)),gU 35 31 false (.idx 1 (.t 34) (kI 0)),gU 36 31 false (.load false 1 (.t 35)),gU 37 31 false (.len false (.t 36)),gU 38 31 false (.bin .neq (.t 33) (.t 37)),oP 39 (.pick (.t 31) (.k (.bool true)) (.t 38))]
def r64_7:RL:=[oP 2 (.mov (.k (.vec [] 0 (some 0)))),oP 3 (.mov (.k (.bool false)))]
def r64_8:RL:=[bK 40 .add 19 1,mV 19 40]
def l64_0:CC:=(.seq (rN r64_4) (.seq (.cond (.t 20) .skip (.exit 0)) (.seq (.block 1 (.seq (rN r64_5) (.seq (rN r64_6) (.cond (.t 39) (.seq (rN r64_7) .ret) .skip)))) (rN r64_8))))
def r64_9:RL:=[mV 41 0,lN 42 41,mV 43 0,oP 44 (.idx 1 (.t 43) (kI 0)),ldO 45 false 1 44,lN 46 45,cL 47 123 [.t 42,.t 46],mV 6 47]
def r64_10:RL:=[mV 48 0,lN 49 48,oP 50 (.mov (kI 0))]
def r64_11:RL:=[bT 51 .lss 50 49]
def r64_12:RL:=[mV 52 50,mV 7 52]
def r64_13:RL:=[mV 53 0,mV 54 7,iX 55 1 53 54,ldO 56 false 1 55,lN 57 56,oP 58 (.mov (kI 0))]
def r64_14:RL:=[bT 59 .lss 58 57]
def r64_15:RL:=[mV 60 58,mV 8 60]
def r64_16:RL:=[mV 61 6,mV 62 7,iX 63 1 61 62,ldO 64 false 1 63,mV 65 8,mV 66 0,mV 67 7,iX 68 1 66 67,ldO 69 false 1 68,mV 70 8,iX 71 1 69 70,ldO 72 false 1 71,cL 73 87 [.t 72],iX 74 2 64 65,sT (.store 2 (.t 74) (.t 73))]
def r64_17:RL:=[bK 75 .add 58 1,mV 58 75]
def l64_2:CC:=(.seq (rN r64_14) (.seq (.cond (.t 59) .skip (.exit 4)) (.seq (.block 5 (.seq (rN r64_15) (.reg r64_16 (some [(3,8),(3,11),(3,12)])))) (rN r64_17))))
def r64_18:RL:=[bK 76 .add 50 1,mV 50 76]
def l64_1:CC:=(.seq (rN r64_11) (.seq (.cond (.t 51) .skip (.exit 2)) (.seq (.block 3 (.seq (rN r64_12) (.seq (rN r64_13) (.block 4 (.loop l64_2))))) (rN r64_18))))
def r64_19:RL:=[mV 77 6,mV 2 77,oP 3 (.mov (.k (.bool true)))]
def c64:CC:=(.seq (rN r64_0) (.seq (.seq (rN r64_1) (.cond (.t 16) (.seq (rN r64_2) .ret) .skip)) (.seq (.seq (rN r64_3) (.block 0 (.loop l64_0))) (.seq (rN r64_9) (.seq (.seq (rN r64_10) (.block 2 (.loop l64_1))) (.seq (rN r64_19) .ret))))))
theorem o64:FnI 64 78 Tryz.f64 c64 [(.tmp 2),(.tmp 3)]:=⟨Tryz.func64,by kernel_rfl⟩
def r65_0:RL:=[oP 4 (.mov (.k (.vec [] 0 (some 0))))]
def r65_1:RL:=[mV 8 0,mV 9 1,cL 10 68 [.t 8,.t 9,(kI 6)],mV 5 10]
def r65_2:RL:=[mV 11 5,lN 12 11,oP 13 (.mov (kI 0))]
def r65_3:RL:=[bT 14 .lss 13 12]
def r65_4:RL:=[mV 15 13,mV 6 15]
def r65_5:RL:=[oP 7 (.mov (kI 0))]
def r65_6:RL:=[mV 16 7,mV 17 6,bT 18 .lss 16 17]
def r65_7:RL:=[mV 21 5,mV 22 6,iX 23 1 21 22,ldO 24 false 1 23,mV 25 7,mV 26 0,cL 27 135 [.t 26],bK 28 .rem 27 3,iX 29 1 24 25,sT (.store 1 (.t 29) (.t 28))]
def r65_8:RL:=[mV 30 5,mV 31 7,iX 32 1 30 31,ldO 33 false 1 32,mV 34 6,mV 35 5,mV 36 6,iX 37 1 35 36,ldO 38 false 1 37,mV 39 7,iX 40 1 38 39,ldO 41 false 1 40,iX 42 1 33 34,sT (.store 1 (.t 42) (.t 41))]
def r65_9:RL:=[mV 19 7,bK 20 .add 19 1,mV 7 20]
def l65_1:CC:=(.seq (.seq (rN r65_6) (.cond (.t 18) .skip (.exit 2))) (.seq (.block 3 (.seq (.reg r65_7 (some [(3,6)])) (.reg r65_8 (some [(3,8),(3,11)])))) (rN r65_9)))
def r65_10:RL:=[bK 43 .add 13 1,mV 13 43]
def l65_0:CC:=(.seq (rN r65_3) (.seq (.cond (.t 14) .skip (.exit 0)) (.seq (.block 1 (.seq (rN r65_4) (.seq (rN r65_5) (.block 2 (.loop l65_1))))) (rN r65_10))))
def r65_11:RL:=[mV 44 5,mV 4 44]
def c65:CC:=(.seq (rN r65_0) (.seq (rN r65_1) (.seq (.seq (rN r65_2) (.block 0 (.loop l65_0))) (.seq (rN r65_11) .ret))))
theorem o65:FnI 65 45 Tryz.f65 c65 [(.tmp 4)]:=⟨Tryz.func65,by kernel_rfl⟩
def r66_0:RL:=[oP 4 (.mov (.k (.vec [] 0 (some 0))))]
def r66_1:RL:=[mV 8 0,oP 9 (.mksl 1 24 [(.vec [] 0 (some 0))] (.t 8) (.t 8)),mV 5 9]
def r66_2:RL:=[mV 10 5,lN 11 10,oP 12 (.mov (kI 0))]
def r66_3:RL:=[bT 13 .lss 12 11]
def r66_4:RL:=[mV 14 12,mV 6 14]
def r66_5:RL:=[mV 15 5,mV 16 6,mV 17 0,oP 18 (.mksl 1 8 [(.int .i64 0)] (.t 17) (.t 17)),iX 19 1 15 16,sT (.store 1 (.t 19) (.t 18))]
def r66_6:RL:=[mV 20 5,mV 21 6,iX 22 1 20 21,ldO 23 false 1 22,mV 24 6,iX 25 1 23 24,sT (.store 1 (.t 25) (kI 2))]
def r66_7:RL:=[mV 26 6,bK 27 .sub 26 1,mV 7 27]
def r66_8:RL:=[mV 28 1,mV 29 28,gU 30 29 true (.mov (.t 6)),gU 31 29 true (.mov (.t 0)),gU 32 29 true (.bin .sub (.t 31) (kI 1)),gU 33 29 true (.bin .eql (.t 30) (.t 32)),oP 34 (.pick (.t 29) (.t 33) (.k (.bool false))),mV 35 34,gU 36 35 true (.mov (.t 0)),gU 37 35 true (.bin .gtr (.t 36) (kI 3)),oP 38 (.pick (.t 35) (.t 37) (.k (.bool false)))]
def r66_9:RL:=[mV 39 6,bK 40 .sub 39 2,mV 7 40]
def r66_10:RL:=[mV 41 7,bK 42 .geq 41 0]
def r66_11:RL:=[mV 43 5,mV 44 6,iX 45 1 43 44,ldO 46 false 1 45,mV 47 7,mV 48 5,mV 49 7,iX 50 1 48 49,ldO 51 false 1 50,mV 52 6,iX 53 1 46 47,sT (.store 1 (.t 53) (.k (.int .i64 (-1)))),iX 54 1 51 52,sT (.store 1 (.t 54) (.k (.int .i64 (-1))))]
def r66_12:RL:=[bK 55 .add 12 1,mV 12 55]
def l66_0:CC:=(.seq (rN r66_3) (.seq (.cond (.t 13) .skip (.exit 0)) (.seq (.block 1 (.seq (rN r66_4) (.seq (rN r66_5) (.seq (rN r66_6) (.seq (rN r66_7) (.seq (.seq (rN r66_8) (.cond (.t 38) (rN r66_9) .skip)) (.seq (rN r66_10) (.cond (.t 42) (.reg r66_11 (some [(3,8)])) .skip)))))))) (rN r66_12))))
def r66_13:RL:=[mV 56 5,mV 4 56]
def c66:CC:=(.seq (rN r66_0) (.seq (rN r66_1) (.seq (.seq (rN r66_2) (.block 0 (.loop l66_0))) (.seq (rN r66_13) .ret))))
theorem o66:FnI 66 57 Tryz.f66 c66 [(.tmp 4)]:=⟨Tryz.func66,by kernel_rfl⟩
def r67_0:RL:=[oP 4 (.mov (kI 0))]
def r67_1:RL:=[mV 5 0,cL 6 135 [.t 5],oP 7 (.conv .u8 (.t 6)),oP 8 (.conv .i64 (.t 7)),mV 9 1,bT 10 .rem 8 9,mV 4 10]
def c67:CC:=(.seq (rN r67_0) (.seq (rN r67_1) .ret))
theorem o67:FnI 67 11 Tryz.f67 c67 [(.tmp 4)]:=⟨Tryz.func67,by kernel_rfl⟩
def r68_0:RL:=[oP 6 (.mov (.k (.vec [] 0 (some 0))))]
def r68_1:RL:=[mV 9 1,oP 10 (.mksl 1 24 [(.vec [] 0 (some 0))] (.t 9) (.t 9)),mV 7 10]
def r68_2:RL:=[mV 11 7,lN 12 11,oP 13 (.mov (kI 0))]
def r68_3:RL:=[bT 14 .lss 13 12]
def r68_4:RL:=[mV 15 13,mV 8 15]
def r68_5:RL:=[mV 16 7,mV 17 8,mV 18 1,oP 19 (.mksl 1 8 [(.int .i64 0)] (.t 18) (.t 18)),iX 20 1 16 17,sT (.store 1 (.t 20) (.t 19))]
def r68_6:RL:=[mV 21 7,mV 22 8,iX 23 1 21 22,ldO 24 false 1 23,mV 25 8,mV 26 0,mV 27 2,cL 28 67 [.t 26,.t 27],oP 29 (.bin .add (kI 1) (.t 28)),iX 30 1 24 25,sT (.store 1 (.t 30) (.t 29))]
def r68_7:RL:=[bK 31 .add 13 1,mV 13 31]
def l68_0:CC:=(.seq (rN r68_3) (.seq (.cond (.t 14) .skip (.exit 0)) (.seq (.block 1 (.seq (rN r68_4) (.seq (rN r68_5) (.reg r68_6 (some [(3,7)]))))) (rN r68_7))))
def r68_8:RL:=[mV 32 7,mV 6 32]
def c68:CC:=(.seq (rN r68_0) (.seq (rN r68_1) (.seq (.seq (rN r68_2) (.block 0 (.loop l68_0))) (.seq (rN r68_8) .ret))))
theorem o68:FnI 68 33 Tryz.f68 c68 [(.tmp 6)]:=⟨Tryz.func68,by kernel_rfl⟩
def r69_0:RL:=[oP 2 (.mov (.k (.bool false)))]
def r69_1:RL:=[mV 4 0,cL 5 24 [.t 4],mV 3 5]
def r69_2:RL:=[mV 6 3,cL 7 56 [.t 6],bK 8 .eql 7 0,mV 9 8,gU 10 9 true (.mov (.t 3)),gU 11 9 true (.call 98 [.t 10]),gU 12 9 true (.call 87 [(kI 10000)]),gU 13 9 true (.call 121 [.t 11,.t 12]),gU 14 9 true (.bin .leq (.t 13) (kI 0)),oP 15 (.pick (.t 9) (.t 14) (.k (.bool false))),mV 2 15]
def c69:CC:=(.seq (rN r69_0) (.seq (rN r69_1) (.seq (rN r69_2) .ret)))
theorem o69:FnI 69 16 Tryz.f69 c69 [(.tmp 2)]:=⟨Tryz.func69,by kernel_rfl⟩
def r70_0:RL:=[oP 2 (.mov (.k (.bool false)))]
def r70_1:RL:=[mV 11 0,cL 12 136 [.t 11],oP 13 (.un .not (.t 12))]
def r70_2:RL:=[oP 2 (.mov (.k (.bool false)))]
def r70_3:RL:=[mV 14 0,mV 3 14]
def r70_4:RL:=[oP 4 (.mov (kI 1))]
def r70_5:RL:=[mV 15 3,lN 16 15,bK 17 .gtr 16 1]
def r70_6:RL:=[mV 18 3,oP 19 (.idx 1 (.t 18) (kI 0)),ldO 20 false 1 19,oP 21 (.idx 1 (.t 20) (kI 0)),ldO 22 false 1 21,mV 5 22]
def r70_7:RL:=[mV 23 3,cL 24 137 [.t 23],oP 25 (.un .not (.t 24))]
def r70_8:RL:=[oP 2 (.mov (.k (.bool false)))]
def r70_9:RL:=[mV 26 3,lN 27 26,bK 28 .sub 27 1,oP 29 (.mksl 1 24 [(.vec [] 0 (some 0))] (.t 28) (.t 28)),mV 6 29]
def r70_10:RL:=[mV 30 6,lN 31 30,oP 32 (.mov (kI 0))]
def r70_11:RL:=[bT 33 .lss 32 31]
def r70_12:RL:=[mV 34 32,mV 7 34]
def r70_13:RL:=[mV 35 3,mV 36 7,bK 37 .add 36 1,iX 38 1 35 37,ldO 39 false 1 38,mV 8 39]
def r70_14:RL:=[mV 40 6,mV 41 7,mV 42 6,lN 43 42,oP 44 (.mksl 1 8 [(.int .i64 0)] (.t 43) (.t 43)),iX 45 1 40 41,sT (.store 1 (.t 45) (.t 44))]
def r70_15:RL:=[mV 46 6,lN 47 46,oP 48 (.mov (kI 0))]
def r70_16:RL:=[bT 49 .lss 48 47]
def r70_17:RL:=[mV 50 48,mV 9 50]
def r70_18:RL:=[mV 51 6,mV 52 7,iX 53 1 51 52,ldO 54 false 1 53,mV 55 9,mV 56 5,mV 57 8,mV 58 9,bK 59 .add 58 1,iX 60 1 57 59,ldO 61 false 1 60,bT 62 .mul 56 61,mV 63 8,oP 64 (.idx 1 (.t 63) (kI 0)),ldO 65 false 1 64,mV 66 3,oP 67 (.idx 1 (.t 66) (kI 0)),ldO 68 false 1 67,mV 69 9,bK 70 .add 69 1,iX 71 1 68 70,ldO 72 false 1 71,bT 73 .mul 65 72,bT 74 .sub 62 73,mV 75 4,bT 76 .quo 74 75,iX 77 1 54 55,sT (.store 1 (.t 77) (.t 76))]
def r70_19:RL:=[bK 78 .add 48 1,mV 48 78]
def l70_2:CC:=(.seq (rN r70_16) (.seq (.cond (.t 49) .skip (.exit 4)) (.seq (.block 5 (.seq (rN r70_17) (.reg r70_18 (some [(3,10),(3,14),(10,14),(3,17),(10,17),(14,17),(3,21),(10,21),(14,21)])))) (rN r70_19))))
def r70_20:RL:=[bK 79 .add 32 1,mV 32 79]
def l70_1:CC:=(.seq (rN r70_11) (.seq (.cond (.t 33) .skip (.exit 2)) (.seq (.block 3 (.seq (rN r70_12) (.seq (rN r70_13) (.seq (rN r70_14) (.seq (rN r70_15) (.block 4 (.loop l70_2))))))) (rN r70_20))))
def r70_21:RL:=[mV 80 3,oP 81 (.idx 1 (.t 80) (kI 1)),ldO 82 false 1 81,oP 83 (.idx 1 (.t 82) (kI 0)),ldO 84 false 1 83,mV 10 84]
def r70_22:RL:=[mV 85 4,mV 86 6,oP 87 (.idx 1 (.t 86) (kI 0)),ldO 88 false 1 87,oP 89 (.idx 1 (.t 88) (kI 0)),ldO 90 false 1 89,bT 91 .mul 85 90,mV 92 10,mV 93 10,bT 94 .mul 92 93,bT 95 .add 91 94,oP 96 (.bin .mul (kI 4) (.t 95)),mV 97 5,oP 98 (.bin .mul (kI 3) (.t 97)),mV 99 5,bT 100 .mul 98 99,bT 101 .lss 96 100]
def r70_23:RL:=[oP 2 (.mov (.k (.bool false)))]
def r70_24:RL:=[mV 102 6,mV 103 5,mV 3 102,mV 4 103]
def l70_0:CC:=(.seq (.seq (rN r70_5) (.cond (.t 17) .skip (.exit 0))) (.block 1 (.seq (rN r70_6) (.seq (.seq (rN r70_7) (.cond (.t 25) (.seq (rN r70_8) .ret) .skip)) (.seq (rN r70_9) (.seq (.seq (rN r70_10) (.block 2 (.loop l70_1))) (.seq (rN r70_21) (.seq (.seq (rN r70_22) (.cond (.t 101) (.seq (rN r70_23) .ret) .skip)) (rN r70_24)))))))))
def r70_25:RL:=[mV 104 3,oP 105 (.idx 1 (.t 104) (kI 0)),ldO 106 false 1 105,oP 107 (.idx 1 (.t 106) (kI 0)),ldO 108 false 1 107,bK 109 .gtr 108 0,mV 110 109,gU 111 110 true (.mov (.t 3)),gU 112 110 true (.idx 1 (.t 111) (kI 0)),gU 113 110 true (.load false 1 (.t 112)),gU 114 110 true (.idx 1 (.t 113) (kI 0)),gU 115 110 true (.load false 1 (.t 114)),gU 116 110 true (.bin .leq (.t 115) (kI 10000)),oP 117 (.pick (.t 110) (.t 116) (.k (.bool false))),mV 2 117]
def c70:CC:=(.seq (rN r70_0) (.seq (.seq (rN r70_1) (.cond (.t 13) (.seq (rN r70_2) .ret) .skip)) (.seq (rN r70_3) (.seq (rN r70_4) (.seq (.block 0 (.loop l70_0)) (.seq (rN r70_25) .ret))))))
theorem o70:FnI 70 118 Tryz.f70 c70 [(.tmp 2)]:=⟨Tryz.func70,by kernel_rfl⟩
def r71_0:RL:=[oP 2 (.mov (.k (.bool false)))]
def r71_1:RL:=[mV 3 0,bK 4 .geq 3 2,mV 5 4,gU 6 5 true (.mov (.t 0)),gU 7 5 true (.bin .leq (.t 6) (kI 2147483647)),oP 8 (.pick (.t 5) (.t 7) (.k (.bool false))),mV 9 8,gU 10 9 true (.mov (.t 0)),gU 11 9 true (.call 138 [.t 10]),gU 12 9 true (.mov (.t 0)),gU 13 9 true (.bin .eql (.t 11) (.t 12)),oP 14 (.pick (.t 9) (.t 13) (.k (.bool false))),mV 2 14]
def c71:CC:=(.seq (rN r71_0) (.seq (rN r71_1) .ret))
theorem o71:FnI 71 15 Tryz.f71 c71 [(.tmp 2)]:=⟨Tryz.func71,by kernel_rfl⟩
def r72_0:RL:=[oP 4 (.mov (.k (.vec [] 0 (some 0)))),oP 5 (.mov (kI 0))]
def r72_1:RL:=[mV 7 0,cL 8 139 [.t 7],oP 9 (.un .not (.t 8))]
def r72_2:RL:=[oP 4 (.mov (.k (.vec [] 0 (some 0)))),oP 5 (.mov (kI 3))]
def r72_3:RL:=[mV 10 1,cL 11 140 [.t 10],mV 6 11]
def r72_4:RL:=[mV 12 6,bK 13 .neq 12 0]
def r72_5:RL:=[mV 14 6,oP 4 (.mov (.k (.vec [] 0 (some 0)))),mV 5 14]
def r72_6:RL:=[mV 15 0,mV 16 1,cL 17 141 [.t 15,.t 16],mV 4 17,oP 5 (.mov (kI 0))]
def c72:CC:=(.seq (rN r72_0) (.seq (.seq (rN r72_1) (.cond (.t 9) (.seq (rN r72_2) .ret) .skip)) (.seq (.seq (rN r72_3) (.seq (rN r72_4) (.cond (.t 13) (.seq (rN r72_5) .ret) .skip))) (.seq (rN r72_6) .ret))))
theorem o72:FnI 72 18 Tryz.f72 c72 [(.tmp 4),(.tmp 5)]:=⟨Tryz.func72,by kernel_rfl⟩
def r73_0:RL:=[oP 2 (.mov (.k (.bool false)))]
def r73_1:RL:=[mV 8 0,cL 9 124 [.t 8],mV 7 9,eX 10 7 0,eX 11 7 1,mV 3 10,mV 4 11]
def r73_2:RL:=[mV 12 0,lN 13 12,oP 14 (.mov (kI 0))]
def r73_3:RL:=[bT 15 .lss 14 13]
def r73_4:RL:=[mV 16 14,mV 5 16]
def r73_5:RL:=[oP 6 (.mov (kI 0))]
def r73_6:RL:=[mV 17 6,mV 18 5,bT 19 .lss 17 18]
def r73_7:RL:=[mV 22 0,mV 23 3,mV 24 5,mV 25 6,cL 26 125 [.t 22,.t 23,.t 24,.t 25],oP 27 (.un .not (.t 26))]
def r73_8:RL:=[oP 2 (.mov (.k (.bool false)))]
def r73_9:RL:=[mV 20 6,bK 21 .add 20 1,mV 6 21]
def l73_1:CC:=(.seq (.seq (rN r73_6) (.cond (.t 19) .skip (.exit 2))) (.seq (.block 3 (.seq (rN r73_7) (.cond (.t 27) (.seq (rN r73_8) .ret) .skip))) (rN r73_9)))
def r73_10:RL:=[mV 28 5,bK 29 .gtr 28 0,mV 30 29,gU 31 30 true (.mov (.t 0)),gU 32 30 true (.mov (.t 3)),gU 33 30 true (.mov (.t 5)),gU 34 30 true (.call 131 [.t 31,.t 32,.t 33]),gU 35 30 true (.un .not (.t 34)),oP 36 (.pick (.t 30) (.t 35) (.k (.bool false)))]
def r73_11:RL:=[oP 2 (.mov (.k (.bool false)))]
def r73_12:RL:=[bK 37 .add 14 1,mV 14 37]
def l73_0:CC:=(.seq (rN r73_3) (.seq (.cond (.t 15) .skip (.exit 0)) (.seq (.block 1 (.seq (rN r73_4) (.seq (.seq (rN r73_5) (.block 2 (.loop l73_1))) (.seq (rN r73_10) (.cond (.t 36) (.seq (rN r73_11) .ret) .skip))))) (rN r73_12))))
def r73_13:RL:=[oP 2 (.mov (.k (.bool true)))]
def c73:CC:=(.seq (rN r73_0) (.seq (rN r73_1) (.seq (.seq (rN r73_2) (.block 0 (.loop l73_0))) (.seq (rN r73_13) .ret))))
theorem o73:FnI 73 38 Tryz.f73 c73 [(.tmp 2)]:=⟨Tryz.func73,by kernel_rfl⟩
def r86_0:RL:=[oP 2 (.box (.t 0)),oP 3 (.box (.t 1)),oP 4 (.box (.k (.agg [(.bool false),(.vec [] 0 (some 0)),(.bool false),(.vec [] 0 (some 0))]))),oP 5 (.mov (.k (.bool false)))]
def r86_1:RL:=[ldO 7 true 2 3,cL 8 149 [.t 7],bK 9 .eql 8 0]
def r86_2:RL:=[oP 10 (.build [(.bool false),(.vec [] 0 (some 0)),(.bool false),(.vec [] 0 (some 0))] []),sT (.store 4 (.t 4) (.t 10)),oP 5 (.mov (.k (.bool false)))]
def r86_3:RL:=[ldO 11 true 2 3,cL 12 149 [.t 11],bK 13 .lss 12 0]
def r86_4:RL:=[ldO 14 true 2 2,cL 15 126 [.t 14],ldO 16 true 2 3,cL 17 126 [.t 16],sT (.store 2 (.t 2) (.t 15)),sT (.store 2 (.t 3) (.t 17))]
def r86_5:RL:=[ldO 18 true 2 2,ldO 19 true 2 3,cL 20 150 [.t 18,.t 19],oP 6 (.box (.k (.agg [(.bool false),(.vec [] 0 (some 0))]))),sT (.store 2 (.t 6) (.t 20))]
def r86_6:RL:=[ldO 21 true 2 2,ldO 22 true 2 6,cL 23 151 [.t 21,.t 22],ldO 24 true 2 3,ldO 25 true 2 6,cL 26 151 [.t 24,.t 25],oP 27 (.build [(.bool false),(.vec [] 0 (some 0)),(.bool false),(.vec [] 0 (some 0))] [(0,(2,(.t 23))),(2,(2,(.t 26)))]),sT (.store 4 (.t 4) (.t 27)),oP 5 (.mov (.k (.bool true)))]
def c86:CC:=(.seq (rN r86_0) (.seq (.seq (rN r86_1) (.cond (.t 9) (.seq (rN r86_2) .ret) .skip)) (.seq (.seq (rN r86_3) (.cond (.t 13) (.reg r86_4 (some [(0,2),(1,2)])) .skip)) (.seq (rN r86_5) (.seq (.reg r86_6 (some [(0,1),(0,3),(1,3),(2,3),(0,4),(1,4),(2,4),(3,4)])) .ret)))))
theorem o86:FnI 86 28 Tryz.f86 c86 [(.cell 4 42),(.tmp 5)]:=⟨Tryz.func86,by kernel_rfl⟩
def r87_0:RL:=[oP 2 (.box (.k (.agg [(.bool false),(.vec [] 0 (some 0))])))]
def r87_1:RL:=[mV 3 0,bK 4 .lss 3 0]
def r87_2:RL:=[mV 5 0,oP 6 (.conv .u64 (.t 5)),oP 7 (.un .neg (.t 6)),cL 8 152 [(.k (.bool true)),.t 7],sT (.store 2 (.t 2) (.t 8))]
def r87_3:RL:=[mV 9 0,oP 10 (.conv .u64 (.t 9)),cL 11 152 [(.k (.bool false)),.t 10],sT (.store 2 (.t 2) (.t 11))]
def c87:CC:=(.seq (rN r87_0) (.seq (.seq (rN r87_1) (.cond (.t 4) (.seq (rN r87_2) .ret) .skip)) (.seq (rN r87_3) .ret)))
theorem o87:FnI 87 12 Tryz.f87 c87 [(.cell 2 40)]:=⟨Tryz.func87,by kernel_rfl⟩
def r88_0:RL:=[oP 4 (.mov (kI 0))]
def r88_1:RL:=[mV 6 0,lN 7 6,mV 8 1,lN 9 8,bT 10 .neq 7 9]
def r88_2:RL:=[mV 11 0,lN 12 11,mV 13 1,lN 14 13,bT 15 .lss 12 14]
def r88_3:RL:=[oP 4 (.mov (.k (.int .i64 (-1))))]
def r88_4:RL:=[oP 4 (.mov (kI 1))]
def r88_5:RL:=[mV 16 0,lN 17 16,bK 18 .sub 17 1,mV 5 18]
def r88_6:RL:=[mV 19 5,bK 20 .geq 19 0]
def r88_7:RL:=[mV 23 0,mV 24 5,iX 25 1 23 24,ldO 26 false 1 25,mV 27 1,mV 28 5,iX 29 1 27 28,ldO 30 false 1 29,bT 31 .neq 26 30]
def r88_8:RL:=[mV 32 0,mV 33 5,iX 34 1 32 33,ldO 35 false 1 34,mV 36 1,mV 37 5,iX 38 1 36 37,ldO 39 false 1 38,bT 40 .lss 35 39]
def r88_9:RL:=[oP 4 (.mov (.k (.int .i64 (-1))))]
def r88_10:RL:=[oP 4 (.mov (kI 1))]
def r88_11:RL:=[mV 21 5,bK 22 .sub 21 1,mV 5 22]
def l88_0:CC:=(.seq (.seq (rN r88_6) (.cond (.t 20) .skip (.exit 0))) (.seq (.block 1 (.seq (.reg r88_7 (some [(3,7)])) (.cond (.t 31) (.seq (.seq (.reg r88_8 (some [(3,7)])) (.cond (.t 40) (.seq (rN r88_9) .ret) .skip)) (.seq (rN r88_10) .ret)) .skip))) (rN r88_11)))
def r88_12:RL:=[oP 4 (.mov (kI 0))]
def c88:CC:=(.seq (rN r88_0) (.seq (.seq (rN r88_1) (.cond (.t 10) (.seq (.seq (rN r88_2) (.cond (.t 15) (.seq (rN r88_3) .ret) .skip)) (.seq (rN r88_4) .ret)) .skip)) (.seq (.seq (rN r88_5) (.block 0 (.loop l88_0))) (.seq (rN r88_12) .ret))))
theorem o88:FnI 88 41 Tryz.f88 c88 [(.tmp 4)]:=⟨Tryz.func88,by kernel_rfl⟩
def r97_0:RL:=[oP 1 (.box (.t 0)),oP 2 (.mov (kI 0)),oP 3 (.mov (.k (.bool false)))]
def r97_1:RL:=[oP 6 (.fld 1 (.t 1)),ldO 7 false 1 6,cL 8 161 [.t 7],mV 4 8]
def r97_2:RL:=[mV 9 4,cL 10 162 [.t 9],mV 5 10]
def r97_3:RL:=[mV 12 4,lN 13 12,bK 14 .gtr 13 2,mV 11 14]
def r97_4:RL:=[oP 2 (.mov (kI 0)),oP 3 (.mov (.k (.bool false)))]
def r97_5:RL:=[oP 16 (.fld 0 (.t 1)),ldO 17 false 1 16,mV 18 17,gU 19 18 true (.mov (.t 5)),gU 20 18 true (.bin .leq (.t 19) (.k (.int .u64 9223372036854775808))),oP 21 (.pick (.t 18) (.t 20) (.k (.bool false))),mV 15 21]
def r97_6:RL:=[mV 22 5,oP 23 (.un .neg (.t 22)),oP 24 (.conv .i64 (.t 23)),mV 2 24,oP 3 (.mov (.k (.bool true)))]
def r97_7:RL:=[oP 26 (.fld 0 (.t 1)),ldO 27 false 1 26,oP 28 (.un .not (.t 27)),mV 29 28,gU 30 29 true (.mov (.t 5)),gU 31 29 true (.bin .lss (.t 30) (.k (.int .u64 9223372036854775808))),oP 32 (.pick (.t 29) (.t 31) (.k (.bool false))),mV 25 32]
def r97_8:RL:=[mV 33 5,oP 34 (.conv .i64 (.t 33)),mV 2 34,oP 3 (.mov (.k (.bool true)))]
def r97_9:RL:=[oP 2 (.mov (kI 0)),oP 3 (.mov (.k (.bool false)))]
def c97:CC:=(.seq (rN r97_0) (.seq (rN r97_1) (.seq (rN r97_2) (.seq (.block 0 (.seq (rN r97_3) (.cond (.t 11) (.seq (rN r97_4) .ret) (.seq (rN r97_5) (.cond (.t 15) (.seq (rN r97_6) .ret) (.seq (rN r97_7) (.cond (.t 25) (.seq (rN r97_8) .ret) .skip))))))) (.seq (rN r97_9) .ret)))))
theorem o97:FnI 97 35 Tryz.f97 c97 [(.tmp 2),(.tmp 3)]:=⟨Tryz.func97,by kernel_rfl⟩
def r98_0:RL:=[oP 2 (.box (.k (.agg [(.bool false),(.vec [] 0 (some 0))])))]
def r98_1:RL:=[mV 11 0,cL 12 58 [.t 11],mV 3 12]
def r98_2:RL:=[mV 13 3,lN 14 13,mV 4 14]
def r98_3:RL:=[cL 15 87 [(kI 1)],oP 5 (.box (.k (.agg [(.bool false),(.vec [] 0 (some 0))]))),sT (.store 2 (.t 5) (.t 15)),oP 6 (.mov (.k (.bool false)))]
def r98_4:RL:=[oP 7 (.mov (kI 0))]
def r98_5:RL:=[mV 16 7,mV 17 4,bT 18 .lss 16 17]
def r98_6:RL:=[mV 21 7,mV 8 21]
def r98_7:RL:=[mV 22 8,mV 23 4,bT 24 .lss 22 23,mV 25 24,gU 26 25 true (.mov (.t 3)),gU 27 25 true (.mov (.t 8)),gU 28 25 true (.idx 1 (.t 26) (.t 27)),gU 29 25 true (.load false 1 (.t 28)),gU 30 25 true (.mov (.t 7)),gU 31 25 true (.idx 2 (.t 29) (.t 30)),gU 32 25 true (.load true 2 (.t 31)),gU 33 25 true (.call 149 [.t 32]),gU 34 25 true (.bin .eql (.t 33) (kI 0)),oP 35 (.pick (.t 25) (.t 34) (.k (.bool false)))]
def r98_8:RL:=[mV 36 8,bK 37 .add 36 1,mV 8 37]
def l98_1:CC:=(.seq (.seq (rN r98_7) (.cond (.t 35) .skip (.exit 2))) (.block 3 (rN r98_8)))
def r98_9:RL:=[mV 38 8,mV 39 4,bT 40 .eql 38 39]
def r98_10:RL:=[oP 41 (.build [(.bool false),(.vec [] 0 (some 0))] []),sT (.store 2 (.t 2) (.t 41))]
def r98_11:RL:=[mV 42 8,mV 43 7,bT 44 .gtr 42 43]
def r98_12:RL:=[mV 45 3,mV 46 8,mV 47 3,mV 48 7,mV 49 3,mV 50 7,iX 51 1 49 50,ldO 52 false 1 51,mV 53 3,mV 54 8,iX 55 1 53 54,ldO 56 false 1 55,iX 57 1 45 46,sT (.store 1 (.t 57) (.t 52)),iX 58 1 47 48,sT (.store 1 (.t 58) (.t 56))]
def r98_13:RL:=[mV 59 6,oP 60 (.un .not (.t 59)),mV 6 60]
def r98_14:RL:=[mV 61 7,bK 62 .add 61 1,mV 9 62]
def r98_15:RL:=[mV 63 9,mV 64 4,bT 65 .lss 63 64]
def r98_16:RL:=[mV 68 7,bK 69 .add 68 1,mV 10 69]
def r98_17:RL:=[mV 70 10,mV 71 4,bT 72 .lss 70 71]
def r98_18:RL:=[mV 75 3,mV 76 9,iX 77 1 75 76,ldO 78 false 1 77,mV 79 10,mV 80 3,mV 81 7,iX 82 1 80 81,ldO 83 false 1 82,mV 84 7,iX 85 2 83 84,ldO 86 true 2 85,mV 87 3,mV 88 9,iX 89 1 87 88,ldO 90 false 1 89,mV 91 10,iX 92 2 90 91,ldO 93 true 2 92,cL 94 164 [.t 86,.t 93],mV 95 3,mV 96 9,iX 97 1 95 96,ldO 98 false 1 97,mV 99 7,iX 100 2 98 99,ldO 101 true 2 100,mV 102 3,mV 103 7,iX 104 1 102 103,ldO 105 false 1 104,mV 106 10,iX 107 2 105 106,ldO 108 true 2 107,cL 109 164 [.t 101,.t 108],cL 110 163 [.t 94,.t 109],ldO 111 true 2 5,cL 112 151 [.t 110,.t 111],iX 113 2 78 79,sT (.store 2 (.t 113) (.t 112))]
def r98_19:RL:=[mV 73 10,bK 74 .add 73 1,mV 10 74]
def l98_3:CC:=(.seq (.seq (rN r98_17) (.cond (.t 72) .skip (.exit 6))) (.seq (.block 7 (.reg r98_18 (some [(3,8),(3,11),(3,15),(8,15),(11,15),(3,18),(8,18),(11,18),(3,19),(3,23),(8,23),(11,23),(15,23),(18,23),(19,23),(3,26),(8,26),(11,26),(15,26),(18,26),(19,26),(3,30),(8,30),(11,30),(15,30),(18,30),(19,30),(23,30),(26,30),(3,33),(8,33),(11,33),(15,33),(18,33),(19,33),(23,33),(26,33),(3,34),(3,35),(3,36),(8,36),(11,36),(15,36),(18,36),(19,36),(23,36),(26,36),(30,36),(33,36),(34,36),(35,36),(3,37)]))) (rN r98_19)))
def r98_20:RL:=[mV 66 9,bK 67 .add 66 1,mV 9 67]
def l98_2:CC:=(.seq (.seq (rN r98_15) (.cond (.t 65) .skip (.exit 4))) (.seq (.block 5 (.seq (rN r98_16) (.block 6 (.loop l98_3)))) (rN r98_20)))
def r98_21:RL:=[mV 114 3,mV 115 7,iX 116 1 114 115,ldO 117 false 1 116,mV 118 7,iX 119 2 117 118,ldO 120 true 2 119,sT (.store 2 (.t 5) (.t 120))]
def r98_22:RL:=[mV 19 7,bK 20 .add 19 1,mV 7 20]
def l98_0:CC:=(.seq (.seq (rN r98_5) (.cond (.t 18) .skip (.exit 0))) (.seq (.block 1 (.seq (rN r98_6) (.seq (.block 2 (.loop l98_1)) (.seq (.seq (rN r98_9) (.cond (.t 40) (.seq (rN r98_10) .ret) .skip)) (.seq (.seq (rN r98_11) (.cond (.t 44) (.seq (.reg r98_12 (some [(7,11)])) (rN r98_13)) .skip)) (.seq (.seq (rN r98_14) (.block 4 (.loop l98_2))) (rN r98_21))))))) (rN r98_22)))
def r98_23:RL:=[mV 121 6]
def r98_24:RL:=[ldO 122 true 2 5,cL 123 126 [.t 122],sT (.store 2 (.t 2) (.t 123))]
def r98_25:RL:=[ldO 124 true 2 5,sT (.store 2 (.t 2) (.t 124))]
def c98:CC:=(.seq (rN r98_0) (.seq (rN r98_1) (.seq (rN r98_2) (.seq (rN r98_3) (.seq (.seq (rN r98_4) (.block 0 (.loop l98_0))) (.seq (.seq (rN r98_23) (.cond (.t 121) (.seq (rN r98_24) .ret) .skip)) (.seq (rN r98_25) .ret)))))))
theorem o98:FnI 98 125 Tryz.f98 c98 [(.cell 2 40)]:=⟨Tryz.func98,by kernel_rfl⟩
def r118_0:RL:=[oP 2 (.mov (kI 0)),oP 3 (.mov (.k (.bool false)))]
def r118_1:RL:=[mV 8 0,cL 9 132 [.t 8],mV 7 9,eX 10 7 0,eX 11 7 1,eX 12 7 2,mV 4 10,mV 5 11,mV 6 12]
def r118_2:RL:=[mV 13 6,oP 14 (.un .not (.t 13)),mV 15 14,gU 16 15 false (.mov (.t 4)),gU 17 15 false (.mov (.t 5)),gU 18 15 false (.bin .neq (.t 16) (.t 17)),oP 19 (.pick (.t 15) (.k (.bool true)) (.t 18))]
def r118_3:RL:=[oP 2 (.mov (kI 0)),oP 3 (.mov (.k (.bool false)))]
def r118_4:RL:=[mV 20 4,mV 2 20,oP 3 (.mov (.k (.bool true)))]
def c118:CC:=(.seq (rN r118_0) (.seq (rN r118_1) (.seq (.seq (rN r118_2) (.cond (.t 19) (.seq (rN r118_3) .ret) .skip)) (.seq (rN r118_4) .ret))))
theorem o118:FnI 118 21 Tryz.f118 c118 [(.tmp 2),(.tmp 3)]:=⟨Tryz.func118,by kernel_rfl⟩
def r119_0:RL:=[oP 2 (.mov (.k (.bool false)))]
def r119_1:RL:=[mV 5 0,lN 6 5,oP 7 (.mov (kI 0))]
def r119_2:RL:=[bT 8 .lss 7 6]
def r119_3:RL:=[mV 9 7,mV 3 9]
def r119_4:RL:=[oP 4 (.mov (kI 0))]
def r119_5:RL:=[mV 10 4,mV 11 3,bT 12 .lss 10 11]
def r119_6:RL:=[mV 15 0,mV 16 3,iX 17 1 15 16,ldO 18 false 1 17,mV 19 4,iX 20 2 18 19,ldO 21 true 2 20,mV 22 0,mV 23 4,iX 24 1 22 23,ldO 25 false 1 24,mV 26 3,iX 27 2 25 26,ldO 28 true 2 27,cL 29 121 [.t 21,.t 28],bK 30 .neq 29 0]
def r119_7:RL:=[oP 2 (.mov (.k (.bool false)))]
def r119_8:RL:=[mV 13 4,bK 14 .add 13 1,mV 4 14]
def l119_1:CC:=(.seq (.seq (rN r119_5) (.cond (.t 12) .skip (.exit 2))) (.seq (.block 3 (.seq (.reg r119_6 (some [(3,10),(6,10),(3,13),(6,13)])) (.cond (.t 30) (.seq (rN r119_7) .ret) .skip))) (rN r119_8)))
def r119_9:RL:=[bK 31 .add 7 1,mV 7 31]
def l119_0:CC:=(.seq (rN r119_2) (.seq (.cond (.t 8) .skip (.exit 0)) (.seq (.block 1 (.seq (rN r119_3) (.seq (rN r119_4) (.block 2 (.loop l119_1))))) (rN r119_9))))
def r119_10:RL:=[oP 2 (.mov (.k (.bool true)))]
def c119:CC:=(.seq (rN r119_0) (.seq (.seq (rN r119_1) (.block 0 (.loop l119_0))) (.seq (rN r119_10) .ret)))
theorem o119:FnI 119 32 Tryz.f119 c119 [(.tmp 2)]:=⟨Tryz.func119,by kernel_rfl⟩
def r120_0:RL:=[oP 2 (.mov (.k (.bool false)))]
def r120_1:RL:=[mV 8 0,cL 9 124 [.t 8],mV 7 9,eX 10 7 0,eX 11 7 1,mV 3 10,mV 4 11]
def r120_2:RL:=[mV 12 4,oP 13 (.un .not (.t 12)),mV 14 13,gU 15 14 false (.mov (.t 0)),gU 16 14 false (.call 119 [.t 15]),gU 17 14 false (.un .not (.t 16)),oP 18 (.pick (.t 14) (.k (.bool true)) (.t 17))]
def r120_3:RL:=[oP 2 (.mov (.k (.bool false)))]
def r120_4:RL:=[mV 19 3,lN 20 19,oP 21 (.mov (kI 0))]
def r120_5:RL:=[bT 22 .lss 21 20]
def r120_6:RL:=[iX 23 2 19 21,ldO 24 true 2 23,oP 6 (.box (.k (.agg [(.bool false),(.vec [] 0 (some 0))]))),sT (.store 2 (.t 6) (.t 24))]
def r120_7:RL:=[ldO 25 true 2 6,cL 26 149 [.t 25],bK 27 .leq 26 0]
def r120_8:RL:=[oP 2 (.mov (.k (.bool false)))]
def r120_9:RL:=[bK 28 .add 21 1,mV 21 28]
def l120_0:CC:=(.seq (rN r120_5) (.seq (.cond (.t 22) .skip (.exit 0)) (.seq (.block 1 (.seq (rN r120_6) (.seq (rN r120_7) (.cond (.t 27) (.seq (rN r120_8) .ret) .skip)))) (rN r120_9))))
def r120_10:RL:=[oP 2 (.mov (.k (.bool true)))]
def c120:CC:=(.seq (rN r120_0) (.seq (rN r120_1) (.seq (.seq (rN r120_2) (.cond (.t 18) (.seq (rN r120_3) .ret) .skip)) (.seq (.seq (rN r120_4) (.block 0 (.loop l120_0))) (.seq (rN r120_10) .ret)))))
theorem o120:FnI 120 29 Tryz.f120 c120 [(.tmp 2)]:=⟨Tryz.func120,by kernel_rfl⟩
def r121_0:RL:=[oP 2 (.box (.t 0)),oP 3 (.box (.t 1)),oP 4 (.mov (kI 0))]
def r121_1:RL:=[ldO 7 true 2 2,cL 8 149 [.t 7],ldO 9 true 2 3,cL 10 149 [.t 9],mV 5 8,mV 6 10]
def r121_2:RL:=[mV 11 5,mV 12 6,bT 13 .neq 11 12]
def r121_3:RL:=[mV 14 5,mV 15 6,bT 16 .lss 14 15]
def r121_4:RL:=[oP 4 (.mov (.k (.int .i64 (-1))))]
def r121_5:RL:=[oP 4 (.mov (kI 1))]
def r121_6:RL:=[mV 17 5,oP 18 (.fld 1 (.t 2)),ldO 19 false 1 18,cL 20 161 [.t 19],oP 21 (.fld 1 (.t 3)),ldO 22 false 1 21,cL 23 161 [.t 22],cL 24 88 [.t 20,.t 23],bT 25 .mul 17 24,mV 4 25]
def c121:CC:=(.seq (rN r121_0) (.seq (.reg r121_1 (some [(0,2),(1,2)])) (.seq (.seq (rN r121_2) (.cond (.t 13) (.seq (.seq (rN r121_3) (.cond (.t 16) (.seq (rN r121_4) .ret) .skip)) (.seq (rN r121_5) .ret)) .skip)) (.seq (.reg r121_6 (some [(2,5),(3,5)])) .ret))))
theorem o121:FnI 121 26 Tryz.f121 c121 [(.tmp 4)]:=⟨Tryz.func121,by kernel_rfl⟩
def r122_0:RL:=[oP 1 (.box (.t 0)),oP 2 (.box (.k (.agg [(.bool false),(.vec [] 0 (some 0))])))]
def r122_1:RL:=[oP 3 (.fld 0 (.t 1)),ldO 4 false 1 3,oP 5 (.fld 1 (.t 1)),ldO 6 false 1 5,cL 7 184 [.t 4,.t 6],sT (.store 2 (.t 2) (.t 7))]
def c122:CC:=(.seq (rN r122_0) (.seq (rN r122_1) .ret))
theorem o122:FnI 122 8 Tryz.f122 c122 [(.cell 2 40)]:=⟨Tryz.func122,by kernel_rfl⟩
def r123_0:RL:=[oP 4 (.mov (.k (.vec [] 0 (some 0))))]
def r123_1:RL:=[mV 7 0,oP 8 (.mksl 1 24 [(.vec [] 0 (some 0))] (.t 7) (.t 7)),mV 5 8]
def r123_2:RL:=[mV 9 5,lN 10 9,oP 11 (.mov (kI 0))]
def r123_3:RL:=[bT 12 .lss 11 10]
def r123_4:RL:=[mV 13 11,mV 6 13]
def r123_5:RL:=[mV 14 5,mV 15 6,mV 16 1,oP 17 (.mksl 2 32 [(.bool false),(.vec [] 0 (some 0))] (.t 16) (.t 16)),iX 18 1 14 15,sT (.store 1 (.t 18) (.t 17))]
def r123_6:RL:=[bK 19 .add 11 1,mV 11 19]
def l123_0:CC:=(.seq (rN r123_3) (.seq (.cond (.t 12) .skip (.exit 0)) (.seq (.block 1 (.seq (rN r123_4) (rN r123_5))) (rN r123_6))))
def r123_7:RL:=[mV 20 5,mV 4 20]
def c123:CC:=(.seq (rN r123_0) (.seq (rN r123_1) (.seq (.seq (rN r123_2) (.block 0 (.loop l123_0))) (.seq (rN r123_7) .ret))))
theorem o123:FnI 123 21 Tryz.f123 c123 [(.tmp 4)]:=⟨Tryz.func123,by kernel_rfl⟩
def r124_0:RL:=[oP 2 (.mov (.k (.vec [] 0 (some 0)))),oP 3 (.mov (.k (.bool false)))]
def r124_1:RL:=[mV 9 0,cL 10 118 [.t 9],mV 8 10,eX 11 8 0,eX 12 8 1,mV 4 11,mV 5 12]
def r124_2:RL:=[mV 13 5,oP 14 (.un .not (.t 13))]
def r124_3:RL:=[oP 2 (.mov (.k (.vec [] 0 (some 0)))),oP 3 (.mov (.k (.bool false)))]
def r124_4:RL:=[oP 6 (.mov (.k (.vec [] 0 (some 0))))]
def r124_5:RL:=[oP 7 (.mov (kI 0))]
def r124_6:RL:=[mV 15 7,mV 16 4,bT 17 .lss 15 16]
def r124_7:RL:=[mV 20 6,mV 21 0,mV 22 7,mV 23 7,cL 24 186 [.t 22,.t 23],mV 25 7,mV 26 7,cL 27 186 [.t 25,.t 26],cL 28 185 [.t 21,.t 24,.t 27],cL 29 98 [.t 28],oP 30 (.bsl 1 2 [(.bool false),(.vec [] 0 (some 0))] [(0,(2,(.t 29)))]),oP 31 (.append 2 32 (.t 20) (.t 30)),mV 6 31]
def r124_8:RL:=[mV 18 7,bK 19 .add 18 1,mV 7 19]
def l124_0:CC:=(.seq (.seq (rN r124_6) (.cond (.t 17) .skip (.exit 0))) (.seq (.block 1 (rN r124_7)) (rN r124_8)))
def r124_9:RL:=[mV 32 6,mV 2 32,oP 3 (.mov (.k (.bool true)))]
def c124:CC:=(.seq (rN r124_0) (.seq (rN r124_1) (.seq (.seq (rN r124_2) (.cond (.t 14) (.seq (rN r124_3) .ret) .skip)) (.seq (rN r124_4) (.seq (.seq (rN r124_5) (.block 0 (.loop l124_0))) (.seq (rN r124_9) .ret))))))
theorem o124:FnI 124 33 Tryz.f124 c124 [(.tmp 2),(.tmp 3)]:=⟨Tryz.func124,by kernel_rfl⟩
def r125_0:RL:=[oP 8 (.mov (.k (.bool false)))]
def r125_1:RL:=[cL 9 87 [(kI 2)],mV 10 0,mV 11 2,mV 12 3,cL 13 129 [.t 10,.t 11,.t 12],cL 14 187 [.t 13],cL 15 164 [.t 9,.t 14],mV 16 1,mV 17 3,bK 18 .add 17 1,cL 19 130 [.t 16,.t 18],cL 20 121 [.t 15,.t 19],bK 21 .leq 20 0,mV 8 21]
def c125:CC:=(.seq (rN r125_0) (.seq (rN r125_1) .ret))
theorem o125:FnI 125 22 Tryz.f125 c125 [(.tmp 8)]:=⟨Tryz.func125,by kernel_rfl⟩
def r126_0:RL:=[oP 1 (.box (.t 0)),oP 2 (.box (.k (.agg [(.bool false),(.vec [] 0 (some 0))])))]
def r126_1:RL:=[oP 3 (.fld 0 (.t 1)),ldO 4 false 1 3,oP 5 (.un .not (.t 4)),oP 6 (.fld 1 (.t 1)),ldO 7 false 1 6,cL 8 184 [.t 5,.t 7],sT (.store 2 (.t 2) (.t 8))]
def c126:CC:=(.seq (rN r126_0) (.seq (rN r126_1) .ret))
theorem o126:FnI 126 9 Tryz.f126 c126 [(.cell 2 40)]:=⟨Tryz.func126,by kernel_rfl⟩
def r127_0:RL:=[oP 1 (.box (.t 0)),oP 2 (.box (.k (.agg [(.bool false),(.vec [] 0 (some 0))])))]
def r127_1:RL:=[ldO 3 true 4 1,cL 4 189 [],cL 5 165 [.t 3,.t 4],cL 6 188 [.t 5],sT (.store 2 (.t 2) (.t 6))]
def c127:CC:=(.seq (rN r127_0) (.seq (.reg r127_1 (some [(0,1)])) .ret))
theorem o127:FnI 127 7 Tryz.f127 c127 [(.cell 2 40)]:=⟨Tryz.func127,by kernel_rfl⟩
def r128_0:RL:=[oP 2 (.box (.t 0)),oP 3 (.box (.t 1)),oP 4 (.box (.k (.agg [(.bool false),(.vec [] 0 (some 0)),(.bool false),(.vec [] 0 (some 0))])))]
def r128_1:RL:=[ldO 5 true 2 2,ldO 6 true 2 3,oP 7 (.build [(.bool false),(.vec [] 0 (some 0)),(.bool false),(.vec [] 0 (some 0))] [(0,(2,(.t 5))),(2,(2,(.t 6)))]),cL 8 168 [.t 7],sT (.store 4 (.t 4) (.t 8))]
def c128:CC:=(.seq (rN r128_0) (.seq (rN r128_1) .ret))
theorem o128:FnI 128 9 Tryz.f128 c128 [(.cell 4 42)]:=⟨Tryz.func128,by kernel_rfl⟩
def r129_0:RL:=[oP 6 (.box (.k (.agg [(.bool false),(.vec [] 0 (some 0))])))]
def r129_1:RL:=[oP 7 (.mov (.k (.vec [] 0 (some 0)))),oP 8 (.mov (.k (.vec [] 0 (some 0))))]
def r129_2:RL:=[oP 9 (.mov (kI 0))]
def r129_3:RL:=[mV 10 9,mV 11 2,bT 12 .lss 10 11]
def r129_4:RL:=[mV 15 7,mV 16 9,oP 17 (.bsl 1 1 [(.int .i64 0)] [(0,(1,(.t 16)))]),oP 18 (.append 1 8 (.t 15) (.t 17)),mV 7 18]
def r129_5:RL:=[mV 19 8,mV 20 9,oP 21 (.bsl 1 1 [(.int .i64 0)] [(0,(1,(.t 20)))]),oP 22 (.append 1 8 (.t 19) (.t 21)),mV 8 22]
def r129_6:RL:=[mV 13 9,bK 14 .add 13 1,mV 9 14]
def l129_0:CC:=(.seq (.seq (rN r129_3) (.cond (.t 12) .skip (.exit 0))) (.seq (.block 1 (.seq (rN r129_4) (rN r129_5))) (rN r129_6)))
def r129_7:RL:=[mV 23 0,mV 24 7,mV 25 1,oP 26 (.bsl 1 1 [(.int .i64 0)] [(0,(1,(.t 25)))]),oP 27 (.append 1 8 (.t 24) (.t 26)),mV 28 8,mV 29 2,oP 30 (.bsl 1 1 [(.int .i64 0)] [(0,(1,(.t 29)))]),oP 31 (.append 1 8 (.t 28) (.t 30)),cL 32 185 [.t 23,.t 27,.t 31],cL 33 98 [.t 32],sT (.store 2 (.t 6) (.t 33))]
def c129:CC:=(.seq (rN r129_0) (.seq (rN r129_1) (.seq (.seq (rN r129_2) (.block 0 (.loop l129_0))) (.seq (rN r129_7) .ret))))
theorem o129:FnI 129 34 Tryz.f129 c129 [(.cell 6 40)]:=⟨Tryz.func129,by kernel_rfl⟩
def r130_0:RL:=[oP 4 (.box (.k (.agg [(.bool false),(.vec [] 0 (some 0))])))]
def r130_1:RL:=[mV 5 1,bK 6 .eql 5 0]
def r130_2:RL:=[cL 7 87 [(kI 1)],sT (.store 2 (.t 4) (.t 7))]
def r130_3:RL:=[mV 8 0,mV 9 1,bK 10 .sub 9 1,iX 11 2 8 10,ldO 12 true 2 11,sT (.store 2 (.t 4) (.t 12))]
def c130:CC:=(.seq (rN r130_0) (.seq (.seq (rN r130_1) (.cond (.t 6) (.seq (rN r130_2) .ret) .skip)) (.seq (rN r130_3) .ret)))
theorem o130:FnI 130 13 Tryz.f130 c130 [(.cell 4 40)]:=⟨Tryz.func130,by kernel_rfl⟩
def r131_0:RL:=[oP 6 (.mov (.k (.bool false)))]
def r131_1:RL:=[mV 9 0,mV 10 2,mV 11 2,bK 12 .sub 11 1,cL 13 129 [.t 9,.t 10,.t 12],oP 7 (.box (.k (.agg [(.bool false),(.vec [] 0 (some 0))]))),sT (.store 2 (.t 7) (.t 13))]
def r131_2:RL:=[cL 14 87 [(kI 4)],mV 15 1,mV 16 2,bK 17 .sub 16 1,cL 18 130 [.t 15,.t 17],mV 19 1,mV 20 2,bK 21 .add 20 1,cL 22 130 [.t 19,.t 21],cL 23 164 [.t 18,.t 22],ldO 24 true 2 7,ldO 25 true 2 7,cL 26 164 [.t 24,.t 25],cL 27 190 [.t 23,.t 26],cL 28 164 [.t 14,.t 27],oP 8 (.box (.k (.agg [(.bool false),(.vec [] 0 (some 0))]))),sT (.store 2 (.t 8) (.t 28))]
def r131_3:RL:=[ldO 29 true 2 8,cL 30 87 [(kI 3)],mV 31 1,mV 32 2,cL 33 130 [.t 31,.t 32],mV 34 1,mV 35 2,cL 36 130 [.t 34,.t 35],cL 37 164 [.t 33,.t 36],cL 38 164 [.t 30,.t 37],cL 39 121 [.t 29,.t 38],bK 40 .geq 39 0,mV 6 40]
def c131:CC:=(.seq (rN r131_0) (.seq (rN r131_1) (.seq (.reg r131_2 (some [(0,10),(4,10),(8,10),(9,10),(0,11),(4,11),(8,11),(9,11),(10,11),(0,15),(4,15),(8,15),(9,15),(10,15),(11,15),(12,15),(13,15),(14,15)])) (.seq (.reg r131_3 (some [(0,1),(0,4),(0,7),(0,8),(0,9)])) .ret))))
theorem o131:FnI 131 41 Tryz.f131 c131 [(.tmp 6)]:=⟨Tryz.func131,by kernel_rfl⟩
def r132_0:RL:=[oP 2 (.mov (kI 0)),oP 3 (.mov (kI 0)),oP 4 (.mov (.k (.bool false)))]
def r132_1:RL:=[mV 7 0,lN 8 7,bK 9 .lss 8 1,mV 10 9,gU 11 10 false (.mov (.t 0)),gU 12 10 false (.len false (.t 11)),gU 13 10 false (.bin .gtr (.t 12) (kI 16)),oP 14 (.pick (.t 10) (.k (.bool true)) (.t 13))]
def r132_2:RL:=[oP 2 (.mov (kI 0)),oP 3 (.mov (kI 0)),oP 4 (.mov (.k (.bool false)))]
def r132_3:RL:=[mV 15 0,lN 16 15,oP 17 (.mov (kI 0))]
def r132_4:RL:=[bT 18 .lss 17 16]
def r132_5:RL:=[iX 19 1 15 17,ldO 20 false 1 19,mV 6 20]
def r132_6:RL:=[mV 21 6,lN 22 21,bK 23 .lss 22 1,mV 24 23,gU 25 24 false (.mov (.t 6)),gU 26 24 false (.len false (.t 25)),gU 27 24 false (.bin .gtr (.t 26) (kI 16)),oP 28 (.pick (.t 24) (.k (.bool true)) (.t 27)),mV 29 28,gU 30 29 false (.mov (.t 6)),gU 31 29 false (.len false (.t 30)),gU 32 29 false (.mov (.t 0)),gU 33 29 false (.idx 1 (.t 32) (kI 0)),gU 34 29 false (.load false 1 (.t 33)),gU 35 29 false (.len false (.t 34)),gU 36 29 false (.bin .neq (.t 31) (.t 35)),oP 37 (.pick (.t 29) (.k (.bool true)) (.t 36))]
def r132_7:RL:=[oP 2 (.mov (kI 0)),oP 3 (.mov (kI 0)),oP 4 (.mov (.k (.bool false)))]
def r132_8:RL:=[bK 38 .add 17 1,mV 17 38]
def l132_0:CC:=(.seq (rN r132_4) (.seq (.cond (.t 18) .skip (.exit 0)) (.seq (.block 1 (.seq (rN r132_5) (.seq (rN r132_6) (.cond (.t 37) (.seq (rN r132_7) .ret) .skip)))) (rN r132_8))))
def r132_9:RL:=[mV 39 0,lN 40 39,mV 41 0,oP 42 (.idx 1 (.t 41) (kI 0)),ldO 43 false 1 42,lN 44 43,mV 2 40,mV 3 44,oP 4 (.mov (.k (.bool true)))]
def c132:CC:=(.seq (rN r132_0) (.seq (.seq (rN r132_1) (.cond (.t 14) (.seq (rN r132_2) .ret) .skip)) (.seq (.seq (rN r132_3) (.block 0 (.loop l132_0))) (.seq (.reg r132_9 (some [])) .ret))))
theorem o132:FnI 132 45 Tryz.f132 c132 [(.tmp 2),(.tmp 3),(.tmp 4)]:=⟨Tryz.func132,by kernel_rfl⟩
def r133_0:RL:=[oP 2 (.mov (.k (.vec [] 0 (some 0)))),oP 3 (.mov (.k (.bool false)))]
def r133_1:RL:=[mV 11 0,cL 12 132 [.t 11],mV 10 12,eX 13 10 0,eX 14 10 1,eX 15 10 2,mV 4 13,mV 5 14,mV 6 15]
def r133_2:RL:=[mV 16 6,oP 17 (.un .not (.t 16))]
def r133_3:RL:=[oP 2 (.mov (.k (.vec [] 0 (some 0)))),oP 3 (.mov (.k (.bool false)))]
def r133_4:RL:=[mV 18 5,mV 19 4,cL 20 123 [.t 18,.t 19],mV 7 20]
def r133_5:RL:=[mV 21 0,lN 22 21,oP 23 (.mov (kI 0))]
def r133_6:RL:=[bT 24 .lss 23 22]
def r133_7:RL:=[mV 25 23,mV 8 25]
def r133_8:RL:=[mV 26 0,mV 27 8,iX 28 1 26 27,ldO 29 false 1 28,lN 30 29,oP 31 (.mov (kI 0))]
def r133_9:RL:=[bT 32 .lss 31 30]
def r133_10:RL:=[mV 33 31,mV 9 33]
def r133_11:RL:=[mV 34 7,mV 35 9,iX 36 1 34 35,ldO 37 false 1 36,mV 38 8,mV 39 0,mV 40 8,iX 41 1 39 40,ldO 42 false 1 41,mV 43 9,iX 44 2 42 43,ldO 45 true 2 44,cL 46 122 [.t 45],iX 47 2 37 38,sT (.store 2 (.t 47) (.t 46))]
def r133_12:RL:=[bK 48 .add 31 1,mV 31 48]
def l133_1:CC:=(.seq (rN r133_9) (.seq (.cond (.t 32) .skip (.exit 2)) (.seq (.block 3 (.seq (rN r133_10) (.reg r133_11 (some [(3,8),(3,11),(3,12)])))) (rN r133_12))))
def r133_13:RL:=[bK 49 .add 23 1,mV 23 49]
def l133_0:CC:=(.seq (rN r133_6) (.seq (.cond (.t 24) .skip (.exit 0)) (.seq (.block 1 (.seq (rN r133_7) (.seq (rN r133_8) (.block 2 (.loop l133_1))))) (rN r133_13))))
def r133_14:RL:=[mV 50 7,mV 2 50,oP 3 (.mov (.k (.bool true)))]
def c133:CC:=(.seq (rN r133_0) (.seq (rN r133_1) (.seq (.seq (rN r133_2) (.cond (.t 17) (.seq (rN r133_3) .ret) .skip)) (.seq (rN r133_4) (.seq (.seq (rN r133_5) (.block 0 (.loop l133_0))) (.seq (rN r133_14) .ret))))))
theorem o133:FnI 133 51 Tryz.f133 c133 [(.tmp 2),(.tmp 3)]:=⟨Tryz.func133,by kernel_rfl⟩
def r134_0:RL:=[oP 4 (.mov (.k (.vec [] 0 (some 0)))),oP 5 (.mov (.k (.bool false)))]
def r134_1:RL:=[mV 15 0,cL 16 132 [.t 15],mV 14 16,eX 17 14 0,eX 18 14 1,eX 19 14 2,mV 6 17,mV 7 18,mV 8 19]
def r134_2:RL:=[mV 21 1,cL 22 133 [.t 21],mV 20 22,eX 23 20 0,eX 24 20 1,mV 9 23,mV 10 24]
def r134_3:RL:=[mV 25 8,oP 26 (.un .not (.t 25)),mV 27 26,gU 28 27 false (.mov (.t 10)),gU 29 27 false (.un .not (.t 28)),oP 30 (.pick (.t 27) (.k (.bool true)) (.t 29)),mV 31 30,gU 32 31 false (.mov (.t 1)),gU 33 31 false (.len false (.t 32)),gU 34 31 false (.mov (.t 7)),gU 35 31 false (.bin .neq (.t 33) (.t 34)),oP 36 (.pick (.t 31) (.k (.bool true)) (.t 35))]
def r134_4:RL:=[oP 4 (.mov (.k (.vec [] 0 (some 0)))),oP 5 (.mov (.k (.bool false)))]
def r134_5:RL:=[mV 37 0,lN 38 37,mV 39 9,lN 40 39,cL 41 123 [.t 38,.t 40],mV 11 41]
def r134_6:RL:=[mV 42 0,lN 43 42,oP 44 (.mov (kI 0))]
def r134_7:RL:=[bT 45 .lss 44 43]
def r134_8:RL:=[mV 46 44,mV 12 46]
def r134_9:RL:=[mV 47 9,lN 48 47,oP 49 (.mov (kI 0))]
def r134_10:RL:=[bT 50 .lss 49 48]
def r134_11:RL:=[mV 51 49,mV 13 51]
def r134_12:RL:=[mV 52 11,mV 53 12,iX 54 1 52 53,ldO 55 false 1 54,mV 56 13,mV 57 0,mV 58 12,iX 59 1 57 58,ldO 60 false 1 59,mV 61 9,mV 62 13,iX 63 1 61 62,ldO 64 false 1 63,cL 65 191 [.t 60,.t 64],iX 66 2 55 56,sT (.store 2 (.t 66) (.t 65))]
def r134_13:RL:=[bK 67 .add 49 1,mV 49 67]
def l134_1:CC:=(.seq (rN r134_10) (.seq (.cond (.t 50) .skip (.exit 2)) (.seq (.block 3 (.seq (rN r134_11) (.reg r134_12 (some [(3,8),(3,12),(8,12),(3,13)])))) (rN r134_13))))
def r134_14:RL:=[bK 68 .add 44 1,mV 44 68]
def l134_0:CC:=(.seq (rN r134_7) (.seq (.cond (.t 45) .skip (.exit 0)) (.seq (.block 1 (.seq (rN r134_8) (.seq (rN r134_9) (.block 2 (.loop l134_1))))) (rN r134_14))))
def r134_15:RL:=[mV 69 11,mV 4 69,oP 5 (.mov (.k (.bool true)))]
def c134:CC:=(.seq (rN r134_0) (.seq (rN r134_1) (.seq (rN r134_2) (.seq (.seq (rN r134_3) (.cond (.t 36) (.seq (rN r134_4) .ret) .skip)) (.seq (rN r134_5) (.seq (.seq (rN r134_6) (.block 0 (.loop l134_0))) (.seq (rN r134_15) .ret)))))))
theorem o134:FnI 134 70 Tryz.f134 c134 [(.tmp 4),(.tmp 5)]:=⟨Tryz.func134,by kernel_rfl⟩
def r135_0:RL:=[oP 2 (.mov (kI 0))]
def r135_1:RL:=[mV 3 0,oP 4 (.nilck (.t 3)),oP 5 (.fld 1 (.t 4)),ldO 6 false 1 5,mV 7 0,oP 8 (.nilck (.t 7)),oP 9 (.fld 0 (.t 8)),ldO 10 false 1 9,lN 11 10,bT 12 .geq 6 11]
def r135_2:RL:=[oP 2 (.mov (kI 0))]
def r135_3:RL:=[mV 13 0,oP 14 (.nilck (.t 13)),oP 15 (.fld 1 (.t 14)),ldO 16 false 1 15,bK 17 .add 16 1,oP 18 (.nilck (.t 13)),oP 19 (.fld 1 (.t 18)),sT (.store 1 (.t 19) (.t 17))]
def r135_4:RL:=[mV 20 0,oP 21 (.nilck (.t 20)),oP 22 (.fld 0 (.t 21)),ldO 23 false 1 22,mV 24 0,oP 25 (.nilck (.t 24)),oP 26 (.fld 1 (.t 25)),ldO 27 false 1 26,bK 28 .sub 27 1,iX 29 1 23 28,ldO 30 false 1 29,oP 31 (.conv .i64 (.t 30)),mV 2 31]
def c135:CC:=(.seq (rN r135_0) (.seq (.seq (.reg r135_1 (some [(3,7)])) (.cond (.t 12) (.seq (rN r135_2) .ret) .skip)) (.seq (rN r135_3) (.seq (.reg r135_4 (some [(3,7)])) .ret))))
theorem o135:FnI 135 32 Tryz.f135 c135 [(.tmp 2)]:=⟨Tryz.func135,by kernel_rfl⟩
def r136_0:RL:=[oP 2 (.mov (.k (.bool false)))]
def r136_1:RL:=[mV 10 0,lN 11 10,mV 3 11]
def r136_2:RL:=[mV 12 3,bK 13 .lss 12 1,mV 14 13,gU 15 14 false (.mov (.t 3)),gU 16 14 false (.bin .gtr (.t 15) (kI 8)),oP 17 (.pick (.t 14) (.k (.bool true)) (.t 16))]
def r136_3:RL:=[oP 2 (.mov (.k (.bool false)))]
def r136_4:RL:=[mV 18 0,lN 19 18,oP 20 (.mov (kI 0))]
def r136_5:RL:=[bT 21 .lss 20 19]
def r136_6:RL:=[iX 22 1 18 20,ldO 23 false 1 22,mV 5 23]
def r136_7:RL:=[mV 24 5,lN 25 24,mV 26 3,bT 27 .neq 25 26]
def r136_8:RL:=[oP 2 (.mov (.k (.bool false)))]
def r136_9:RL:=[bK 28 .add 20 1,mV 20 28]
def l136_0:CC:=(.seq (rN r136_5) (.seq (.cond (.t 21) .skip (.exit 0)) (.seq (.block 1 (.seq (rN r136_6) (.seq (rN r136_7) (.cond (.t 27) (.seq (rN r136_8) .ret) .skip)))) (rN r136_9))))
def r136_10:RL:=[mV 29 0,lN 30 29,oP 31 (.mov (kI 0))]
def r136_11:RL:=[bT 32 .lss 31 30]
def r136_12:RL:=[mV 33 31,iX 34 1 29 31,ldO 35 false 1 34,mV 6 33,mV 7 35]
def r136_13:RL:=[mV 36 7,lN 37 36,oP 38 (.mov (kI 0))]
def r136_14:RL:=[bT 39 .lss 38 37]
def r136_15:RL:=[mV 40 38,iX 41 1 36 38,ldO 42 false 1 41,mV 8 40,mV 9 42]
def r136_16:RL:=[mV 43 9,mV 44 0,mV 45 8,iX 46 1 44 45,ldO 47 false 1 46,mV 48 6,iX 49 1 47 48,ldO 50 false 1 49,bT 51 .neq 43 50,mV 52 51,gU 53 52 false (.mov (.t 9)),gU 54 52 false (.bin .leq (.t 53) (.k (.int .i64 (-262144)))),oP 55 (.pick (.t 52) (.k (.bool true)) (.t 54)),mV 56 55,gU 57 56 false (.mov (.t 9)),gU 58 56 false (.bin .geq (.t 57) (kI 262144)),oP 59 (.pick (.t 56) (.k (.bool true)) (.t 58))]
def r136_17:RL:=[oP 2 (.mov (.k (.bool false)))]
def r136_18:RL:=[bK 60 .add 38 1,mV 38 60]
def l136_2:CC:=(.seq (rN r136_14) (.seq (.cond (.t 39) .skip (.exit 4)) (.seq (.block 5 (.seq (rN r136_15) (.seq (rN r136_16) (.cond (.t 59) (.seq (rN r136_17) .ret) .skip)))) (rN r136_18))))
def r136_19:RL:=[bK 61 .add 31 1,mV 31 61]
def l136_1:CC:=(.seq (rN r136_11) (.seq (.cond (.t 32) .skip (.exit 2)) (.seq (.block 3 (.seq (rN r136_12) (.seq (rN r136_13) (.block 4 (.loop l136_2))))) (rN r136_19))))
def r136_20:RL:=[oP 2 (.mov (.k (.bool true)))]
def c136:CC:=(.seq (rN r136_0) (.seq (rN r136_1) (.seq (.seq (rN r136_2) (.cond (.t 17) (.seq (rN r136_3) .ret) .skip)) (.seq (.seq (rN r136_4) (.block 0 (.loop l136_0))) (.seq (.seq (rN r136_10) (.block 2 (.loop l136_1))) (.seq (rN r136_20) .ret))))))
theorem o136:FnI 136 62 Tryz.f136 c136 [(.tmp 2)]:=⟨Tryz.func136,by kernel_rfl⟩
def r137_0:RL:=[oP 2 (.mov (.k (.bool false)))]
def r137_1:RL:=[mV 6 0,oP 7 (.idx 1 (.t 6) (kI 0)),ldO 8 false 1 7,oP 9 (.idx 1 (.t 8) (kI 0)),ldO 10 false 1 9,mV 3 10]
def r137_2:RL:=[mV 11 3,bK 12 .leq 11 0,mV 13 12,gU 14 13 false (.mov (.t 3)),gU 15 13 false (.bin .geq (.t 14) (kI 65536)),oP 16 (.pick (.t 13) (.k (.bool true)) (.t 15))]
def r137_3:RL:=[oP 2 (.mov (.k (.bool false)))]
def r137_4:RL:=[mV 17 0,oP 18 (.slice 1 (.t 17) (some (kI 1)) none none),lN 19 18,oP 20 (.mov (kI 0))]
def r137_5:RL:=[bT 21 .lss 20 19]
def r137_6:RL:=[iX 22 1 18 20,ldO 23 false 1 22,mV 5 23]
def r137_7:RL:=[mV 24 5,oP 25 (.idx 1 (.t 24) (kI 0)),ldO 26 false 1 25,oP 27 (.bin .mul (kI 2) (.t 26)),mV 28 3,bT 29 .gtr 27 28,mV 30 29,gU 31 30 false (.mov (.t 5)),gU 32 30 false (.idx 1 (.t 31) (kI 0)),gU 33 30 false (.load false 1 (.t 32)),gU 34 30 false (.bin .mul (.k (.int .i64 (-2))) (.t 33)),gU 35 30 false (.mov (.t 3)),gU 36 30 false (.bin .gtr (.t 34) (.t 35)),oP 37 (.pick (.t 30) (.k (.bool true)) (.t 36))]
def r137_8:RL:=[oP 2 (.mov (.k (.bool false)))]
def r137_9:RL:=[bK 38 .add 20 1,mV 20 38]
def l137_0:CC:=(.seq (rN r137_5) (.seq (.cond (.t 21) .skip (.exit 0)) (.seq (.block 1 (.seq (rN r137_6) (.seq (rN r137_7) (.cond (.t 37) (.seq (rN r137_8) .ret) .skip)))) (rN r137_9))))
def r137_10:RL:=[oP 2 (.mov (.k (.bool true)))]
def c137:CC:=(.seq (rN r137_0) (.seq (rN r137_1) (.seq (.seq (rN r137_2) (.cond (.t 16) (.seq (rN r137_3) .ret) .skip)) (.seq (.seq (rN r137_4) (.block 0 (.loop l137_0))) (.seq (rN r137_10) .ret)))))
theorem o137:FnI 137 39 Tryz.f137 c137 [(.tmp 2)]:=⟨Tryz.func137,by kernel_rfl⟩
def r139_0:RL:=[oP 2 (.mov (.k (.bool false)))]
def r139_1:RL:=[mV 5 0,lN 6 5,bK 7 .lss 6 1,mV 8 7,gU 9 8 false (.mov (.t 0)),gU 10 8 false (.len false (.t 9)),gU 11 8 false (.bin .gtr (.t 10) (kI 16)),oP 12 (.pick (.t 8) (.k (.bool true)) (.t 11)),mV 13 12,gU 14 13 false (.mov (.t 0)),gU 15 13 false (.idx 1 (.t 14) (kI 0)),gU 16 13 false (.load false 1 (.t 15)),gU 17 13 false (.len false (.t 16)),gU 18 13 false (.bin .lss (.t 17) (kI 1)),oP 19 (.pick (.t 13) (.k (.bool true)) (.t 18)),mV 20 19,gU 21 20 false (.mov (.t 0)),gU 22 20 false (.idx 1 (.t 21) (kI 0)),gU 23 20 false (.load false 1 (.t 22)),gU 24 20 false (.len false (.t 23)),gU 25 20 false (.bin .gtr (.t 24) (kI 16)),oP 26 (.pick (.t 20) (.k (.bool true)) (.t 25))]
def r139_2:RL:=[oP 2 (.mov (.k (.bool false)))]
def r139_3:RL:=[mV 27 0,lN 28 27,oP 29 (.mov (kI 0))]
def r139_4:RL:=[bT 30 .lss 29 28]
def r139_5:RL:=[iX 31 1 27 29,ldO 32 false 1 31,mV 4 32]
def r139_6:RL:=[mV 33 4,lN 34 33,mV 35 0,oP 36 (.idx 1 (.t 35) (kI 0)),ldO 37 false 1 36,lN 38 37,bT 39 .neq 34 38]
def r139_7:RL:=[oP 2 (.mov (.k (.bool false)))]
def r139_8:RL:=[bK 40 .add 29 1,mV 29 40]
def l139_0:CC:=(.seq (rN r139_4) (.seq (.cond (.t 30) .skip (.exit 0)) (.seq (.block 1 (.seq (rN r139_5) (.seq (rN r139_6) (.cond (.t 39) (.seq (rN r139_7) .ret) .skip)))) (rN r139_8))))
def r139_9:RL:=[oP 2 (.mov (.k (.bool true)))]
def c139:CC:=(.seq (rN r139_0) (.seq (.seq (rN r139_1) (.cond (.t 26) (.seq (rN r139_2) .ret) .skip)) (.seq (.seq (rN r139_3) (.block 0 (.loop l139_0))) (.seq (rN r139_9) .ret))))
theorem o139:FnI 139 41 Tryz.f139 c139 [(.tmp 2)]:=⟨Tryz.func139,by kernel_rfl⟩
def r140_0:RL:=[oP 2 (.mov (kI 0))]
def r140_1:RL:=[mV 3 0,bK 4 .lss 3 2,mV 5 4,gU 6 5 false (.mov (.t 0)),gU 7 5 false (.bin .gtr (.t 6) (kI 2147483647)),oP 8 (.pick (.t 5) (.k (.bool true)) (.t 7))]
def r140_2:RL:=[oP 2 (.mov (kI 1))]
def r140_3:RL:=[oP 2 (.mov (kI 0))]
def c140:CC:=(.seq (rN r140_0) (.seq (.seq (rN r140_1) (.cond (.t 8) (.seq (rN r140_2) .ret) .skip)) (.seq (rN r140_3) .ret)))
theorem o140:FnI 140 9 Tryz.f140 c140 [(.tmp 2)]:=⟨Tryz.func140,by kernel_rfl⟩
def r141_0:RL:=[oP 4 (.mov (.k (.vec [] 0 (some 0))))]
def r141_1:RL:=[mV 10 0,lN 11 10,oP 12 (.mksl 1 24 [(.vec [] 0 (some 0))] (.t 11) (.t 11)),mV 5 12]
def r141_2:RL:=[mV 13 0,lN 14 13,oP 15 (.mov (kI 0))]
def r141_3:RL:=[bT 16 .lss 15 14]
def r141_4:RL:=[mV 17 15,iX 18 1 13 15,ldO 19 false 1 18,mV 6 17,mV 7 19]
def r141_5:RL:=[mV 20 5,mV 21 6,mV 22 7,lN 23 22,oP 24 (.mksl 1 8 [(.int .i64 0)] (.t 23) (.t 23)),iX 25 1 20 21,sT (.store 1 (.t 25) (.t 24))]
def r141_6:RL:=[mV 26 7,lN 27 26,oP 28 (.mov (kI 0))]
def r141_7:RL:=[bT 29 .lss 28 27]
def r141_8:RL:=[mV 30 28,iX 31 1 26 28,ldO 32 false 1 31,mV 8 30,mV 9 32]
def r141_9:RL:=[mV 33 5,mV 34 6,iX 35 1 33 34,ldO 36 false 1 35,mV 37 8,mV 38 9,mV 39 1,bT 40 .rem 38 39,mV 41 1,bT 42 .add 40 41,mV 43 1,bT 44 .rem 42 43,iX 45 1 36 37,sT (.store 1 (.t 45) (.t 44))]
def r141_10:RL:=[bK 46 .add 28 1,mV 28 46]
def l141_1:CC:=(.seq (rN r141_7) (.seq (.cond (.t 29) .skip (.exit 2)) (.seq (.block 3 (.seq (rN r141_8) (.reg r141_9 (some [])))) (rN r141_10))))
def r141_11:RL:=[bK 47 .add 15 1,mV 15 47]
def l141_0:CC:=(.seq (rN r141_3) (.seq (.cond (.t 16) .skip (.exit 0)) (.seq (.block 1 (.seq (rN r141_4) (.seq (rN r141_5) (.seq (rN r141_6) (.block 2 (.loop l141_1)))))) (rN r141_11))))
def r141_12:RL:=[mV 48 5,mV 4 48]
def c141:CC:=(.seq (rN r141_0) (.seq (rN r141_1) (.seq (.seq (rN r141_2) (.block 0 (.loop l141_0))) (.seq (rN r141_12) .ret))))
theorem o141:FnI 141 49 Tryz.f141 c141 [(.tmp 4)]:=⟨Tryz.func141,by kernel_rfl⟩
def r149_0:RL:=[oP 1 (.box (.t 0)),oP 2 (.mov (kI 0))]
def r149_1:RL:=[oP 4 (.fld 1 (.t 1)),ldO 5 false 1 4,cL 6 161 [.t 5],lN 7 6,bK 8 .eql 7 0,mV 3 8]
def r149_2:RL:=[oP 2 (.mov (kI 0))]
def r149_3:RL:=[oP 10 (.fld 0 (.t 1)),ldO 11 false 1 10,mV 9 11]
def r149_4:RL:=[oP 2 (.mov (.k (.int .i64 (-1))))]
def r149_5:RL:=[oP 2 (.mov (kI 1))]
def c149:CC:=(.seq (rN r149_0) (.seq (.block 0 (.seq (rN r149_1) (.cond (.t 3) (.seq (rN r149_2) .ret) (.seq (rN r149_3) (.cond (.t 9) (.seq (rN r149_4) .ret) .skip))))) (.seq (rN r149_5) .ret)))
theorem o149:FnI 149 12 Tryz.f149 c149 [(.tmp 2)]:=⟨Tryz.func149,by kernel_rfl⟩
def r150_0:RL:=[oP 2 (.box (.t 0)),oP 3 (.box (.t 1)),oP 4 (.box (.k (.agg [(.bool false),(.vec [] 0 (some 0))])))]
def r150_1:RL:=[ldO 7 true 2 2,cL 8 187 [.t 7],ldO 9 true 2 3,cL 10 187 [.t 9],oP 5 (.box (.k (.agg [(.bool false),(.vec [] 0 (some 0))]))),oP 6 (.box (.k (.agg [(.bool false),(.vec [] 0 (some 0))]))),sT (.store 2 (.t 5) (.t 8)),sT (.store 2 (.t 6) (.t 10))]
def r150_2:RL:=[ldO 11 true 2 6,cL 12 149 [.t 11],bK 13 .neq 12 0]
def r150_3:RL:=[ldO 14 true 2 6,ldO 15 true 2 5,ldO 16 true 2 6,cL 17 197 [.t 15,.t 16],sT (.store 2 (.t 5) (.t 14)),sT (.store 2 (.t 6) (.t 17))]
def l150_0:CC:=(.seq (.seq (rN r150_2) (.cond (.t 13) .skip (.exit 0))) (.block 1 (.reg r150_3 (some [(0,1),(0,2),(1,2),(0,3)]))))
def r150_4:RL:=[ldO 18 true 2 5,sT (.store 2 (.t 4) (.t 18))]
def c150:CC:=(.seq (rN r150_0) (.seq (.reg r150_1 (some [(0,2),(1,2),(0,4),(1,4),(2,4),(3,4),(0,5),(1,5),(2,5),(3,5),(4,5)])) (.seq (.block 0 (.loop l150_0)) (.seq (rN r150_4) .ret))))
theorem o150:FnI 150 19 Tryz.f150 c150 [(.cell 4 40)]:=⟨Tryz.func150,by kernel_rfl⟩
def r151_0:RL:=[oP 2 (.box (.t 0)),oP 3 (.box (.t 1)),oP 4 (.box (.k (.agg [(.bool false),(.vec [] 0 (some 0))])))]
def r151_1:RL:=[ldO 9 true 2 2,ldO 10 true 2 3,cL 11 198 [.t 9,.t 10],mV 8 11,eX 12 8 0,eX 13 8 1,eX 14 8 2,oP 5 (.box (.k (.agg [(.bool false),(.vec [] 0 (some 0))]))),oP 6 (.box (.k (.agg [(.bool false),(.vec [] 0 (some 0))]))),sT (.store 2 (.t 5) (.t 12)),sT (.store 2 (.t 6) (.t 13)),mV 7 14]
def r151_2:RL:=[ldO 15 true 2 5,sT (.store 2 (.t 4) (.t 15))]
def c151:CC:=(.seq (rN r151_0) (.seq (rN r151_1) (.seq (rN r151_2) .ret)))
theorem o151:FnI 151 16 Tryz.f151 c151 [(.cell 4 40)]:=⟨Tryz.func151,by kernel_rfl⟩
def r152_0:RL:=[oP 4 (.box (.k (.agg [(.bool false),(.vec [] 0 (some 0))])))]
def r152_1:RL:=[mV 5 0,mV 6 1,oP 7 (.conv .u32 (.t 6)),mV 8 1,oP 9 (.bin .shr (.t 8) (.k (.int .u64 32))),oP 10 (.conv .u32 (.t 9)),oP 11 (.bsl 2 1 [(.int .u32 0),(.int .u32 0)] [(0,(1,(.t 7))),(1,(1,(.t 10)))]),cL 12 184 [.t 5,.t 11],sT (.store 2 (.t 4) (.t 12))]
def c152:CC:=(.seq (rN r152_0) (.seq (rN r152_1) .ret))
theorem o152:FnI 152 13 Tryz.f152 c152 [(.cell 4 40)]:=⟨Tryz.func152,by kernel_rfl⟩
def r161_0:RL:=[oP 2 (.mov (.k (.vec [] 0 (some 0))))]
def r161_1:RL:=[mV 4 0,lN 5 4,mV 3 5]
def r161_2:RL:=[mV 6 3,bK 7 .gtr 6 0,mV 8 7,gU 9 8 true (.mov (.t 0)),gU 10 8 true (.mov (.t 3)),gU 11 8 true (.bin .sub (.t 10) (kI 1)),gU 12 8 true (.idx 1 (.t 9) (.t 11)),gU 13 8 true (.load false 1 (.t 12)),gU 14 8 true (.bin .eql (.t 13) (.k (.int .u32 0))),oP 15 (.pick (.t 8) (.t 14) (.k (.bool false)))]
def r161_3:RL:=[mV 16 3,bK 17 .sub 16 1,mV 3 17]
def l161_0:CC:=(.seq (.seq (rN r161_2) (.cond (.t 15) .skip (.exit 0))) (.block 1 (rN r161_3)))
def r161_4:RL:=[mV 18 0,mV 19 3,oP 20 (.slice 1 (.t 18) none (some (.t 19)) none),oP 21 (.append 1 4 (.k (.vec [] 0 (some 0))) (.t 20)),mV 2 21]
def c161:CC:=(.seq (rN r161_0) (.seq (rN r161_1) (.seq (.block 0 (.loop l161_0)) (.seq (rN r161_4) .ret))))
theorem o161:FnI 161 22 Tryz.f161 c161 [(.tmp 2)]:=⟨Tryz.func161,by kernel_rfl⟩
def r162_0:RL:=[oP 2 (.mov (.k (.int .u64 0)))]
def r162_1:RL:=[oP 3 (.mov (.k (.int .u64 0)))]
def r162_2:RL:=[oP 4 (.mov (kI 0))]
def r162_3:RL:=[mV 5 4,mV 6 0,lN 7 6,bT 8 .lss 5 7,mV 9 8,gU 10 9 true (.mov (.t 4)),gU 11 9 true (.bin .lss (.t 10) (kI 2)),oP 12 (.pick (.t 9) (.t 11) (.k (.bool false)))]
def r162_4:RL:=[mV 15 3,mV 16 0,mV 17 4,iX 18 1 16 17,ldO 19 false 1 18,oP 20 (.conv .u64 (.t 19)),mV 21 4,oP 22 (.bin .mul (kI 32) (.t 21)),bT 23 .shl 20 22,bT 24 .or 15 23,mV 3 24]
def r162_5:RL:=[mV 13 4,bK 14 .add 13 1,mV 4 14]
def l162_0:CC:=(.seq (.seq (rN r162_3) (.cond (.t 12) .skip (.exit 0))) (.seq (.block 1 (rN r162_4)) (rN r162_5)))
def r162_6:RL:=[mV 25 3,mV 2 25]
def c162:CC:=(.seq (rN r162_0) (.seq (rN r162_1) (.seq (.seq (rN r162_2) (.block 0 (.loop l162_0))) (.seq (rN r162_6) .ret))))
theorem o162:FnI 162 26 Tryz.f162 c162 [(.tmp 2)]:=⟨Tryz.func162,by kernel_rfl⟩
def r163_0:RL:=[oP 2 (.box (.t 0)),oP 3 (.box (.t 1)),oP 4 (.box (.k (.agg [(.bool false),(.vec [] 0 (some 0))])))]
def r163_1:RL:=[ldO 5 true 2 2,ldO 6 true 2 3,cL 7 126 [.t 6],cL 8 190 [.t 5,.t 7],sT (.store 2 (.t 4) (.t 8))]
def c163:CC:=(.seq (rN r163_0) (.seq (.reg r163_1 (some [(0,1),(0,2)])) .ret))
theorem o163:FnI 163 9 Tryz.f163 c163 [(.cell 4 40)]:=⟨Tryz.func163,by kernel_rfl⟩
def r164_0:RL:=[oP 2 (.box (.t 0)),oP 3 (.box (.t 1)),oP 4 (.box (.k (.agg [(.bool false),(.vec [] 0 (some 0))])))]
def r164_1:RL:=[oP 11 (.fld 1 (.t 2)),ldO 12 false 1 11,lN 13 12,oP 14 (.fld 1 (.t 3)),ldO 15 false 1 14,lN 16 15,bT 17 .add 13 16,oP 18 (.mksl 1 4 [(.int .u32 0)] (.t 17) (.t 17)),mV 5 18]
def r164_2:RL:=[oP 19 (.fld 1 (.t 2)),ldO 20 false 1 19,lN 21 20,oP 22 (.mov (kI 0))]
def r164_3:RL:=[bT 23 .lss 22 21]
def r164_4:RL:=[mV 24 22,iX 25 1 20 22,ldO 26 false 1 25,mV 6 24,mV 7 26]
def r164_5:RL:=[oP 8 (.mov (.k (.int .u64 0)))]
def r164_6:RL:=[oP 27 (.fld 1 (.t 3)),ldO 28 false 1 27,lN 29 28,oP 30 (.mov (kI 0))]
def r164_7:RL:=[bT 31 .lss 30 29]
def r164_8:RL:=[mV 32 30,iX 33 1 28 30,ldO 34 false 1 33,mV 9 32,mV 10 34]
def r164_9:RL:=[mV 35 8,mV 36 7,oP 37 (.conv .u64 (.t 36)),mV 38 10,oP 39 (.conv .u64 (.t 38)),bT 40 .mul 37 39,mV 41 5,mV 42 6,mV 43 9,bT 44 .add 42 43,iX 45 1 41 44,ldO 46 false 1 45,oP 47 (.conv .u64 (.t 46)),bT 48 .add 40 47,bT 49 .add 35 48,mV 8 49]
def r164_10:RL:=[mV 50 5,mV 51 6,mV 52 9,bT 53 .add 51 52,mV 54 8,oP 55 (.conv .u32 (.t 54)),iX 56 1 50 53,sT (.store 1 (.t 56) (.t 55))]
def r164_11:RL:=[mV 57 8,oP 58 (.bin .shr (.t 57) (.k (.int .u64 32))),mV 8 58]
def r164_12:RL:=[bK 59 .add 30 1,mV 30 59]
def l164_1:CC:=(.seq (rN r164_7) (.seq (.cond (.t 31) .skip (.exit 2)) (.seq (.block 3 (.seq (rN r164_8) (.seq (rN r164_9) (.seq (rN r164_10) (rN r164_11))))) (rN r164_12))))
def r164_13:RL:=[mV 60 5,mV 61 6,oP 62 (.fld 1 (.t 3)),ldO 63 false 1 62,lN 64 63,bT 65 .add 61 64,mV 66 8,oP 67 (.conv .u32 (.t 66)),iX 68 1 60 65,sT (.store 1 (.t 68) (.t 67))]
def r164_14:RL:=[bK 69 .add 22 1,mV 22 69]
def l164_0:CC:=(.seq (rN r164_3) (.seq (.cond (.t 23) .skip (.exit 0)) (.seq (.block 1 (.seq (rN r164_4) (.seq (rN r164_5) (.seq (.seq (rN r164_6) (.block 2 (.loop l164_1))) (rN r164_13))))) (rN r164_14))))
def r164_15:RL:=[oP 70 (.fld 0 (.t 2)),ldO 71 false 1 70,oP 72 (.fld 0 (.t 3)),ldO 73 false 1 72,oP 74 (.beq true (.t 71) (.t 73)),mV 75 5,cL 76 184 [.t 74,.t 75],sT (.store 2 (.t 4) (.t 76))]
def c164:CC:=(.seq (rN r164_0) (.seq (rN r164_1) (.seq (.seq (rN r164_2) (.block 0 (.loop l164_0))) (.seq (rN r164_15) .ret))))
theorem o164:FnI 164 77 Tryz.f164 c164 [(.cell 4 40)]:=⟨Tryz.func164,by kernel_rfl⟩
def r165_0:RL:=[oP 2 (.box (.t 0)),oP 3 (.box (.t 1)),oP 4 (.box (.k (.agg [(.bool false),(.vec [] 0 (some 0)),(.bool false),(.vec [] 0 (some 0))])))]
def r165_1:RL:=[ldO 9 true 4 2,cL 10 168 [.t 9],ldO 11 true 4 3,cL 12 168 [.t 11],oP 5 (.box (.k (.agg [(.bool false),(.vec [] 0 (some 0)),(.bool false),(.vec [] 0 (some 0))]))),oP 6 (.box (.k (.agg [(.bool false),(.vec [] 0 (some 0)),(.bool false),(.vec [] 0 (some 0))]))),sT (.store 4 (.t 5) (.t 10)),sT (.store 4 (.t 6) (.t 12))]
def r165_2:RL:=[oP 14 (.fld 0 (.t 5)),ldO 15 true 2 14,oP 16 (.fld 2 (.t 6)),ldO 17 true 2 16,cL 18 164 [.t 15,.t 17],oP 19 (.fld 0 (.t 6)),ldO 20 true 2 19,oP 21 (.fld 2 (.t 5)),ldO 22 true 2 21,cL 23 164 [.t 20,.t 22],cL 24 190 [.t 18,.t 23],oP 25 (.fld 2 (.t 5)),ldO 26 true 2 25,oP 27 (.fld 2 (.t 6)),ldO 28 true 2 27,cL 29 164 [.t 26,.t 28],cL 30 86 [.t 24,.t 29],mV 13 30,eX 31 13 0,eX 32 13 1,oP 7 (.box (.k (.agg [(.bool false),(.vec [] 0 (some 0)),(.bool false),(.vec [] 0 (some 0))]))),sT (.store 4 (.t 7) (.t 31)),mV 8 32]
def r165_3:RL:=[ldO 33 true 4 7,sT (.store 4 (.t 4) (.t 33))]
def c165:CC:=(.seq (rN r165_0) (.seq (.reg r165_1 (some [(0,2),(1,2),(0,4),(1,4),(2,4),(3,4),(0,5),(1,5),(2,5),(3,5),(4,5)])) (.seq (.reg r165_2 (some [(1,3),(1,6),(3,6),(4,6),(1,8),(3,8),(4,8),(6,8),(1,12),(3,12),(4,12),(6,12),(8,12),(9,12),(10,12),(1,14),(3,14),(4,14),(6,14),(8,14),(9,14),(10,14),(12,14),(1,20),(3,20),(4,20),(6,20),(8,20),(9,20),(10,20),(12,20),(14,20),(15,20),(16,20)])) (.seq (rN r165_3) .ret))))
theorem o165:FnI 165 34 Tryz.f165 c165 [(.cell 4 42)]:=⟨Tryz.func165,by kernel_rfl⟩
def r168_0:RL:=[oP 1 (.box (.t 0)),oP 2 (.box (.k (.agg [(.bool false),(.vec [] 0 (some 0)),(.bool false),(.vec [] 0 (some 0))])))]
def r168_1:RL:=[oP 6 (.fld 0 (.t 1)),ldO 7 true 2 6,oP 8 (.fld 2 (.t 1)),ldO 9 true 2 8,cL 10 86 [.t 7,.t 9],mV 5 10,eX 11 5 0,eX 12 5 1,oP 3 (.box (.k (.agg [(.bool false),(.vec [] 0 (some 0)),(.bool false),(.vec [] 0 (some 0))]))),sT (.store 4 (.t 3) (.t 11)),mV 4 12]
def r168_2:RL:=[mV 13 4,oP 14 (.un .not (.t 13))]
def r168_3:RL:=[cL 15 100 [(kI 0)],sT (.store 4 (.t 2) (.t 15))]
def r168_4:RL:=[ldO 16 true 4 3,sT (.store 4 (.t 2) (.t 16))]
def c168:CC:=(.seq (rN r168_0) (.seq (rN r168_1) (.seq (.seq (rN r168_2) (.cond (.t 14) (.seq (rN r168_3) .ret) .skip)) (.seq (rN r168_4) .ret))))
theorem o168:FnI 168 17 Tryz.f168 c168 [(.cell 2 42)]:=⟨Tryz.func168,by kernel_rfl⟩
def r184_0:RL:=[oP 4 (.box (.k (.agg [(.bool false),(.vec [] 0 (some 0))])))]
def r184_1:RL:=[mV 6 1,cL 7 161 [.t 6],mV 5 7]
def r184_2:RL:=[mV 8 0,mV 9 8,gU 10 9 true (.mov (.t 5)),gU 11 9 true (.len false (.t 10)),gU 12 9 true (.bin .gtr (.t 11) (kI 0)),oP 13 (.pick (.t 9) (.t 12) (.k (.bool false))),mV 14 5,oP 15 (.build [(.bool false),(.vec [] 0 (some 0))] [(0,(1,(.t 13))),(1,(1,(.t 14)))]),sT (.store 2 (.t 4) (.t 15))]
def c184:CC:=(.seq (rN r184_0) (.seq (rN r184_1) (.seq (rN r184_2) .ret)))
theorem o184:FnI 184 16 Tryz.f184 c184 [(.cell 4 40)]:=⟨Tryz.func184,by kernel_rfl⟩
def r185_0:RL:=[oP 6 (.mov (.k (.vec [] 0 (some 0))))]
def r185_1:RL:=[oP 7 (.mov (.k (.vec [] 0 (some 0))))]
def r185_2:RL:=[mV 13 1,lN 14 13,oP 15 (.mov (kI 0))]
def r185_3:RL:=[bT 16 .lss 15 14]
def r185_4:RL:=[iX 17 1 13 15,ldO 18 false 1 17,mV 9 18]
def r185_5:RL:=[oP 10 (.mov (.k (.vec [] 0 (some 0))))]
def r185_6:RL:=[mV 19 2,lN 20 19,oP 21 (.mov (kI 0))]
def r185_7:RL:=[bT 22 .lss 21 20]
def r185_8:RL:=[iX 23 1 19 21,ldO 24 false 1 23,mV 12 24]
def r185_9:RL:=[mV 25 10,mV 26 0,mV 27 9,iX 28 1 26 27,ldO 29 false 1 28,mV 30 12,iX 31 2 29 30,ldO 32 true 2 31,oP 33 (.bsl 1 2 [(.bool false),(.vec [] 0 (some 0))] [(0,(2,(.t 32)))]),oP 34 (.append 2 32 (.t 25) (.t 33)),mV 10 34]
def r185_10:RL:=[bK 35 .add 21 1,mV 21 35]
def l185_1:CC:=(.seq (rN r185_7) (.seq (.cond (.t 22) .skip (.exit 2)) (.seq (.block 3 (.seq (rN r185_8) (rN r185_9))) (rN r185_10))))
def r185_11:RL:=[mV 36 7,mV 37 10,oP 38 (.bsl 1 1 [(.vec [] 0 (some 0))] [(0,(1,(.t 37)))]),oP 39 (.append 1 24 (.t 36) (.t 38)),mV 7 39]
def r185_12:RL:=[bK 40 .add 15 1,mV 15 40]
def l185_0:CC:=(.seq (rN r185_3) (.seq (.cond (.t 16) .skip (.exit 0)) (.seq (.block 1 (.seq (rN r185_4) (.seq (rN r185_5) (.seq (.seq (rN r185_6) (.block 2 (.loop l185_1))) (rN r185_11))))) (rN r185_12))))
def r185_13:RL:=[mV 41 7,mV 6 41]
def c185:CC:=(.seq (rN r185_0) (.seq (rN r185_1) (.seq (.seq (rN r185_2) (.block 0 (.loop l185_0))) (.seq (rN r185_13) .ret))))
theorem o185:FnI 185 42 Tryz.f185 c185 [(.tmp 6)]:=⟨Tryz.func185,by kernel_rfl⟩
def r186_0:RL:=[oP 4 (.mov (.k (.vec [] 0 (some 0))))]
def r186_1:RL:=[oP 5 (.mov (.k (.vec [] 0 (some 0))))]
def r186_2:RL:=[oP 6 (.mov (kI 0))]
def r186_3:RL:=[mV 7 6,mV 8 0,bT 9 .lss 7 8]
def r186_4:RL:=[mV 12 5,mV 13 6,oP 14 (.bsl 1 1 [(.int .i64 0)] [(0,(1,(.t 13)))]),oP 15 (.append 1 8 (.t 12) (.t 14)),mV 5 15]
def r186_5:RL:=[mV 10 6,bK 11 .add 10 1,mV 6 11]
def l186_0:CC:=(.seq (.seq (rN r186_3) (.cond (.t 9) .skip (.exit 0))) (.seq (.block 1 (rN r186_4)) (rN r186_5)))
def r186_6:RL:=[mV 16 5,mV 17 1,oP 18 (.bsl 1 1 [(.int .i64 0)] [(0,(1,(.t 17)))]),oP 19 (.append 1 8 (.t 16) (.t 18)),mV 4 19]
def c186:CC:=(.seq (rN r186_0) (.seq (rN r186_1) (.seq (.seq (rN r186_2) (.block 0 (.loop l186_0))) (.seq (rN r186_6) .ret))))
theorem o186:FnI 186 20 Tryz.f186 c186 [(.tmp 4)]:=⟨Tryz.func186,by kernel_rfl⟩
def r187_0:RL:=[oP 1 (.box (.t 0)),oP 2 (.box (.k (.agg [(.bool false),(.vec [] 0 (some 0))])))]
def r187_1:RL:=[oP 3 (.fld 1 (.t 1)),ldO 4 false 1 3,cL 5 184 [(.k (.bool false)),.t 4],sT (.store 2 (.t 2) (.t 5))]
def c187:CC:=(.seq (rN r187_0) (.seq (rN r187_1) .ret))
theorem o187:FnI 187 6 Tryz.f187 c187 [(.cell 2 40)]:=⟨Tryz.func187,by kernel_rfl⟩
def r188_0:RL:=[oP 1 (.box (.t 0)),oP 2 (.box (.k (.agg [(.bool false),(.vec [] 0 (some 0))])))]
def r188_1:RL:=[ldO 4 true 4 1,cL 5 168 [.t 4],oP 3 (.box (.k (.agg [(.bool false),(.vec [] 0 (some 0)),(.bool false),(.vec [] 0 (some 0))]))),sT (.store 4 (.t 3) (.t 5))]
def r188_2:RL:=[oP 6 (.fld 0 (.t 3)),ldO 7 true 2 6,oP 8 (.fld 2 (.t 3)),ldO 9 true 2 8,cL 10 151 [.t 7,.t 9],sT (.store 2 (.t 2) (.t 10))]
def c188:CC:=(.seq (rN r188_0) (.seq (rN r188_1) (.seq (rN r188_2) .ret)))
theorem o188:FnI 188 11 Tryz.f188 c188 [(.cell 2 40)]:=⟨Tryz.func188,by kernel_rfl⟩
def r189_0:RL:=[oP 0 (.box (.k (.agg [(.bool false),(.vec [] 0 (some 0)),(.bool false),(.vec [] 0 (some 0))])))]
def r189_1:RL:=[cL 1 87 [(kI 1)],cL 2 87 [(kI 2)],oP 3 (.build [(.bool false),(.vec [] 0 (some 0)),(.bool false),(.vec [] 0 (some 0))] [(0,(2,(.t 1))),(2,(2,(.t 2)))]),sT (.store 4 (.t 0) (.t 3))]
def c189:CC:=(.seq (rN r189_0) (.seq (rN r189_1) .ret))
theorem o189:FnI 189 4 Tryz.f189 c189 [(.cell 0 42)]:=⟨Tryz.func189,by kernel_rfl⟩
def r190_0:RL:=[oP 2 (.box (.t 0)),oP 3 (.box (.t 1)),oP 4 (.box (.k (.agg [(.bool false),(.vec [] 0 (some 0))])))]
def r190_1:RL:=[oP 7 (.fld 1 (.t 2)),ldO 8 false 1 7,cL 9 161 [.t 8],oP 10 (.fld 1 (.t 3)),ldO 11 false 1 10,cL 12 161 [.t 11],mV 5 9,mV 6 12]
def r190_2:RL:=[oP 13 (.fld 0 (.t 2)),ldO 14 false 1 13,oP 15 (.fld 0 (.t 3)),ldO 16 false 1 15,oP 17 (.beq false (.t 14) (.t 16))]
def r190_3:RL:=[oP 18 (.fld 0 (.t 2)),ldO 19 false 1 18,mV 20 5,mV 21 6,cL 22 208 [.t 20,.t 21],cL 23 184 [.t 19,.t 22],sT (.store 2 (.t 4) (.t 23))]
def r190_4:RL:=[mV 24 5,mV 25 6,cL 26 88 [.t 24,.t 25],bK 27 .geq 26 0]
def r190_5:RL:=[oP 28 (.fld 0 (.t 2)),ldO 29 false 1 28,mV 30 5,mV 31 6,cL 32 209 [.t 30,.t 31],cL 33 184 [.t 29,.t 32],sT (.store 2 (.t 4) (.t 33))]
def r190_6:RL:=[oP 34 (.fld 0 (.t 3)),ldO 35 false 1 34,mV 36 6,mV 37 5,cL 38 209 [.t 36,.t 37],cL 39 184 [.t 35,.t 38],sT (.store 2 (.t 4) (.t 39))]
def c190:CC:=(.seq (rN r190_0) (.seq (.reg r190_1 (some [(1,4),(2,4)])) (.seq (.seq (rN r190_2) (.cond (.t 17) (.seq (.reg r190_3 (some [(1,4)])) .ret) .skip)) (.seq (.seq (rN r190_4) (.cond (.t 27) (.seq (.reg r190_5 (some [(1,4)])) .ret) .skip)) (.seq (.reg r190_6 (some [(1,4)])) .ret)))))
theorem o190:FnI 190 40 Tryz.f190 c190 [(.cell 4 40)]:=⟨Tryz.func190,by kernel_rfl⟩
def r191_0:RL:=[oP 4 (.box (.k (.agg [(.bool false),(.vec [] 0 (some 0))])))]
def r191_1:RL:=[oP 7 (.build [(.bool false),(.vec [] 0 (some 0))] []),oP 5 (.box (.k (.agg [(.bool false),(.vec [] 0 (some 0))]))),sT (.store 2 (.t 5) (.t 7))]
def r191_2:RL:=[mV 8 0,lN 9 8,oP 10 (.mov (kI 0))]
def r191_3:RL:=[bT 11 .lss 10 9]
def r191_4:RL:=[mV 12 10,mV 6 12]
def r191_5:RL:=[ldO 13 true 2 5,mV 14 0,mV 15 6,iX 16 2 14 15,ldO 17 true 2 16,mV 18 1,mV 19 6,iX 20 2 18 19,ldO 21 true 2 20,cL 22 164 [.t 17,.t 21],cL 23 190 [.t 13,.t 22],sT (.store 2 (.t 5) (.t 23))]
def r191_6:RL:=[bK 24 .add 10 1,mV 10 24]
def l191_0:CC:=(.seq (rN r191_3) (.seq (.cond (.t 11) .skip (.exit 0)) (.seq (.block 1 (.seq (rN r191_4) (.reg r191_5 (some [(0,4),(0,8),(4,8),(0,9)])))) (rN r191_6))))
def r191_7:RL:=[ldO 25 true 2 5,sT (.store 2 (.t 4) (.t 25))]
def c191:CC:=(.seq (rN r191_0) (.seq (rN r191_1) (.seq (.seq (rN r191_2) (.block 0 (.loop l191_0))) (.seq (rN r191_7) .ret))))
theorem o191:FnI 191 26 Tryz.f191 c191 [(.cell 4 40)]:=⟨Tryz.func191,by kernel_rfl⟩
def r197_0:RL:=[oP 2 (.box (.t 0)),oP 3 (.box (.t 1)),oP 4 (.box (.k (.agg [(.bool false),(.vec [] 0 (some 0))])))]
def r197_1:RL:=[ldO 9 true 2 2,ldO 10 true 2 3,cL 11 198 [.t 9,.t 10],mV 8 11,eX 12 8 0,eX 13 8 1,eX 14 8 2,oP 5 (.box (.k (.agg [(.bool false),(.vec [] 0 (some 0))]))),oP 6 (.box (.k (.agg [(.bool false),(.vec [] 0 (some 0))]))),sT (.store 2 (.t 5) (.t 12)),sT (.store 2 (.t 6) (.t 13)),mV 7 14]
def r197_2:RL:=[ldO 15 true 2 6,sT (.store 2 (.t 4) (.t 15))]
def c197:CC:=(.seq (rN r197_0) (.seq (rN r197_1) (.seq (rN r197_2) .ret)))
theorem o197:FnI 197 16 Tryz.f197 c197 [(.cell 4 40)]:=⟨Tryz.func197,by kernel_rfl⟩
def r198_0:RL:=[oP 2 (.box (.t 0)),oP 3 (.box (.t 1)),oP 4 (.box (.k (.agg [(.bool false),(.vec [] 0 (some 0))]))),oP 5 (.box (.k (.agg [(.bool false),(.vec [] 0 (some 0))]))),oP 6 (.mov (.k (.bool false)))]
def r198_1:RL:=[oP 13 (.fld 1 (.t 2)),ldO 14 false 1 13,cL 15 161 [.t 14],oP 16 (.fld 1 (.t 3)),ldO 17 false 1 16,cL 18 161 [.t 17],mV 7 15,mV 8 18]
def r198_2:RL:=[mV 19 8,lN 20 19,bK 21 .eql 20 0]
def r198_3:RL:=[oP 22 (.build [(.bool false),(.vec [] 0 (some 0))] []),oP 23 (.build [(.bool false),(.vec [] 0 (some 0))] []),sT (.store 2 (.t 4) (.t 22)),sT (.store 2 (.t 5) (.t 23)),oP 6 (.mov (.k (.bool false)))]
def r198_4:RL:=[mV 25 7,mV 26 8,cL 27 211 [.t 25,.t 26],mV 24 27,eX 28 24 0,eX 29 24 1,mV 9 28,mV 10 29]
def r198_5:RL:=[oP 30 (.fld 0 (.t 2)),ldO 31 false 1 30,oP 32 (.fld 0 (.t 3)),ldO 33 false 1 32,oP 34 (.beq true (.t 31) (.t 33)),mV 35 9,cL 36 184 [.t 34,.t 35],oP 37 (.fld 0 (.t 2)),ldO 38 false 1 37,mV 39 10,cL 40 184 [.t 38,.t 39],oP 11 (.box (.k (.agg [(.bool false),(.vec [] 0 (some 0))]))),oP 12 (.box (.k (.agg [(.bool false),(.vec [] 0 (some 0))]))),sT (.store 2 (.t 11) (.t 36)),sT (.store 2 (.t 12) (.t 40))]
def r198_6:RL:=[ldO 41 true 2 12,cL 42 149 [.t 41],bK 43 .lss 42 0]
def r198_7:RL:=[ldO 44 true 2 12,mV 45 8,cL 46 184 [(.k (.bool false)),.t 45],cL 47 190 [.t 44,.t 46],sT (.store 2 (.t 12) (.t 47))]
def r198_8:RL:=[ldO 48 true 2 3,cL 49 149 [.t 48],bK 50 .lss 49 0]
def r198_9:RL:=[ldO 51 true 2 11,cL 52 87 [(kI 1)],cL 53 190 [.t 51,.t 52],ldO 54 true 2 12,sT (.store 2 (.t 4) (.t 53)),sT (.store 2 (.t 5) (.t 54)),oP 6 (.mov (.k (.bool true)))]
def r198_10:RL:=[ldO 55 true 2 11,cL 56 87 [(kI 1)],cL 57 163 [.t 55,.t 56],ldO 58 true 2 12,sT (.store 2 (.t 4) (.t 57)),sT (.store 2 (.t 5) (.t 58)),oP 6 (.mov (.k (.bool true)))]
def r198_11:RL:=[ldO 59 true 2 11,ldO 60 true 2 12,sT (.store 2 (.t 4) (.t 59)),sT (.store 2 (.t 5) (.t 60)),oP 6 (.mov (.k (.bool true)))]
def c198:CC:=(.seq (rN r198_0) (.seq (.reg r198_1 (some [(1,4),(2,4)])) (.seq (.seq (rN r198_2) (.cond (.t 21) (.seq (rN r198_3) .ret) .skip)) (.seq (rN r198_4) (.seq (.reg r198_5 (some [(1,3),(1,8),(3,8),(6,8),(1,11),(3,11),(6,11),(8,11),(10,11),(1,12),(3,12),(6,12),(8,12),(10,12),(11,12)])) (.seq (.seq (rN r198_6) (.cond (.t 43) (.seq (.reg r198_7 (some [(0,2)])) (.seq (.seq (rN r198_8) (.cond (.t 50) (.seq (.reg r198_9 (some [(0,1),(0,3),(1,3),(2,3),(3,4)])) .ret) .skip)) (.seq (.reg r198_10 (some [(0,1),(0,3),(1,3),(2,3),(3,4)])) .ret))) .skip)) (.seq (.reg r198_11 (some [(0,1),(1,2)])) .ret)))))))
theorem o198:FnI 198 61 Tryz.f198 c198 [(.cell 4 40),(.cell 5 40),(.tmp 6)]:=⟨Tryz.func198,by kernel_rfl⟩
def r208_0:RL:=[oP 4 (.mov (.k (.vec [] 0 (some 0))))]
def r208_1:RL:=[oP 5 (.mov (.k (.vec [] 0 (some 0))))]
def r208_2:RL:=[oP 6 (.mov (.k (.int .u64 0)))]
def r208_3:RL:=[oP 7 (.mov (kI 0))]
def r208_4:RL:=[mV 8 7,mV 9 0,lN 10 9,bT 11 .lss 8 10,mV 12 11,gU 13 12 false (.mov (.t 7)),gU 14 12 false (.mov (.t 1)),gU 15 12 false (.len false (.t 14)),gU 16 12 false (.bin .lss (.t 13) (.t 15)),oP 17 (.pick (.t 12) (.k (.bool true)) (.t 16))]
def r208_5:RL:=[mV 20 7,mV 21 0,lN 22 21,bT 23 .lss 20 22]
def r208_6:RL:=[mV 24 6,mV 25 0,mV 26 7,iX 27 1 25 26,ldO 28 false 1 27,oP 29 (.conv .u64 (.t 28)),bT 30 .add 24 29,mV 6 30]
def r208_7:RL:=[mV 31 7,mV 32 1,lN 33 32,bT 34 .lss 31 33]
def r208_8:RL:=[mV 35 6,mV 36 1,mV 37 7,iX 38 1 36 37,ldO 39 false 1 38,oP 40 (.conv .u64 (.t 39)),bT 41 .add 35 40,mV 6 41]
def r208_9:RL:=[mV 42 5,mV 43 6,oP 44 (.conv .u32 (.t 43)),oP 45 (.bsl 1 1 [(.int .u32 0)] [(0,(1,(.t 44)))]),oP 46 (.append 1 4 (.t 42) (.t 45)),mV 5 46]
def r208_10:RL:=[mV 47 6,oP 48 (.bin .shr (.t 47) (.k (.int .u64 32))),mV 6 48]
def r208_11:RL:=[mV 18 7,bK 19 .add 18 1,mV 7 19]
def l208_0:CC:=(.seq (.seq (rN r208_4) (.cond (.t 17) .skip (.exit 0))) (.seq (.block 1 (.seq (.seq (rN r208_5) (.cond (.t 23) (rN r208_6) .skip)) (.seq (.seq (rN r208_7) (.cond (.t 34) (rN r208_8) .skip)) (.seq (rN r208_9) (rN r208_10))))) (rN r208_11)))
def r208_12:RL:=[mV 49 5,mV 50 6,oP 51 (.conv .u32 (.t 50)),oP 52 (.bsl 1 1 [(.int .u32 0)] [(0,(1,(.t 51)))]),oP 53 (.append 1 4 (.t 49) (.t 52)),mV 4 53]
def c208:CC:=(.seq (rN r208_0) (.seq (rN r208_1) (.seq (rN r208_2) (.seq (.seq (rN r208_3) (.block 0 (.loop l208_0))) (.seq (rN r208_12) .ret)))))
theorem o208:FnI 208 54 Tryz.f208 c208 [(.tmp 4)]:=⟨Tryz.func208,by kernel_rfl⟩
def r209_0:RL:=[oP 4 (.mov (.k (.vec [] 0 (some 0))))]
def r209_1:RL:=[oP 5 (.mov (.k (.vec [] 0 (some 0))))]
def r209_2:RL:=[oP 6 (.mov (.k (.int .u64 0)))]
def r209_3:RL:=[oP 7 (.mov (kI 0))]
def r209_4:RL:=[mV 9 7,mV 10 0,lN 11 10,bT 12 .lss 9 11]
def r209_5:RL:=[mV 15 6,mV 8 15]
def r209_6:RL:=[mV 16 7,mV 17 1,lN 18 17,bT 19 .lss 16 18]
def r209_7:RL:=[mV 20 8,mV 21 1,mV 22 7,iX 23 1 21 22,ldO 24 false 1 23,oP 25 (.conv .u64 (.t 24)),bT 26 .add 20 25,mV 8 26]
def r209_8:RL:=[mV 27 5,mV 28 0,mV 29 7,iX 30 1 28 29,ldO 31 false 1 30,oP 32 (.conv .u64 (.t 31)),mV 33 8,bT 34 .sub 32 33,oP 35 (.conv .u32 (.t 34)),oP 36 (.bsl 1 1 [(.int .u32 0)] [(0,(1,(.t 35)))]),oP 37 (.append 1 4 (.t 27) (.t 36)),mV 5 37]
def r209_9:RL:=[oP 6 (.mov (.k (.int .u64 0)))]
def r209_10:RL:=[mV 38 0,mV 39 7,iX 40 1 38 39,ldO 41 false 1 40,oP 42 (.conv .u64 (.t 41)),mV 43 8,bT 44 .lss 42 43]
def r209_11:RL:=[oP 6 (.mov (.k (.int .u64 1)))]
def r209_12:RL:=[mV 13 7,bK 14 .add 13 1,mV 7 14]
def l209_0:CC:=(.seq (.seq (rN r209_4) (.cond (.t 12) .skip (.exit 0))) (.seq (.block 1 (.seq (rN r209_5) (.seq (.seq (rN r209_6) (.cond (.t 19) (rN r209_7) .skip)) (.seq (rN r209_8) (.seq (rN r209_9) (.seq (rN r209_10) (.cond (.t 44) (rN r209_11) .skip))))))) (rN r209_12)))
def r209_13:RL:=[mV 45 5,mV 4 45]
def c209:CC:=(.seq (rN r209_0) (.seq (rN r209_1) (.seq (rN r209_2) (.seq (.seq (rN r209_3) (.block 0 (.loop l209_0))) (.seq (rN r209_13) .ret)))))
theorem o209:FnI 209 46 Tryz.f209 c209 [(.tmp 4)]:=⟨Tryz.func209,by kernel_rfl⟩
def r211_0:RL:=[oP 4 (.mov (.k (.vec [] 0 (some 0)))),oP 5 (.mov (.k (.vec [] 0 (some 0))))]
def r211_1:RL:=[mV 9 0,lN 10 9,bK 11 .leq 10 2,mV 12 11,gU 13 12 true (.mov (.t 1)),gU 14 12 true (.len false (.t 13)),gU 15 12 true (.bin .leq (.t 14) (kI 2)),oP 16 (.pick (.t 12) (.t 15) (.k (.bool false)))]
def r211_2:RL:=[mV 17 0,cL 18 162 [.t 17],mV 19 1,cL 20 162 [.t 19],mV 6 18,mV 7 20]
def r211_3:RL:=[mV 21 6,mV 22 7,bT 23 .quo 21 22,cL 24 152 [(.k (.bool false)),.t 23],oP 25 (.part false 1 1 (.t 24)),mV 26 6,mV 27 7,bT 28 .rem 26 27,cL 29 152 [(.k (.bool false)),.t 28],oP 30 (.part false 1 1 (.t 29)),mV 4 25,mV 5 30]
def r211_4:RL:=[mV 31 0,lN 32 31,oP 33 (.mksl 1 4 [(.int .u32 0)] (.t 32) (.t 32)),mV 4 33]
def r211_5:RL:=[mV 34 0,lN 35 34,oP 36 (.bin .mul (kI 32) (.t 35)),bK 37 .sub 36 1,mV 8 37]
def r211_6:RL:=[mV 38 8,bK 39 .geq 38 0]
def r211_7:RL:=[mV 42 5,mV 43 0,mV 44 8,bK 45 .quo 44 32,iX 46 1 43 45,ldO 47 false 1 46,mV 48 8,bK 49 .rem 48 32,bT 50 .shr 47 49,oP 51 (.bin .and (.t 50) (.k (.int .u32 1))),cL 52 214 [.t 42,.t 51],cL 53 161 [.t 52],mV 5 53]
def r211_8:RL:=[mV 54 5,mV 55 1,cL 56 88 [.t 54,.t 55],bK 57 .geq 56 0]
def r211_9:RL:=[mV 58 5,mV 59 1,cL 60 209 [.t 58,.t 59],cL 61 161 [.t 60],mV 5 61]
def r211_10:RL:=[mV 62 4,mV 63 8,bK 64 .quo 63 32,iX 65 1 62 64,ldO 66 false 1 65,mV 67 8,bK 68 .rem 67 32,oP 69 (.bin .shl (.k (.int .u32 1)) (.t 68)),bT 70 .or 66 69,iX 71 1 62 64,sT (.store 1 (.t 71) (.t 70))]
def r211_11:RL:=[mV 40 8,bK 41 .sub 40 1,mV 8 41]
def l211_0:CC:=(.seq (.seq (rN r211_6) (.cond (.t 39) .skip (.exit 0))) (.seq (.block 1 (.seq (rN r211_7) (.seq (rN r211_8) (.cond (.t 57) (.seq (rN r211_9) (.reg r211_10 (some []))) .skip)))) (rN r211_11)))
def r211_12:RL:=[mV 72 4,cL 73 161 [.t 72],mV 74 5,mV 4 73,mV 5 74]
def c211:CC:=(.seq (rN r211_0) (.seq (.seq (rN r211_1) (.cond (.t 16) (.seq (rN r211_2) (.seq (.reg r211_3 (some [])) .ret)) .skip)) (.seq (rN r211_4) (.seq (.seq (rN r211_5) (.block 0 (.loop l211_0))) (.seq (rN r211_12) .ret)))))
theorem o211:FnI 211 75 Tryz.f211 c211 [(.tmp 4),(.tmp 5)]:=⟨Tryz.func211,by kernel_rfl⟩
def r214_0:RL:=[oP 4 (.mov (.k (.vec [] 0 (some 0))))]
def r214_1:RL:=[oP 5 (.mov (.k (.vec [] 0 (some 0))))]
def r214_2:RL:=[mV 8 0,lN 9 8,oP 10 (.mov (kI 0))]
def r214_3:RL:=[bT 11 .lss 10 9]
def r214_4:RL:=[iX 12 1 8 10,ldO 13 false 1 12,mV 7 13]
def r214_5:RL:=[mV 14 5,mV 15 7,oP 16 (.bin .shl (.t 15) (.k (.int .u64 1))),mV 17 1,bT 18 .or 16 17,oP 19 (.bsl 1 1 [(.int .u32 0)] [(0,(1,(.t 18)))]),oP 20 (.append 1 4 (.t 14) (.t 19)),mV 5 20]
def r214_6:RL:=[mV 21 7,oP 22 (.bin .shr (.t 21) (.k (.int .u64 31))),mV 1 22]
def r214_7:RL:=[bK 23 .add 10 1,mV 10 23]
def l214_0:CC:=(.seq (rN r214_3) (.seq (.cond (.t 11) .skip (.exit 0)) (.seq (.block 1 (.seq (rN r214_4) (.seq (rN r214_5) (rN r214_6)))) (rN r214_7))))
def r214_8:RL:=[mV 24 5,mV 25 1,oP 26 (.bsl 1 1 [(.int .u32 0)] [(0,(1,(.t 25)))]),oP 27 (.append 1 4 (.t 24) (.t 26)),mV 4 27]
def c214:CC:=(.seq (rN r214_0) (.seq (rN r214_1) (.seq (.seq (rN r214_2) (.block 0 (.loop l214_0))) (.seq (rN r214_8) .ret))))
theorem o214:FnI 214 28 Tryz.f214 c214 [(.tmp 4)]:=⟨Tryz.func214,by kernel_rfl⟩
def r14_0:RL:=[oP 4 (.mov (kI 0))]
def r14_1:RL:=[oP 5 (.mov (kI 0))]
def r14_2:RL:=[mV 6 0,bK 7 .neq 6 0,mV 8 7,gU 9 8 true (.mov (.t 0)),gU 10 8 true (.mov (.t 1)),gU 11 8 true (.bin .rem (.t 9) (.t 10)),gU 12 8 true (.bin .eql (.t 11) (kI 0)),oP 13 (.pick (.t 8) (.t 12) (.k (.bool false)))]
def r14_3:RL:=[mV 14 0,mV 15 1,bT 16 .quo 14 15,mV 0 16]
def r14_4:RL:=[mV 17 5,bK 18 .add 17 1,mV 5 18]
def l14_0:CC:=(.seq (.seq (rN r14_2) (.cond (.t 13) .skip (.exit 0))) (.block 1 (.seq (rN r14_3) (rN r14_4))))
def r14_5:RL:=[mV 19 5,mV 4 19]
def c14:CC:=(.seq (rN r14_0) (.seq (rN r14_1) (.seq (.block 0 (.loop l14_0)) (.seq (rN r14_5) .ret))))
theorem o14:FnI 14 20 Tryz.f14 c14 [(.tmp 4)]:=⟨Tryz.func14,by kernel_rfl⟩
def r15_0:RL:=[oP 6 (.box (.k (.agg [(.bool false),(.vec [] 0 (some 0)),(.bool false),(.vec [] 0 (some 0))]))),oP 7 (.mov (kI 0))]
def r15_1:RL:=[mV 17 0,mV 18 1,cL 19 26 [.t 17,.t 18],mV 8 19]
def r15_2:RL:=[mV 20 8,bK 21 .neq 20 0]
def r15_3:RL:=[oP 22 (.build [(.bool false),(.vec [] 0 (some 0)),(.bool false),(.vec [] 0 (some 0))] []),mV 23 8,sT (.store 4 (.t 6) (.t 22)),mV 7 23]
def r15_4:RL:=[mV 24 2,bK 25 .lss 24 1,mV 26 25,gU 27 26 false (.mov (.t 2)),gU 28 26 false (.bin .gtr (.t 27) (kI 1000)),oP 29 (.pick (.t 26) (.k (.bool true)) (.t 28))]
def r15_5:RL:=[oP 30 (.build [(.bool false),(.vec [] 0 (some 0)),(.bool false),(.vec [] 0 (some 0))] []),sT (.store 4 (.t 6) (.t 30)),oP 7 (.mov (kI 1))]
def r15_6:RL:=[mV 32 2,oP 33 (.bin .mul (kI 2) (.t 32)),cL 34 35 [.t 33],mV 35 1,cL 36 34 [.t 34,.t 35],mV 31 36,eX 37 31 0,eX 38 31 1,eX 39 31 2,oP 10 (.box (.k (.agg [(.bool false),(.vec [] 0 (some 0))]))),mV 9 37,sT (.store 2 (.t 10) (.t 38)),mV 11 39]
def r15_7:RL:=[mV 41 0,mV 42 1,mV 43 9,oP 44 (.bin .mul (kI 2) (.t 43)),bK 45 .add 44 1,cL 46 11 [.t 41,.t 42,.t 45],mV 40 46,eX 47 40 0,eX 48 40 1,mV 12 47,mV 13 48]
def r15_8:RL:=[mV 49 13,bK 50 .neq 49 0]
def r15_9:RL:=[oP 51 (.build [(.bool false),(.vec [] 0 (some 0)),(.bool false),(.vec [] 0 (some 0))] []),mV 52 13,sT (.store 4 (.t 6) (.t 51)),mV 7 52]
def r15_10:RL:=[mV 53 12,lN 54 53,mV 14 54]
def r15_11:RL:=[mV 56 14,cL 57 37 [.t 56],mV 58 0,lN 59 58,bK 60 .sub 59 1,cL 61 36 [.t 57,.t 60],mV 55 61,eX 62 55 0,eX 63 55 1,oP 15 (.box (.k (.agg [(.bool false),(.vec [] 0 (some 0)),(.bool false),(.vec [] 0 (some 0))]))),sT (.store 4 (.t 15) (.t 62)),mV 16 63]
def r15_12:RL:=[mV 64 12,mV 65 2,mV 66 14,bT 67 .rem 65 66,iX 68 1 64 67,ldO 69 false 1 68,cL 70 37 [.t 69],ldO 71 true 4 15,cL 72 38 [.t 70,.t 71],sT (.store 4 (.t 6) (.t 72)),oP 7 (.mov (kI 0))]
def c15:CC:=(.seq (rN r15_0) (.seq (.seq (rN r15_1) (.seq (rN r15_2) (.cond (.t 21) (.seq (rN r15_3) .ret) .skip))) (.seq (.seq (rN r15_4) (.cond (.t 29) (.seq (rN r15_5) .ret) .skip)) (.seq (rN r15_6) (.seq (rN r15_7) (.seq (.seq (rN r15_8) (.cond (.t 50) (.seq (rN r15_9) .ret) .skip)) (.seq (rN r15_10) (.seq (rN r15_11) (.seq (.reg r15_12 (some [(5,7),(6,7)])) .ret)))))))))
theorem o15:FnI 15 73 Tryz.f15 c15 [(.cell 6 42),(.tmp 7)]:=⟨Tryz.func15,by kernel_rfl⟩
def r34_0:RL:=[oP 2 (.box (.t 0)),oP 4 (.mov (kI 0)),oP 5 (.box (.k (.agg [(.bool false),(.vec [] 0 (some 0))]))),oP 6 (.mov (kI 0))]
def r34_1:RL:=[mV 13 1,cL 14 71 [.t 13],oP 15 (.un .not (.t 14))]
def r34_2:RL:=[oP 16 (.build [(.bool false),(.vec [] 0 (some 0))] []),oP 4 (.mov (kI 0)),sT (.store 2 (.t 5) (.t 16)),oP 6 (.mov (kI 20))]
def r34_3:RL:=[ldO 17 true 2 2,cL 18 76 [.t 17],bK 19 .eql 18 0]
def r34_4:RL:=[oP 20 (.build [(.bool false),(.vec [] 0 (some 0))] []),oP 4 (.mov (kI 0)),sT (.store 2 (.t 5) (.t 20)),oP 6 (.mov (kI 1))]
def r34_5:RL:=[ldO 21 true 2 2,cL 22 77 [.t 21],oP 7 (.box (.k (.agg [(.bool false),(.vec [] 0 (some 0))]))),sT (.store 2 (.t 7) (.t 22))]
def r34_6:RL:=[oP 8 (.box (kI 0)),sT (.store 1 (.t 8) (kI 0))]
def r34_7:RL:=[oP 23 (.mkfn 78 [.t 7,.t 8]),mV 9 23]
def r34_8:RL:=[mV 24 1,cL 25 35 [.t 24],oP 26 (.bsl 1 2 [(.bool false),(.vec [] 0 (some 0))] [(0,(2,(.t 25)))]),mV 10 26]
def r34_9:RL:=[mV 27 9,mV 28 10,mV 29 10,lN 30 29,bK 31 .sub 30 1,iX 32 2 28 31,ldO 33 true 2 32,mV 34 10,lN 35 34,bK 36 .sub 35 1,oP 37 (.bin .shl (kI 1) (.t 36)),oP 38 (.callc (.t 27) [.t 33,.t 37])]
def r34_10:RL:=[mV 39 10,mV 40 10,lN 41 40,bK 42 .sub 41 1,iX 43 2 39 42,ldO 44 true 2 43,oP 11 (.box (.k (.agg [(.bool false),(.vec [] 0 (some 0))]))),sT (.store 2 (.t 11) (.t 44))]
def r34_11:RL:=[mV 45 10,ldO 46 true 2 11,ldO 47 true 2 11,cL 48 52 [.t 46,.t 47],oP 49 (.bsl 1 2 [(.bool false),(.vec [] 0 (some 0))] [(0,(2,(.t 48)))]),oP 50 (.append 2 32 (.t 45) (.t 49)),mV 10 50]
def l34_0:CC:=(.seq (.seq (.reg r34_9 (some [])) (.cond (.t 38) .skip (.exit 0))) (.block 1 (.seq (rN r34_10) (rN r34_11))))
def r34_12:RL:=[mV 51 10,lN 52 51,bK 53 .sub 52 2,mV 12 53]
def r34_13:RL:=[mV 54 12,bK 55 .geq 54 0]
def r34_14:RL:=[mV 58 9,mV 59 10,mV 60 12,iX 61 2 59 60,ldO 62 true 2 61,mV 63 12,oP 64 (.bin .shl (kI 1) (.t 63)),oP 65 (.callc (.t 58) [.t 62,.t 64])]
def r34_15:RL:=[mV 56 12,bK 57 .sub 56 1,mV 12 57]
def l34_1:CC:=(.seq (.seq (rN r34_13) (.cond (.t 55) .skip (.exit 2))) (.seq (.block 3 (.reg r34_14 (some []))) (rN r34_15)))
def r34_16:RL:=[ldO 66 false 1 8,ldO 67 true 2 7,mV 4 66,sT (.store 2 (.t 5) (.t 67)),oP 6 (.mov (kI 0))]
def c34:CC:=(.seq (rN r34_0) (.seq (.seq (rN r34_1) (.cond (.t 15) (.seq (rN r34_2) .ret) .skip)) (.seq (.seq (rN r34_3) (.cond (.t 19) (.seq (rN r34_4) .ret) .skip)) (.seq (rN r34_5) (.seq (rN r34_6) (.seq (rN r34_7) (.seq (rN r34_8) (.seq (.block 0 (.loop l34_0)) (.seq (.seq (rN r34_12) (.block 2 (.loop l34_1))) (.seq (.reg r34_16 (some [(0,1)])) .ret))))))))))
theorem o34:FnI 34 68 Tryz.f34 c34 [(.tmp 4),(.cell 5 40),(.tmp 6)]:=⟨Tryz.func34,by kernel_rfl⟩
def r36_0:RL:=[oP 2 (.box (.t 0)),oP 4 (.box (.k (.agg [(.bool false),(.vec [] 0 (some 0)),(.bool false),(.vec [] 0 (some 0))]))),oP 5 (.mov (.k (.bool false)))]
def r36_1:RL:=[ldO 9 true 4 2,cL 10 50 [.t 9],oP 6 (.box (.k (.agg [(.bool false),(.vec [] 0 (some 0)),(.bool false),(.vec [] 0 (some 0))]))),sT (.store 4 (.t 6) (.t 10))]
def r36_2:RL:=[mV 11 1,oP 12 (.bin .lss (.t 11) (.k (.int .i64 (-64)))),mV 13 12,gU 14 13 false (.mov (.t 1)),gU 15 13 false (.bin .gtr (.t 14) (kI 64)),oP 16 (.pick (.t 13) (.k (.bool true)) (.t 15)),mV 17 16,gU 18 17 false (.mov (.t 1)),gU 19 17 false (.bin .lss (.t 18) (kI 0)),gU 20 17 false (.mov (.t 19)),gU 21 20 true (.load true 4 (.t 6)),gU 22 20 true (.call 49 [.t 21]),gU 23 20 true (.bin .eql (.t 22) (kI 0)),gU 24 17 false (.pick (.t 20) (.t 23) (.k (.bool false))),oP 25 (.pick (.t 17) (.k (.bool true)) (.t 24))]
def r36_3:RL:=[oP 26 (.build [(.bool false),(.vec [] 0 (some 0)),(.bool false),(.vec [] 0 (some 0))] []),sT (.store 4 (.t 4) (.t 26)),oP 5 (.mov (.k (.bool false)))]
def r36_4:RL:=[oP 27 (.fld 0 (.t 6)),ldO 28 true 2 27,oP 29 (.fld 2 (.t 6)),ldO 30 true 2 29,oP 7 (.box (.k (.agg [(.bool false),(.vec [] 0 (some 0))]))),oP 8 (.box (.k (.agg [(.bool false),(.vec [] 0 (some 0))]))),sT (.store 2 (.t 7) (.t 28)),sT (.store 2 (.t 8) (.t 30))]
def r36_5:RL:=[mV 31 1,bK 32 .lss 31 0]
def r36_6:RL:=[mV 33 1,oP 34 (.un .neg (.t 33)),ldO 35 true 2 8,ldO 36 true 2 7,mV 1 34,sT (.store 2 (.t 7) (.t 35)),sT (.store 2 (.t 8) (.t 36))]
def r36_7:RL:=[ldO 38 true 2 7,mV 39 1,cL 40 82 [.t 38,.t 39],mV 37 40,eX 41 37 0,eX 42 37 1,sT (.store 2 (.t 7) (.t 41))]
def r36_8:RL:=[ldO 44 true 2 8,mV 45 1,cL 46 82 [.t 44,.t 45],mV 43 46,eX 47 43 0,eX 48 43 1,sT (.store 2 (.t 8) (.t 47))]
def r36_9:RL:=[ldO 49 true 2 7,ldO 50 true 2 8,cL 51 83 [.t 49,.t 50],sT (.store 4 (.t 4) (.t 51)),oP 5 (.mov (.k (.bool true)))]
def c36:CC:=(.seq (rN r36_0) (.seq (rN r36_1) (.seq (.seq (rN r36_2) (.cond (.t 25) (.seq (rN r36_3) .ret) .skip)) (.seq (.reg r36_4 (some [(1,3),(1,4),(3,4),(1,5),(3,5),(4,5),(3,6)])) (.seq (.seq (rN r36_5) (.cond (.t 32) (.reg r36_6 (some [(2,3)])) .skip)) (.seq (rN r36_7) (.seq (rN r36_8) (.seq (rN r36_9) .ret))))))))
theorem o36:FnI 36 52 Tryz.f36 c36 [(.cell 4 42),(.tmp 5)]:=⟨Tryz.func36,by kernel_rfl⟩
def r37_0:RL:=[oP 2 (.box (.k (.agg [(.bool false),(.vec [] 0 (some 0)),(.bool false),(.vec [] 0 (some 0))])))]
def r37_1:RL:=[mV 3 0,cL 4 35 [.t 3],cL 5 84 [.t 4],sT (.store 4 (.t 2) (.t 5))]
def c37:CC:=(.seq (rN r37_0) (.seq (rN r37_1) .ret))
theorem o37:FnI 37 6 Tryz.f37 c37 [(.cell 2 42)]:=⟨Tryz.func37,by kernel_rfl⟩
def r38_0:RL:=[oP 2 (.box (.t 0)),oP 3 (.box (.t 1)),oP 4 (.box (.k (.agg [(.bool false),(.vec [] 0 (some 0)),(.bool false),(.vec [] 0 (some 0))])))]
def r38_1:RL:=[ldO 8 true 4 2,ldO 9 true 4 3,cL 10 85 [.t 8,.t 9],mV 7 10,eX 11 7 0,eX 12 7 1,oP 5 (.box (.k (.agg [(.bool false),(.vec [] 0 (some 0)),(.bool false),(.vec [] 0 (some 0))]))),sT (.store 4 (.t 5) (.t 11)),mV 6 12]
def r38_2:RL:=[ldO 13 true 4 5,sT (.store 4 (.t 4) (.t 13))]
def c38:CC:=(.seq (rN r38_0) (.seq (rN r38_1) (.seq (rN r38_2) .ret)))
theorem o38:FnI 38 14 Tryz.f38 c38 [(.cell 4 42)]:=⟨Tryz.func38,by kernel_rfl⟩
def r40_0:RL:=[oP 4 (.box (.k (.agg [(.bool false),(.vec [] 0 (some 0)),(.bool false),(.vec [] 0 (some 0))])))]
def r40_1:RL:=[mV 8 0,cL 9 87 [.t 8],mV 10 1,cL 11 87 [.t 10],cL 12 86 [.t 9,.t 11],mV 7 12,eX 13 7 0,eX 14 7 1,oP 5 (.box (.k (.agg [(.bool false),(.vec [] 0 (some 0)),(.bool false),(.vec [] 0 (some 0))]))),sT (.store 4 (.t 5) (.t 13)),mV 6 14]
def r40_2:RL:=[ldO 15 true 4 5,sT (.store 4 (.t 4) (.t 15))]
def c40:CC:=(.seq (rN r40_0) (.seq (rN r40_1) (.seq (rN r40_2) .ret)))
theorem o40:FnI 40 16 Tryz.f40 c40 [(.cell 4 42)]:=⟨Tryz.func40,by kernel_rfl⟩
def r49_0:RL:=[oP 1 (.box (.t 0)),oP 2 (.mov (kI 0))]
def r49_1:RL:=[oP 3 (.fld 0 (.t 1)),ldO 4 true 2 3,cL 5 76 [.t 4],mV 2 5]
def c49:CC:=(.seq (rN r49_0) (.seq (rN r49_1) .ret))
theorem o49:FnI 49 6 Tryz.f49 c49 [(.tmp 2)]:=⟨Tryz.func49,by kernel_rfl⟩
def r50_0:RL:=[oP 1 (.box (.t 0)),oP 2 (.box (.k (.agg [(.bool false),(.vec [] 0 (some 0)),(.bool false),(.vec [] 0 (some 0))])))]
def r50_1:RL:=[ldO 3 true 4 1,cL 4 106 [.t 3],sT (.store 4 (.t 2) (.t 4))]
def c50:CC:=(.seq (rN r50_0) (.seq (rN r50_1) .ret))
theorem o50:FnI 50 5 Tryz.f50 c50 [(.cell 2 75)]:=⟨Tryz.func50,by kernel_rfl⟩
def r82_0:RL:=[oP 2 (.box (.t 0)),oP 4 (.box (.k (.agg [(.bool false),(.vec [] 0 (some 0))]))),oP 5 (.mov (.k (.bool false)))]
def r82_1:RL:=[mV 8 1,bK 9 .lss 8 0,mV 10 9,gU 11 10 false (.mov (.t 1)),gU 12 10 false (.bin .gtr (.t 11) (kI 64)),oP 13 (.pick (.t 10) (.k (.bool true)) (.t 12))]
def r82_2:RL:=[oP 14 (.build [(.bool false),(.vec [] 0 (some 0))] []),sT (.store 2 (.t 4) (.t 14)),oP 5 (.mov (.k (.bool false)))]
def r82_3:RL:=[cL 15 35 [(kI 1)],oP 6 (.box (.k (.agg [(.bool false),(.vec [] 0 (some 0))]))),sT (.store 2 (.t 6) (.t 15))]
def r82_4:RL:=[oP 7 (.mov (kI 64))]
def r82_5:RL:=[mV 16 7,bK 17 .gtr 16 0]
def r82_6:RL:=[ldO 20 true 2 6,ldO 21 true 2 6,cL 22 52 [.t 20,.t 21],sT (.store 2 (.t 6) (.t 22))]
def r82_7:RL:=[mV 23 1,mV 24 7,bT 25 .and 23 24,bK 26 .neq 25 0]
def r82_8:RL:=[ldO 27 true 2 6,ldO 28 true 2 2,cL 29 52 [.t 27,.t 28],sT (.store 2 (.t 6) (.t 29))]
def r82_9:RL:=[mV 18 7,bK 19 .quo 18 2,mV 7 19]
def l82_0:CC:=(.seq (.seq (rN r82_5) (.cond (.t 17) .skip (.exit 0))) (.seq (.block 1 (.seq (rN r82_6) (.seq (rN r82_7) (.cond (.t 26) (rN r82_8) .skip)))) (rN r82_9)))
def r82_10:RL:=[ldO 30 true 2 6,sT (.store 2 (.t 4) (.t 30)),oP 5 (.mov (.k (.bool true)))]
def c82:CC:=(.seq (rN r82_0) (.seq (.seq (rN r82_1) (.cond (.t 13) (.seq (rN r82_2) .ret) .skip)) (.seq (rN r82_3) (.seq (.seq (rN r82_4) (.block 0 (.loop l82_0))) (.seq (rN r82_10) .ret)))))
theorem o82:FnI 82 31 Tryz.f82 c82 [(.cell 4 40),(.tmp 5)]:=⟨Tryz.func82,by kernel_rfl⟩
def r83_0:RL:=[oP 2 (.box (.t 0)),oP 3 (.box (.t 1)),oP 4 (.box (.k (.agg [(.bool false),(.vec [] 0 (some 0)),(.bool false),(.vec [] 0 (some 0))])))]
def r83_1:RL:=[ldO 6 true 2 2,ldO 7 true 2 3,cL 8 146 [.t 6,.t 7],oP 5 (.box (.k (.agg [(.bool false),(.vec [] 0 (some 0))]))),sT (.store 2 (.t 5) (.t 8))]
def r83_2:RL:=[ldO 9 true 2 3,cL 10 76 [.t 9],bK 11 .lss 10 0]
def r83_3:RL:=[ldO 12 true 2 5,cL 13 147 [.t 12],sT (.store 2 (.t 5) (.t 13))]
def r83_4:RL:=[ldO 15 true 2 2,ldO 16 true 2 5,cL 17 79 [.t 15,.t 16],mV 14 17,eX 18 14 0,eX 19 14 1,eX 20 14 2,sT (.store 2 (.t 2) (.t 18))]
def r83_5:RL:=[ldO 22 true 2 3,ldO 23 true 2 5,cL 24 79 [.t 22,.t 23],mV 21 24,eX 25 21 0,eX 26 21 1,eX 27 21 2,sT (.store 2 (.t 3) (.t 25))]
def r83_6:RL:=[ldO 28 true 2 2,ldO 29 true 2 3,oP 30 (.build [(.bool false),(.vec [] 0 (some 0)),(.bool false),(.vec [] 0 (some 0))] [(0,(2,(.t 28))),(2,(2,(.t 29)))]),sT (.store 4 (.t 4) (.t 30))]
def c83:CC:=(.seq (rN r83_0) (.seq (rN r83_1) (.seq (.seq (rN r83_2) (.cond (.t 11) (rN r83_3) .skip)) (.seq (rN r83_4) (.seq (rN r83_5) (.seq (rN r83_6) .ret))))))
theorem o83:FnI 83 31 Tryz.f83 c83 [(.cell 4 42)]:=⟨Tryz.func83,by kernel_rfl⟩
def r84_0:RL:=[oP 1 (.box (.t 0)),oP 2 (.box (.k (.agg [(.bool false),(.vec [] 0 (some 0)),(.bool false),(.vec [] 0 (some 0))])))]
def r84_1:RL:=[ldO 3 true 2 1,cL 4 77 [.t 3],cL 5 35 [(kI 1)],oP 6 (.build [(.bool false),(.vec [] 0 (some 0)),(.bool false),(.vec [] 0 (some 0))] [(0,(2,(.t 4))),(2,(2,(.t 5)))]),sT (.store 4 (.t 2) (.t 6))]
def c84:CC:=(.seq (rN r84_0) (.seq (rN r84_1) .ret))
theorem o84:FnI 84 7 Tryz.f84 c84 [(.cell 2 42)]:=⟨Tryz.func84,by kernel_rfl⟩
def r85_0:RL:=[oP 2 (.box (.t 0)),oP 3 (.box (.t 1)),oP 4 (.box (.k (.agg [(.bool false),(.vec [] 0 (some 0)),(.bool false),(.vec [] 0 (some 0))]))),oP 5 (.mov (.k (.bool false)))]
def r85_1:RL:=[ldO 7 true 4 3,cL 8 50 [.t 7],oP 6 (.box (.k (.agg [(.bool false),(.vec [] 0 (some 0)),(.bool false),(.vec [] 0 (some 0))]))),sT (.store 4 (.t 6) (.t 8))]
def r85_2:RL:=[ldO 9 true 4 6,cL 10 49 [.t 9],bK 11 .eql 10 0]
def r85_3:RL:=[oP 12 (.build [(.bool false),(.vec [] 0 (some 0)),(.bool false),(.vec [] 0 (some 0))] []),sT (.store 4 (.t 4) (.t 12)),oP 5 (.mov (.k (.bool false)))]
def r85_4:RL:=[ldO 13 true 4 2,oP 14 (.fld 2 (.t 6)),ldO 15 true 2 14,oP 16 (.fld 0 (.t 6)),ldO 17 true 2 16,oP 18 (.build [(.bool false),(.vec [] 0 (some 0)),(.bool false),(.vec [] 0 (some 0))] [(0,(2,(.t 15))),(2,(2,(.t 17)))]),oP 19 (.bsl 2 4 [(.bool false),(.vec [] 0 (some 0)),(.bool false),(.vec [] 0 (some 0)),(.bool false),(.vec [] 0 (some 0)),(.bool false),(.vec [] 0 (some 0))] [(0,(4,(.t 13))),(4,(4,(.t 18)))]),cL 20 148 [.t 19],sT (.store 4 (.t 4) (.t 20)),oP 5 (.mov (.k (.bool true)))]
def c85:CC:=(.seq (rN r85_0) (.seq (rN r85_1) (.seq (.seq (rN r85_2) (.cond (.t 11) (.seq (rN r85_3) .ret) .skip)) (.seq (rN r85_4) .ret))))
theorem o85:FnI 85 21 Tryz.f85 c85 [(.cell 4 42),(.tmp 5)]:=⟨Tryz.func85,by kernel_rfl⟩
def r106_0:RL:=[oP 1 (.box (.t 0)),oP 2 (.box (.k (.agg [(.bool false),(.vec [] 0 (some 0)),(.bool false),(.vec [] 0 (some 0))])))]
def r106_1:RL:=[oP 3 (.fld 2 (.t 1)),ldO 4 true 2 3,cL 5 76 [.t 4],bK 6 .eql 5 0]
def r106_2:RL:=[oP 7 (.build [(.bool false),(.vec [] 0 (some 0))] []),cL 8 84 [.t 7],sT (.store 4 (.t 2) (.t 8))]
def r106_3:RL:=[oP 9 (.fld 0 (.t 1)),ldO 10 true 2 9,oP 11 (.fld 2 (.t 1)),ldO 12 true 2 11,cL 13 83 [.t 10,.t 12],sT (.store 4 (.t 2) (.t 13))]
def c106:CC:=(.seq (rN r106_0) (.seq (.seq (rN r106_1) (.cond (.t 6) (.seq (rN r106_2) .ret) .skip)) (.seq (rN r106_3) .ret)))
theorem o106:FnI 106 14 Tryz.f106 c106 [(.cell 2 42)]:=⟨Tryz.func106,by kernel_rfl⟩
def r146_0:RL:=[oP 2 (.box (.t 0)),oP 3 (.box (.t 1)),oP 4 (.box (.k (.agg [(.bool false),(.vec [] 0 (some 0))])))]
def r146_1:RL:=[oP 5 (.fld 1 (.t 2)),ldO 6 false 1 5,cL 7 108 [.t 6],oP 8 (.fld 1 (.t 3)),ldO 9 false 1 8,cL 10 108 [.t 9],cL 11 196 [.t 7,.t 10],cL 12 80 [(.k (.bool false)),.t 11],sT (.store 2 (.t 4) (.t 12))]
def c146:CC:=(.seq (rN r146_0) (.seq (.reg r146_1 (some [(1,4),(2,4)])) .ret))
theorem o146:FnI 146 13 Tryz.f146 c146 [(.cell 4 40)]:=⟨Tryz.func146,by kernel_rfl⟩
def r148_0:RL:=[oP 2 (.box (.k (.agg [(.bool false),(.vec [] 0 (some 0)),(.bool false),(.vec [] 0 (some 0))])))]
def r148_1:RL:=[cL 8 35 [(kI 1)],cL 9 35 [(kI 1)],oP 3 (.box (.k (.agg [(.bool false),(.vec [] 0 (some 0))]))),oP 4 (.box (.k (.agg [(.bool false),(.vec [] 0 (some 0))]))),sT (.store 2 (.t 3) (.t 8)),sT (.store 2 (.t 4) (.t 9))]
def r148_2:RL:=[mV 10 0,lN 11 10,oP 12 (.mov (kI 0))]
def r148_3:RL:=[bT 13 .lss 12 11]
def r148_4:RL:=[iX 14 4 10 12,ldO 15 true 4 14,oP 6 (.box (.k (.agg [(.bool false),(.vec [] 0 (some 0)),(.bool false),(.vec [] 0 (some 0))]))),sT (.store 4 (.t 6) (.t 15))]
def r148_5:RL:=[ldO 16 true 4 6,cL 17 50 [.t 16],oP 7 (.box (.k (.agg [(.bool false),(.vec [] 0 (some 0)),(.bool false),(.vec [] 0 (some 0))]))),sT (.store 4 (.t 7) (.t 17))]
def r148_6:RL:=[ldO 18 true 2 3,oP 19 (.fld 0 (.t 7)),ldO 20 true 2 19,cL 21 52 [.t 18,.t 20],ldO 22 true 2 4,oP 23 (.fld 2 (.t 7)),ldO 24 true 2 23,cL 25 52 [.t 22,.t 24],sT (.store 2 (.t 3) (.t 21)),sT (.store 2 (.t 4) (.t 25))]
def r148_7:RL:=[bK 26 .add 12 1,mV 12 26]
def l148_0:CC:=(.seq (rN r148_3) (.seq (.cond (.t 13) .skip (.exit 0)) (.seq (.block 1 (.seq (rN r148_4) (.seq (rN r148_5) (.reg r148_6 (some [(0,2),(0,4),(2,4),(3,4),(0,6),(2,6),(3,6),(4,6)]))))) (rN r148_7))))
def r148_8:RL:=[ldO 27 true 2 3,ldO 28 true 2 4,cL 29 83 [.t 27,.t 28],sT (.store 4 (.t 2) (.t 29))]
def c148:CC:=(.seq (rN r148_0) (.seq (rN r148_1) (.seq (.seq (rN r148_2) (.block 0 (.loop l148_0))) (.seq (rN r148_8) .ret))))
theorem o148:FnI 148 30 Tryz.f148 c148 [(.cell 2 42)]:=⟨Tryz.func148,by kernel_rfl⟩
def r196_0:RL:=[oP 4 (.mov (.k (.vec [] 0 (some 0))))]
def r196_1:RL:=[mV 9 0,lN 10 9,bK 11 .gtr 10 2,mV 12 11,gU 13 12 false (.mov (.t 1)),gU 14 12 false (.len false (.t 13)),gU 15 12 false (.bin .gtr (.t 14) (kI 2)),oP 16 (.pick (.t 12) (.k (.bool true)) (.t 15))]
def r196_2:RL:=[mV 17 1,lN 18 17,bK 19 .eql 18 0]
def r196_3:RL:=[mV 20 0,cL 21 142 [.t 20],mV 4 21]
def r196_4:RL:=[mV 23 0,mV 24 1,cL 25 143 [.t 23,.t 24],mV 22 25,eX 26 22 0,eX 27 22 1,mV 5 26,mV 6 27]
def r196_5:RL:=[mV 28 1,mV 29 6,mV 0 28,mV 1 29]
def l196_0:CC:=(.seq (.seq (rN r196_1) (.cond (.t 16) .skip (.exit 0))) (.block 1 (.seq (.seq (rN r196_2) (.cond (.t 19) (.seq (rN r196_3) .ret) .skip)) (.seq (rN r196_4) (rN r196_5)))))
def r196_6:RL:=[mV 30 0,cL 31 158 [.t 30],mV 32 1,cL 33 158 [.t 32],mV 7 31,mV 8 33]
def r196_7:RL:=[mV 34 8,oP 35 (.bin .neq (.t 34) (.k (.int .u64 0)))]
def r196_8:RL:=[mV 36 8,mV 37 7,mV 38 8,bT 39 .rem 37 38,mV 7 36,mV 8 39]
def l196_1:CC:=(.seq (.seq (rN r196_7) (.cond (.t 35) .skip (.exit 2))) (.block 3 (.reg r196_8 (some []))))
def r196_9:RL:=[mV 40 7,cL 41 81 [.t 40],mV 4 41]
def c196:CC:=(.seq (rN r196_0) (.seq (.block 0 (.loop l196_0)) (.seq (rN r196_6) (.seq (.block 2 (.loop l196_1)) (.seq (rN r196_9) .ret)))))
theorem o196:FnI 196 42 Tryz.f196 c196 [(.tmp 4)]:=⟨Tryz.func196,by kernel_rfl⟩
end Go.Proofs.YtpflahgcdgdkjaaGreatDoor
