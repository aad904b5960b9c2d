/- A part of the proof. -/
import Derived.Test.YtpflahgcdgdkjaaGreatDoorKF
namespace Go.Proofs.YtpflahgcdgdkjaaGreatDoor
set_option linter.unusedSimpArgs false
set_option linter.unusedVariables false
open Go Go.AL Go.Proofs
set_option maxRecDepth 1000000
namespace Q
set_option linter.unusedSimpArgs false
set_option linter.unusedVariables false
abbrev u (n:Nat):AV:= .int .u32 (.ofNat n)
abbrev i (n:Nat):AV:= .int .i64 (.ofNat n)
abbrev w (l:List AV):AV:= .vec l l.length none
abbrev v (l:List AV) (c:Nat):AV:= .vec l l.length (some c)
abbrev F:AV:= .bool false
abbrev B:AV:= .bool true
theorem mc {f:FuncId} {a:List AV} {v:AV} {m:MemZ} (h:Ret Tryz.prog G f a [] v []) (hm:zor Tryz.prog G m):zor Tryz.prog G ((f,a,v)::m):=by
 intro x hx
 rcases List.mem_cons.1 hx with rfl | hx
 ·exact h
 ·exact hm x hx
theorem q0:Ret Tryz.prog G 70 [(.vec [(v [i 1,i 0,i 0] 3),(v [i 0,i 1,i 0] 3),(v [i 0,i 0,i 1] 3)] 3 (some 3))] [] (B) []:=zaj mem0 (by kernel_rfl)
theorem q1:Ret Tryz.prog G 81 [(.int .u64 (.ofNat 1))] [] ((v [u 1] 2)) []:=zaj mem0 (by kernel_rfl)
theorem q2:Ret Tryz.prog G 35 [i 1] [] ((.agg [F,(v [u 1] 2)])) []:=zaj (mc q1 mem0) (by kernel_rfl)
theorem q3:Ret Tryz.prog G 81 [(.int .u64 (.ofNat 0))] [] ((v [] 2)) []:=zaj mem0 (by kernel_rfl)
theorem q4:Ret Tryz.prog G 108 [(v [u 1] 2)] [] ((v [u 1] 2)) []:=zaj mem0 (by kernel_rfl)
theorem q5:Ret Tryz.prog G 76 [(.agg [F,(v [u 1] 2)])] [] (i 1) []:=zaj (mc q4 mem0) (by kernel_rfl)
theorem q6:Ret Tryz.prog G 158 [(v [u 1] 2)] [] ((.int .u64 (.ofNat 1))) []:=zaj mem0 (by kernel_rfl)
theorem q7:Ret Tryz.prog G 52 [(.agg [F,(v [u 1] 2)]),(.agg [F,(v [u 1] 2)])] [] ((.agg [F,(v [u 1] 2)])) []:=zaj (mc q6 (mc q4 (mc q1 mem0))) (by kernel_rfl)
theorem q8:Ret Tryz.prog G 52 [(.agg [F,(v [] 0)]),(.agg [F,(v [] 0)])] [] ((.agg [F,(v [] 0)])) []:=zaj (mc q3 mem0) (by kernel_rfl)
theorem q9:Ret Tryz.prog G 199 [(.agg [F,(v [u 1] 2)]),(.agg [F,(v [] 0)])] [] ((.agg [F,(v [u 1] 1)])) []:=zaj (mc q4 mem0) (by kernel_rfl)
theorem q10:Ret Tryz.prog G 79 [(.agg [F,(v [u 1] 1)]),(.agg [F,(v [u 1] 2)])] [] ((.tup [(.agg [F,(v [u 1] 2)]),(.agg [F,(v [] 0)]),B])) []:=zaj (mc q6 (mc q4 (mc q3 (mc q1 mem0)))) (by kernel_rfl)
theorem q11:Ret Tryz.prog G 52 [(.agg [F,(v [u 1] 2)]),(.agg [F,(v [] 0)])] [] ((.agg [F,(v [] 0)])) []:=zaj (mc q6 (mc q4 (mc q3 mem0))) (by kernel_rfl)
theorem q12:Ret Tryz.prog G 199 [(.agg [F,(v [] 0)]),(.agg [F,(v [] 0)])] [] ((.agg [F,(v [] 0)])) []:=zaj mem0 (by kernel_rfl)
theorem q13:Ret Tryz.prog G 79 [(.agg [F,(v [] 0)]),(.agg [F,(v [u 1] 2)])] [] ((.tup [(.agg [F,(v [] 0)]),(.agg [F,(v [] 0)]),B])) []:=zaj (mc q4 mem0) (by kernel_rfl)
theorem q14:Ret Tryz.prog G 84 [(.agg [F,(v [u 1] 2)])] [] ((.agg [F,(w [u 1]),F,(v [u 1] 2)])) []:=zaj (mc q4 (mc q2 mem0)) (by kernel_rfl)
theorem q15:Ret Tryz.prog G 81 [(.int .u64 (.ofNat 2))] [] ((v [u 2] 2)) []:=zaj mem0 (by kernel_rfl)
theorem q16:Ret Tryz.prog G 108 [(v [u 2] 2)] [] ((v [u 2] 2)) []:=zaj mem0 (by kernel_rfl)
theorem q17:Ret Tryz.prog G 158 [(v [u 2] 2)] [] ((.int .u64 (.ofNat 2))) []:=zaj mem0 (by kernel_rfl)
theorem q18:Ret Tryz.prog G 81 [(.int .u64 (.ofNat 4))] [] ((v [u 4] 2)) []:=zaj mem0 (by kernel_rfl)
theorem q19:Ret Tryz.prog G 108 [(v [u 4] 2)] [] ((v [u 4] 2)) []:=zaj mem0 (by kernel_rfl)
theorem q20:Ret Tryz.prog G 34 [(.agg [F,(v [u 2] 2)]),i 2] [] ((.tup [i 1,(.agg [F,(v [u 1] 2)]),i 0])) []:=zaj (mc q19 (mc q18 (mc q17 (mc q16 (mc q15 (mc q4 (mc q3 (mc q1 mem0)))))))) (by kernel_rfl)
theorem q21:Ret Tryz.prog G 79 [(.agg [F,(v [u 1] 2)]),(.agg [F,(v [u 1] 2)])] [] ((.tup [(.agg [F,(v [u 1] 2)]),(.agg [F,(v [] 0)]),B])) []:=zaj (mc q6 (mc q4 (mc q3 (mc q1 mem0)))) (by kernel_rfl)
theorem q22:Ret Tryz.prog G 82 [(.agg [F,(v [u 1] 2)]),i 2] [] ((.tup [(.agg [F,(v [u 1] 2)]),B])) []:=zaj (mc q7 (mc q2 mem0)) (by kernel_rfl)
theorem q23:Ret Tryz.prog G 81 [(.int .u64 (.ofNat 3))] [] ((v [u 3] 2)) []:=zaj mem0 (by kernel_rfl)
theorem q24:Ret Tryz.prog G 15 [(.vec [(v [i 1,i 0,i 0] 3),(v [i 0,i 1,i 0] 3),(v [i 0,i 0,i 1] 3)] 3 (some 3)),i 2,i 1] [] ((.tup [(.agg [F,(v [u 3] 2),F,(v [u 2] 2)]),i 0])) []:=zaj (mc q23 (mc q22 (mc q21 (mc qyc (mc q20 (mc q15 (mc q7 (mc q6 (mc q5 (mc q4 (mc q3 (mc q2 (mc q1 (mc q0 mem0)))))))))))))) (by kernel_rfl)
theorem q25:Ret Tryz.prog G 50 [(.agg [F,(w [u 2]),F,(v [u 1] 2)])] [] ((.agg [F,(v [u 2] 2),F,(v [u 1] 2)])) []:=zaj (mc q21 (mc q15 (mc q6 (mc q5 (mc q4 (mc q3 (mc q1 mem0))))))) (by kernel_rfl)
theorem q26:Ret Tryz.prog G 82 [(.agg [F,(v [u 1] 2)]),i 1] [] ((.tup [(.agg [F,(v [u 1] 2)]),B])) []:=zaj (mc q7 (mc q2 mem0)) (by kernel_rfl)
theorem q27:Ret Tryz.prog G 52 [(.agg [F,(v [u 1] 2)]),(.agg [F,(v [u 2] 2)])] [] ((.agg [F,(v [u 2] 2)])) []:=zaj (mc q17 (mc q16 (mc q15 (mc q6 (mc q4 mem0))))) (by kernel_rfl)
theorem q28:Ret Tryz.prog G 79 [(.agg [F,(v [u 2] 2)]),(.agg [F,(v [u 1] 2)])] [] ((.tup [(.agg [F,(v [u 2] 2)]),(.agg [F,(v [] 0)]),B])) []:=zaj (mc q17 (mc q16 (mc q15 (mc q6 (mc q4 (mc q3 mem0)))))) (by kernel_rfl)
theorem q29:Ret Tryz.prog G 83 [(.agg [F,(v [] 0)]),(.agg [F,(v [u 1] 2)])] [] ((.agg [F,(v [] 0),F,(v [u 1] 2)])) []:=zaj (mc q21 (mc q13 (mc q6 (mc q5 (mc q4 (mc q1 mem0)))))) (by kernel_rfl)
theorem q30:Ret Tryz.prog G 52 [(.agg [F,(v [] 0)]),(.agg [F,(v [u 1] 2)])] [] ((.agg [F,(v [] 0)])) []:=zaj (mc q6 (mc q4 (mc q3 mem0))) (by kernel_rfl)
theorem q31:Ret Tryz.prog G 79 [(.agg [F,(v [u 2] 2)]),(.agg [F,(v [u 2] 2)])] [] ((.tup [(.agg [F,(v [u 1] 2)]),(.agg [F,(v [] 0)]),B])) []:=zaj (mc q17 (mc q16 (mc q3 (mc q1 mem0)))) (by kernel_rfl)
theorem q32:Ret Tryz.prog G 50 [(.agg [F,(w [u 1]),F,(v [u 1] 2)])] [] ((.agg [F,(v [u 1] 2),F,(v [u 1] 2)])) []:=zaj (mc q21 (mc q6 (mc q5 (mc q4 (mc q3 (mc q1 mem0)))))) (by kernel_rfl)
theorem q33:Ret Tryz.prog G 200 [(.agg [F,(v [] 0)]),(.agg [F,(v [u 1] 2)])] [] ((.agg [F,(v [u 1] 2)])) []:=zaj (mc q4 mem0) (by kernel_rfl)
theorem q34:Ret Tryz.prog G 83 [(.agg [F,(v [u 1] 2)]),(.agg [F,(v [u 1] 2)])] [] ((.agg [F,(v [u 1] 2),F,(v [u 1] 2)])) []:=zaj (mc q21 (mc q6 (mc q5 (mc q4 (mc q1 mem0))))) (by kernel_rfl)
theorem q35:Ret Tryz.prog G 108 [(v [u 3] 2)] [] ((v [u 3] 2)) []:=zaj mem0 (by kernel_rfl)
theorem q36:Ret Tryz.prog G 158 [(v [u 3] 2)] [] ((.int .u64 (.ofNat 3))) []:=zaj mem0 (by kernel_rfl)
theorem q37:Ret Tryz.prog G 79 [(.agg [F,(v [u 3] 2)]),(.agg [F,(v [u 1] 2)])] [] ((.tup [(.agg [F,(v [u 3] 2)]),(.agg [F,(v [] 0)]),B])) []:=zaj (mc q36 (mc q35 (mc q23 (mc q6 (mc q4 (mc q3 mem0)))))) (by kernel_rfl)
theorem q38:Ret Tryz.prog G 83 [(.agg [F,(v [u 3] 2)]),(.agg [F,(v [u 2] 2)])] [] ((.agg [F,(v [u 3] 2),F,(v [u 2] 2)])) []:=zaj (mc q37 (mc q36 (mc q35 (mc q28 (mc q17 (mc q16 (mc q1 mem0))))))) (by kernel_rfl)
theorem q39:Ret Tryz.prog G 79 [(.agg [F,(v [u 4] 2)]),(.agg [F,(v [u 1] 2)])] [] ((.tup [(.agg [F,(v [u 4] 2)]),(.agg [F,(v [] 0)]),B])) []:=zaj (mc q19 (mc q18 (mc q6 (mc q4 (mc q3 mem0))))) (by kernel_rfl)
theorem q40:Ret Tryz.prog G 83 [(.agg [F,(v [u 1] 2)]),(.agg [F,(v [u 4] 2)])] [] ((.agg [F,(v [u 1] 2),F,(v [u 4] 2)])) []:=zaj (mc q39 (mc q21 (mc q19 (mc q6 (mc q4 (mc q1 mem0)))))) (by kernel_rfl)
theorem q41:Ret Tryz.prog G 52 [(.agg [F,(v [u 1] 2)]),(.agg [F,(v [u 4] 2)])] [] ((.agg [F,(v [u 4] 2)])) []:=zaj (mc q19 (mc q18 (mc q6 (mc q4 mem0)))) (by kernel_rfl)
theorem q42:Ret Tryz.prog G 44 [i 2,i 1,i 2] [] ((.agg [F,(v [u 3] 2),F,(v [u 4] 2)])) []:=zaj (mc q41 (mc q40 (mc q39 (mc q33 (mc q32 (mc q30 (mc q27 (mc q25 (mc q23 (mc q22 (mc q19 (mc q18 (mc q17 (mc q16 (mc q15 (mc q14 (mc q7 (mc q6 (mc q4 (mc q3 (mc q2 (mc q1 mem0)))))))))))))))))))))) (by kernel_rfl)
theorem q43:Ret Tryz.prog G 83 [(.agg [F,(v [u 4] 2)]),(.agg [F,(v [u 3] 2)])] [] ((.agg [F,(v [u 4] 2),F,(v [u 3] 2)])) []:=zaj (mc q39 (mc q37 (mc q36 (mc q35 (mc q19 (mc q1 mem0)))))) (by kernel_rfl)
theorem q44:Ret Tryz.prog G 81 [(.int .u64 (.ofNat 6))] [] ((v [u 6] 2)) []:=zaj mem0 (by kernel_rfl)
theorem q45:Ret Tryz.prog G 83 [(.agg [F,(v [u 2] 2)]),(.agg [F,(v [u 1] 2)])] [] ((.agg [F,(v [u 2] 2),F,(v [u 1] 2)])) []:=zaj (mc q28 (mc q21 (mc q17 (mc q16 (mc q6 (mc q5 (mc q4 (mc q1 mem0)))))))) (by kernel_rfl)
theorem q46:Ret Tryz.prog G 173 [i 1,(.int .i64 (.negSucc 3)),i 4] [] ((.vec [F,(v [] 0),B,(v [u 2] 1)] 2 (some 2))) []:=zaj mem0 (by kernel_rfl)
theorem q47:Ret Tryz.prog G 177 [(.agg [F,(v [] 0),F,(v [u 1] 2)]),(.agg [F,(v [u 1] 2),F,(v [u 1] 2)])] [] ((.agg [F,(v [u 1] 2),F,(v [u 1] 2)])) []:=zaj (mc q34 (mc q33 (mc q30 (mc q29 (mc q7 (mc q5 (mc q2 mem0))))))) (by kernel_rfl)
theorem q48:Ret Tryz.prog G 83 [(.agg [B,(v [u 1] 2)]),(.agg [F,(v [u 2] 2)])] [] ((.agg [B,(v [u 1] 2),F,(v [u 2] 2)])) []:=zaj (mc q28 (mc q17 (mc q16 (mc q6 (mc q4 (mc q3 (mc q1 mem0))))))) (by kernel_rfl)
theorem q49:Ret Tryz.prog G 85 [(.agg [F,(v [u 1] 2),F,(v [u 1] 2)]),(.agg [B,(w [u 2]),F,(v [u 1] 2)])] [] ((.tup [(.agg [B,(v [u 1] 2),F,(v [u 2] 2)]),B])) []:=zaj (mc q48 (mc q34 (mc q27 (mc q21 (mc q17 (mc q16 (mc q15 (mc q7 (mc q6 (mc q5 (mc q4 (mc q3 (mc q2 (mc q1 mem0)))))))))))))) (by kernel_rfl)
theorem q50:Ret Tryz.prog G 50 [(.agg [F,(w [u 4]),F,(v [u 1] 2)])] [] ((.agg [F,(v [u 4] 2),F,(v [u 1] 2)])) []:=zaj (mc q21 (mc q18 (mc q6 (mc q5 (mc q4 (mc q3 (mc q1 mem0))))))) (by kernel_rfl)
theorem q51:Ret Tryz.prog G 83 [(.agg [B,(v [u 1] 1)]),(.agg [F,(v [u 2] 2)])] [] ((.agg [B,(v [u 1] 2),F,(v [u 2] 2)])) []:=zaj (mc q28 (mc q17 (mc q16 (mc q6 (mc q4 (mc q3 (mc q1 mem0))))))) (by kernel_rfl)
theorem q52:Ret Tryz.prog G 82 [(.agg [F,(v [u 1] 2)]),i 0] [] ((.tup [(.agg [F,(v [u 1] 2)]),B])) []:=zaj (mc q7 (mc q2 mem0)) (by kernel_rfl)
theorem q53:Ret Tryz.prog G 112 [i 1,(.int .i64 (.negSucc 3))] [] ((.tup [(.agg [B,(v [u 1] 2),F,(v [u 2] 2)]),i 0])) []:=zaj (mc q52 (mc q51 (mc q50 (mc q49 (mc q48 (mc q47 (mc q46 (mc q41 (mc q40 (mc q34 (mc q32 (mc q31 (mc q30 (mc q29 (mc q27 (mc q26 (mc q21 (mc q19 (mc q18 (mc q17 (mc q16 (mc q15 (mc q14 (mc q11 (mc q7 (mc q6 (mc q5 (mc q4 (mc q3 (mc q2 (mc q1 mem0))))))))))))))))))))))))))))))) (by kernel_rfl)
theorem q54:Ret Tryz.prog G 83 [(.agg [F,(v [u 1] 2)]),(.agg [F,(v [u 6] 2)])] [] ((.agg [F,(v [u 1] 2),F,(v [u 6] 2)])) []:=zaj (mc q44 (mc q21 (mc q6 (mc q4 (mc q3 (mc q1 mem0)))))) (by kernel_rfl)
theorem q55:Ret Tryz.prog G 175 [i 2] [] ((.vec [F,(w [u 1]),F,(v [u 1] 2),B,(v [u 1] 2),F,(v [u 2] 2),F,(v [u 1] 2),F,(v [u 6] 2)] 3 none)) []:=zaj (mc q54 (mc q51 (mc q49 (mc q48 (mc q47 (mc q44 (mc q36 (mc q35 (mc q34 (mc q33 (mc q32 (mc q30 (mc q28 (mc q27 (mc q23 (mc q21 (mc q17 (mc q16 (mc q15 (mc q14 (mc q7 (mc q6 (mc q5 (mc q4 (mc q3 (mc q2 (mc q1 mem0))))))))))))))))))))))))))) (by kernel_rfl)
theorem q56:Ret Tryz.prog G 83 [(.agg [F,(v [u 4] 2)]),(.agg [F,(v [u 1] 2)])] [] ((.agg [F,(v [u 4] 2),F,(v [u 1] 2)])) []:=zaj (mc q39 (mc q21 (mc q19 (mc q6 (mc q5 (mc q4 (mc q1 mem0))))))) (by kernel_rfl)
theorem q57:Ret Tryz.prog G 95 [(.agg [F,(v [u 4] 2),F,(v [u 1] 2)]),(.agg [F,(v [u 1] 2),F,(v [u 6] 2)])] [] ((.agg [F,(v [u 2] 2),F,(v [u 3] 2)])) []:=zaj (mc q56 (mc q54 (mc q44 (mc q41 (mc q23 (mc q19 (mc q18 (mc q17 (mc q16 (mc q15 (mc q7 (mc q6 (mc q5 (mc q4 (mc q3 (mc q2 mem0)))))))))))))))) (by kernel_rfl)
theorem q58:Ret Tryz.prog G 115 [i 1,i 1,i 1,i 4,(.agg [F,(w [u 1]),F,(v [u 2] 2)])] [] ((.agg [F,(v [u 3] 2),F,(v [u 1] 2)])) []:=zaj (mc q57 (mc q56 (mc q55 (mc q52 (mc q50 (mc q45 (mc q44 (mc q41 (mc q38 (mc q37 (mc q36 (mc q35 (mc q34 (mc q32 (mc q31 (mc q28 (mc q27 (mc q26 (mc q25 (mc q23 (mc q19 (mc q18 (mc q17 (mc q16 (mc q15 (mc q14 (mc q7 (mc q6 (mc q5 (mc q4 (mc q3 (mc q2 (mc q1 mem0))))))))))))))))))))))))))))))))) (by kernel_rfl)
theorem q59:Ret Tryz.prog G 83 [(.agg [F,(v [u 6] 2)]),(.agg [F,(v [u 1] 2)])] [] ((.agg [F,(v [u 6] 2),F,(v [u 1] 2)])) []:=zaj (mc q44 (mc q21 (mc q6 (mc q5 (mc q4 (mc q3 (mc q1 mem0))))))) (by kernel_rfl)
theorem q60:Ret Tryz.prog G 21 [(.vec [(v [i 1,i 0,i 0] 3),(v [i 0,i 1,i 0] 3),(v [i 0,i 0,i 1] 3)] 3 (some 3)),i 1] [] ((.str (ByteArray.mk [54].toArray))) []:=zaj (mc q59 (mc q58 (mc q53 (mc q48 (mc q45 (mc q44 (mc q43 (mc q42 (mc q39 (mc q38 (mc q37 (mc q36 (mc q35 (mc q34 (mc q33 (mc q32 (mc q31 (mc q30 (mc q29 (mc q28 (mc q27 (mc q26 (mc q25 (mc q24 (mc q23 (mc q21 (mc q19 (mc q17 (mc q16 (mc q15 (mc q14 (mc q13 (mc q12 (mc q11 (mc q10 (mc q9 (mc q8 (mc q7 (mc q6 (mc q5 (mc q4 (mc q3 (mc q2 (mc q1 (mc q0 mem0))))))))))))))))))))))))))))))))))))))))))))) (by kernel_rfl)
theorem q61:Ret Tryz.prog G 70 [(.vec [(v [i 1,i 0,i 0,i 0] 4),(v [i 0,i 1,i 0,i 0] 4),(v [i 0,i 0,i 1,i 0] 4),(v [i 0,i 0,i 0,i 1] 4)] 4 (some 4))] [] (B) []:=zaj mem0 (by kernel_rfl)
theorem q62:Ret Tryz.prog G 15 [(.vec [(v [i 1,i 0,i 0,i 0] 4),(v [i 0,i 1,i 0,i 0] 4),(v [i 0,i 0,i 1,i 0] 4),(v [i 0,i 0,i 0,i 1] 4)] 4 (some 4)),i 2,i 1] [] ((.tup [(.agg [F,(v [u 1] 2),F,(v [u 1] 2)]),i 0])) []:=zaj (mc qyd (mc q61 (mc q21 (mc q20 (mc q15 (mc q7 (mc q6 (mc q5 (mc q4 (mc q3 (mc q2 (mc q1 mem0)))))))))))) (by kernel_rfl)
theorem q63:Ret Tryz.prog G 83 [(.agg [B,(v [u 1] 2)]),(.agg [F,(v [u 1] 2)])] [] ((.agg [B,(v [u 1] 2),F,(v [u 1] 2)])) []:=zaj (mc q21 (mc q6 (mc q5 (mc q4 (mc q3 (mc q1 mem0)))))) (by kernel_rfl)
theorem q64:Ret Tryz.prog G 112 [i 2,i 1] [] ((.tup [(.agg [F,(v [u 1] 2),F,(v [u 6] 2)]),i 0])) []:=zaj (mc q63 (mc q55 (mc q54 (mc q52 (mc q48 (mc q47 (mc q44 (mc q34 (mc q33 (mc q32 (mc q31 (mc q30 (mc q29 (mc q27 (mc q26 (mc q25 (mc q17 (mc q16 (mc q15 (mc q14 (mc q7 (mc q6 (mc q5 (mc q4 (mc q3 (mc q2 (mc q1 mem0))))))))))))))))))))))))))) (by kernel_rfl)
theorem q65:Ret Tryz.prog G 114 [i 2,i 1,i 1,i 1,(.agg [F,(v [u 1] 2),F,(v [u 6] 2)])] [] ((.agg [F,(v [u 6] 2),F,(v [u 1] 2)])) []:=zaj (mc q57 (mc q56 (mc q50 (mc q44 (mc q41 (mc q38 (mc q37 (mc q36 (mc q35 (mc q34 (mc q32 (mc q31 (mc q28 (mc q27 (mc q26 (mc q25 (mc q23 (mc q22 (mc q19 (mc q18 (mc q17 (mc q16 (mc q15 (mc q14 (mc q7 (mc q6 (mc q5 (mc q4 (mc q3 (mc q2 (mc q1 mem0))))))))))))))))))))))))))))))) (by kernel_rfl)
theorem q66:Ret Tryz.prog G 7 [] [] (B) []:=zaj (mc q65 (mc q64 (mc q62 (mc q61 (mc q60 (mc q59 (mc q43 (mc q42 (mc q41 (mc q39 (mc q37 (mc q36 (mc q35 (mc q34 (mc q32 (mc q23 (mc q21 (mc q19 (mc q14 (mc q13 (mc q12 (mc q11 (mc q10 (mc q9 (mc q8 (mc q7 (mc q6 (mc q5 (mc q4 (mc q3 (mc q2 (mc q1 mem0)))))))))))))))))))))))))))))))) (by kernel_rfl)
end Q
end Go.Proofs.YtpflahgcdgdkjaaGreatDoor
