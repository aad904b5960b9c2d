/- A part of the proof. -/
import Derived.Test.YtpflahgcdgdkjaaGreatDoorKF
set_option linter.all false
set_option maxRecDepth 1000000
namespace Go.Proofs.YtpflahgcdgdkjaaGreatDoor
open Go Go.AL Go.Proofs
namespace Q
abbrev u (n:Nat):AV:= .int .u32 (.ofNat n)
abbrev i (n:Nat):AV:= .int .i64 (.ofNat n)
abbrev w (l:List AV):AV:= .vec l l.length none
abbrev v (l:List AV) (c:Nat):AV:= .vec l l.length (some c)
abbrev F:AV:= .bool false
abbrev B:AV:= .bool true
theorem mc {f:FuncId} {a:List AV} {v:AV} {m:MemZ} (h:Rt f a [] v []) (hm:zpf Tryz.prog G m):zpf Tryz.prog G ((f,a,v)::m):=by
 intro x hx
 rcases List.mem_cons.1 hx with rfl | hx
 ·exact h
 ·exact hm x hx
theorem q0:Rt 70 [(.vec [(v [i 1,i 0,i 0] 3),(v [i 0,i 1,i 0] 3),(v [i 0,i 0,i 1] 3)] 3 (some 3))] [] (B) []:=zaf mem0 (by kernel_rfl)
theorem q1:Rt 81 [(.int .u64 (.ofNat 1))] [] ((v [u 1] 2)) []:=zaf mem0 (by kernel_rfl)
theorem q2:Rt 35 [i 1] [] ((.agg [F,(v [u 1] 2)])) []:=zaf (mc q1 mem0) (by kernel_rfl)
theorem q3:Rt 81 [(.int .u64 (.ofNat 0))] [] ((v [] 2)) []:=zaf mem0 (by kernel_rfl)
theorem q4:Rt 108 [(v [u 1] 2)] [] ((v [u 1] 2)) []:=zaf mem0 (by kernel_rfl)
theorem q5:Rt 76 [(.agg [F,(v [u 1] 2)])] [] (i 1) []:=zaf (mc q4 mem0) (by kernel_rfl)
theorem q6:Rt 158 [(v [u 1] 2)] [] ((.int .u64 (.ofNat 1))) []:=zaf mem0 (by kernel_rfl)
theorem q7:Rt 52 [(.agg [F,(v [u 1] 2)]),(.agg [F,(v [u 1] 2)])] [] ((.agg [F,(v [u 1] 2)])) []:=zaf (mc q6 (mc q4 (mc q1 mem0))) (by kernel_rfl)
theorem q8:Rt 52 [(.agg [F,(v [] 0)]),(.agg [F,(v [] 0)])] [] ((.agg [F,(v [] 0)])) []:=zaf (mc q3 mem0) (by kernel_rfl)
theorem q9:Rt 199 [(.agg [F,(v [u 1] 2)]),(.agg [F,(v [] 0)])] [] ((.agg [F,(v [u 1] 1)])) []:=zaf (mc q4 mem0) (by kernel_rfl)
theorem q10:Rt 79 [(.agg [F,(v [u 1] 1)]),(.agg [F,(v [u 1] 2)])] [] ((.tup [(.agg [F,(v [u 1] 2)]),(.agg [F,(v [] 0)]),B])) []:=zaf (mc q6 (mc q4 (mc q3 (mc q1 mem0)))) (by kernel_rfl)
theorem q11:Rt 52 [(.agg [F,(v [u 1] 2)]),(.agg [F,(v [] 0)])] [] ((.agg [F,(v [] 0)])) []:=zaf (mc q6 (mc q4 (mc q3 mem0))) (by kernel_rfl)
theorem q12:Rt 199 [(.agg [F,(v [] 0)]),(.agg [F,(v [] 0)])] [] ((.agg [F,(v [] 0)])) []:=zaf mem0 (by kernel_rfl)
theorem q13:Rt 79 [(.agg [F,(v [] 0)]),(.agg [F,(v [u 1] 2)])] [] ((.tup [(.agg [F,(v [] 0)]),(.agg [F,(v [] 0)]),B])) []:=zaf (mc q4 mem0) (by kernel_rfl)
theorem q14:Rt 84 [(.agg [F,(v [u 1] 2)])] [] ((.agg [F,(w [u 1]),F,(v [u 1] 2)])) []:=zaf (mc q4 (mc q2 mem0)) (by kernel_rfl)
theorem q15:Rt 81 [(.int .u64 (.ofNat 2))] [] ((v [u 2] 2)) []:=zaf mem0 (by kernel_rfl)
theorem q16:Rt 108 [(v [u 2] 2)] [] ((v [u 2] 2)) []:=zaf mem0 (by kernel_rfl)
theorem q17:Rt 158 [(v [u 2] 2)] [] ((.int .u64 (.ofNat 2))) []:=zaf mem0 (by kernel_rfl)
theorem q18:Rt 81 [(.int .u64 (.ofNat 4))] [] ((v [u 4] 2)) []:=zaf mem0 (by kernel_rfl)
theorem q19:Rt 108 [(v [u 4] 2)] [] ((v [u 4] 2)) []:=zaf mem0 (by kernel_rfl)
theorem q20:Rt 34 [(.agg [F,(v [u 2] 2)]),i 2] [] ((.tup [i 1,(.agg [F,(v [u 1] 2)]),i 0])) []:=zaf (mc q19 (mc q18 (mc q17 (mc q16 (mc q15 (mc q4 (mc q3 (mc q1 mem0)))))))) (by kernel_rfl)
theorem q21:Rt 79 [(.agg [F,(v [u 1] 2)]),(.agg [F,(v [u 1] 2)])] [] ((.tup [(.agg [F,(v [u 1] 2)]),(.agg [F,(v [] 0)]),B])) []:=zaf (mc q6 (mc q4 (mc q3 (mc q1 mem0)))) (by kernel_rfl)
theorem q22:Rt 82 [(.agg [F,(v [u 1] 2)]),i 2] [] ((.tup [(.agg [F,(v [u 1] 2)]),B])) []:=zaf (mc q7 (mc q2 mem0)) (by kernel_rfl)
theorem q23:Rt 81 [(.int .u64 (.ofNat 3))] [] ((v [u 3] 2)) []:=zaf mem0 (by kernel_rfl)
theorem q24:Rt 15 [(.vec [(v [i 1,i 0,i 0] 3),(v [i 0,i 1,i 0] 3),(v [i 0,i 0,i 1] 3)] 3 (some 3)),i 2,i 1] [] ((.tup [(.agg [F,(v [u 3] 2),F,(v [u 2] 2)]),i 0])) []:=zaf (mc q23 (mc q22 (mc q21 (mc jcd (mc q20 (mc q15 (mc q7 (mc q6 (mc q5 (mc q4 (mc q3 (mc q2 (mc q1 (mc q0 mem0)))))))))))))) (by kernel_rfl)
theorem q25:Rt 50 [(.agg [F,(w [u 2]),F,(v [u 1] 2)])] [] ((.agg [F,(v [u 2] 2),F,(v [u 1] 2)])) []:=zaf (mc q21 (mc q15 (mc q6 (mc q5 (mc q4 (mc q3 (mc q1 mem0))))))) (by kernel_rfl)
theorem q26:Rt 82 [(.agg [F,(v [u 1] 2)]),i 1] [] ((.tup [(.agg [F,(v [u 1] 2)]),B])) []:=zaf (mc q7 (mc q2 mem0)) (by kernel_rfl)
theorem q27:Rt 52 [(.agg [F,(v [u 1] 2)]),(.agg [F,(v [u 2] 2)])] [] ((.agg [F,(v [u 2] 2)])) []:=zaf (mc q17 (mc q16 (mc q15 (mc q6 (mc q4 mem0))))) (by kernel_rfl)
theorem q28:Rt 79 [(.agg [F,(v [u 2] 2)]),(.agg [F,(v [u 1] 2)])] [] ((.tup [(.agg [F,(v [u 2] 2)]),(.agg [F,(v [] 0)]),B])) []:=zaf (mc q17 (mc q16 (mc q15 (mc q6 (mc q4 (mc q3 mem0)))))) (by kernel_rfl)
theorem q29:Rt 83 [(.agg [F,(v [] 0)]),(.agg [F,(v [u 1] 2)])] [] ((.agg [F,(v [] 0),F,(v [u 1] 2)])) []:=zaf (mc q21 (mc q13 (mc q6 (mc q5 (mc q4 (mc q1 mem0)))))) (by kernel_rfl)
theorem q30:Rt 52 [(.agg [F,(v [] 0)]),(.agg [F,(v [u 1] 2)])] [] ((.agg [F,(v [] 0)])) []:=zaf (mc q6 (mc q4 (mc q3 mem0))) (by kernel_rfl)
theorem q31:Rt 79 [(.agg [F,(v [u 2] 2)]),(.agg [F,(v [u 2] 2)])] [] ((.tup [(.agg [F,(v [u 1] 2)]),(.agg [F,(v [] 0)]),B])) []:=zaf (mc q17 (mc q16 (mc q3 (mc q1 mem0)))) (by kernel_rfl)
theorem q32:Rt 50 [(.agg [F,(w [u 1]),F,(v [u 1] 2)])] [] ((.agg [F,(v [u 1] 2),F,(v [u 1] 2)])) []:=zaf (mc q21 (mc q6 (mc q5 (mc q4 (mc q3 (mc q1 mem0)))))) (by kernel_rfl)
theorem q33:Rt 200 [(.agg [F,(v [] 0)]),(.agg [F,(v [u 1] 2)])] [] ((.agg [F,(v [u 1] 2)])) []:=zaf (mc q4 mem0) (by kernel_rfl)
theorem q34:Rt 83 [(.agg [F,(v [u 1] 2)]),(.agg [F,(v [u 1] 2)])] [] ((.agg [F,(v [u 1] 2),F,(v [u 1] 2)])) []:=zaf (mc q21 (mc q6 (mc q5 (mc q4 (mc q1 mem0))))) (by kernel_rfl)
theorem q35:Rt 108 [(v [u 3] 2)] [] ((v [u 3] 2)) []:=zaf mem0 (by kernel_rfl)
theorem q36:Rt 158 [(v [u 3] 2)] [] ((.int .u64 (.ofNat 3))) []:=zaf mem0 (by kernel_rfl)
theorem q37:Rt 79 [(.agg [F,(v [u 3] 2)]),(.agg [F,(v [u 1] 2)])] [] ((.tup [(.agg [F,(v [u 3] 2)]),(.agg [F,(v [] 0)]),B])) []:=zaf (mc q36 (mc q35 (mc q23 (mc q6 (mc q4 (mc q3 mem0)))))) (by kernel_rfl)
theorem q38:Rt 83 [(.agg [F,(v [u 3] 2)]),(.agg [F,(v [u 2] 2)])] [] ((.agg [F,(v [u 3] 2),F,(v [u 2] 2)])) []:=zaf (mc q37 (mc q36 (mc q35 (mc q28 (mc q17 (mc q16 (mc q1 mem0))))))) (by kernel_rfl)
theorem q39:Rt 79 [(.agg [F,(v [u 4] 2)]),(.agg [F,(v [u 1] 2)])] [] ((.tup [(.agg [F,(v [u 4] 2)]),(.agg [F,(v [] 0)]),B])) []:=zaf (mc q19 (mc q18 (mc q6 (mc q4 (mc q3 mem0))))) (by kernel_rfl)
theorem q40:Rt 83 [(.agg [F,(v [u 1] 2)]),(.agg [F,(v [u 4] 2)])] [] ((.agg [F,(v [u 1] 2),F,(v [u 4] 2)])) []:=zaf (mc q39 (mc q21 (mc q19 (mc q6 (mc q4 (mc q1 mem0)))))) (by kernel_rfl)
theorem q41:Rt 52 [(.agg [F,(v [u 1] 2)]),(.agg [F,(v [u 4] 2)])] [] ((.agg [F,(v [u 4] 2)])) []:=zaf (mc q19 (mc q18 (mc q6 (mc q4 mem0)))) (by kernel_rfl)
theorem q42:Rt 44 [i 2,i 1,i 2] [] ((.agg [F,(v [u 3] 2),F,(v [u 4] 2)])) []:=zaf (mc q41 (mc q40 (mc q39 (mc q33 (mc q32 (mc q30 (mc q27 (mc q25 (mc q23 (mc q22 (mc q19 (mc q18 (mc q17 (mc q16 (mc q15 (mc q14 (mc q7 (mc q6 (mc q4 (mc q3 (mc q2 (mc q1 mem0)))))))))))))))))))))) (by kernel_rfl)
theorem q43:Rt 83 [(.agg [F,(v [u 4] 2)]),(.agg [F,(v [u 3] 2)])] [] ((.agg [F,(v [u 4] 2),F,(v [u 3] 2)])) []:=zaf (mc q39 (mc q37 (mc q36 (mc q35 (mc q19 (mc q1 mem0)))))) (by kernel_rfl)
theorem q44:Rt 81 [(.int .u64 (.ofNat 6))] [] ((v [u 6] 2)) []:=zaf mem0 (by kernel_rfl)
theorem q45:Rt 83 [(.agg [F,(v [u 2] 2)]),(.agg [F,(v [u 1] 2)])] [] ((.agg [F,(v [u 2] 2),F,(v [u 1] 2)])) []:=zaf (mc q28 (mc q21 (mc q17 (mc q16 (mc q6 (mc q5 (mc q4 (mc q1 mem0)))))))) (by kernel_rfl)
theorem q46:Rt 173 [i 1,(.int .i64 (.negSucc 3)),i 4] [] ((.vec [F,(v [] 0),B,(v [u 2] 1)] 2 (some 2))) []:=zaf mem0 (by kernel_rfl)
theorem q47:Rt 177 [(.agg [F,(v [] 0),F,(v [u 1] 2)]),(.agg [F,(v [u 1] 2),F,(v [u 1] 2)])] [] ((.agg [F,(v [u 1] 2),F,(v [u 1] 2)])) []:=zaf (mc q34 (mc q33 (mc q30 (mc q29 (mc q7 (mc q5 (mc q2 mem0))))))) (by kernel_rfl)
theorem q48:Rt 83 [(.agg [B,(v [u 1] 2)]),(.agg [F,(v [u 2] 2)])] [] ((.agg [B,(v [u 1] 2),F,(v [u 2] 2)])) []:=zaf (mc q28 (mc q17 (mc q16 (mc q6 (mc q4 (mc q3 (mc q1 mem0))))))) (by kernel_rfl)
theorem q49:Rt 85 [(.agg [F,(v [u 1] 2),F,(v [u 1] 2)]),(.agg [B,(w [u 2]),F,(v [u 1] 2)])] [] ((.tup [(.agg [B,(v [u 1] 2),F,(v [u 2] 2)]),B])) []:=zaf (mc q48 (mc q34 (mc q27 (mc q21 (mc q17 (mc q16 (mc q15 (mc q7 (mc q6 (mc q5 (mc q4 (mc q3 (mc q2 (mc q1 mem0)))))))))))))) (by kernel_rfl)
theorem q50:Rt 50 [(.agg [F,(w [u 4]),F,(v [u 1] 2)])] [] ((.agg [F,(v [u 4] 2),F,(v [u 1] 2)])) []:=zaf (mc q21 (mc q18 (mc q6 (mc q5 (mc q4 (mc q3 (mc q1 mem0))))))) (by kernel_rfl)
theorem q51:Rt 83 [(.agg [B,(v [u 1] 1)]),(.agg [F,(v [u 2] 2)])] [] ((.agg [B,(v [u 1] 2),F,(v [u 2] 2)])) []:=zaf (mc q28 (mc q17 (mc q16 (mc q6 (mc q4 (mc q3 (mc q1 mem0))))))) (by kernel_rfl)
theorem q52:Rt 82 [(.agg [F,(v [u 1] 2)]),i 0] [] ((.tup [(.agg [F,(v [u 1] 2)]),B])) []:=zaf (mc q7 (mc q2 mem0)) (by kernel_rfl)
theorem q53:Rt 112 [i 1,(.int .i64 (.negSucc 3))] [] ((.tup [(.agg [B,(v [u 1] 2),F,(v [u 2] 2)]),i 0])) []:=zaf (mc q52 (mc q51 (mc q50 (mc q49 (mc q48 (mc q47 (mc q46 (mc q41 (mc q40 (mc q34 (mc q32 (mc q31 (mc q30 (mc q29 (mc q27 (mc q26 (mc q21 (mc q19 (mc q18 (mc q17 (mc q16 (mc q15 (mc q14 (mc q11 (mc q7 (mc q6 (mc q5 (mc q4 (mc q3 (mc q2 (mc q1 mem0))))))))))))))))))))))))))))))) (by kernel_rfl)
theorem q54:Rt 83 [(.agg [F,(v [u 1] 2)]),(.agg [F,(v [u 6] 2)])] [] ((.agg [F,(v [u 1] 2),F,(v [u 6] 2)])) []:=zaf (mc q44 (mc q21 (mc q6 (mc q4 (mc q3 (mc q1 mem0)))))) (by kernel_rfl)
theorem q55:Rt 175 [i 2] [] ((.vec [F,(w [u 1]),F,(v [u 1] 2),B,(v [u 1] 2),F,(v [u 2] 2),F,(v [u 1] 2),F,(v [u 6] 2)] 3 none)) []:=zaf (mc q54 (mc q51 (mc q49 (mc q48 (mc q47 (mc q44 (mc q36 (mc q35 (mc q34 (mc q33 (mc q32 (mc q30 (mc q28 (mc q27 (mc q23 (mc q21 (mc q17 (mc q16 (mc q15 (mc q14 (mc q7 (mc q6 (mc q5 (mc q4 (mc q3 (mc q2 (mc q1 mem0))))))))))))))))))))))))))) (by kernel_rfl)
theorem q56:Rt 83 [(.agg [F,(v [u 4] 2)]),(.agg [F,(v [u 1] 2)])] [] ((.agg [F,(v [u 4] 2),F,(v [u 1] 2)])) []:=zaf (mc q39 (mc q21 (mc q19 (mc q6 (mc q5 (mc q4 (mc q1 mem0))))))) (by kernel_rfl)
theorem q57:Rt 95 [(.agg [F,(v [u 4] 2),F,(v [u 1] 2)]),(.agg [F,(v [u 1] 2),F,(v [u 6] 2)])] [] ((.agg [F,(v [u 2] 2),F,(v [u 3] 2)])) []:=zaf (mc q56 (mc q54 (mc q44 (mc q41 (mc q23 (mc q19 (mc q18 (mc q17 (mc q16 (mc q15 (mc q7 (mc q6 (mc q5 (mc q4 (mc q3 (mc q2 mem0)))))))))))))))) (by kernel_rfl)
theorem q58:Rt 115 [i 1,i 1,i 1,i 4,(.agg [F,(w [u 1]),F,(v [u 2] 2)])] [] ((.agg [F,(v [u 3] 2),F,(v [u 1] 2)])) []:=zaf (mc q57 (mc q56 (mc q55 (mc q52 (mc q50 (mc q45 (mc q44 (mc q41 (mc q38 (mc q37 (mc q36 (mc q35 (mc q34 (mc q32 (mc q31 (mc q28 (mc q27 (mc q26 (mc q25 (mc q23 (mc q19 (mc q18 (mc q17 (mc q16 (mc q15 (mc q14 (mc q7 (mc q6 (mc q5 (mc q4 (mc q3 (mc q2 (mc q1 mem0))))))))))))))))))))))))))))))))) (by kernel_rfl)
theorem q59:Rt 83 [(.agg [F,(v [u 6] 2)]),(.agg [F,(v [u 1] 2)])] [] ((.agg [F,(v [u 6] 2),F,(v [u 1] 2)])) []:=zaf (mc q44 (mc q21 (mc q6 (mc q5 (mc q4 (mc q3 (mc q1 mem0))))))) (by kernel_rfl)
theorem q60:Rt 21 [(.vec [(v [i 1,i 0,i 0] 3),(v [i 0,i 1,i 0] 3),(v [i 0,i 0,i 1] 3)] 3 (some 3)),i 1] [] ((.str (ByteArray.mk [54].toArray))) []:=zaf (mc q59 (mc q58 (mc q53 (mc q48 (mc q45 (mc q44 (mc q43 (mc q42 (mc q39 (mc q38 (mc q37 (mc q36 (mc q35 (mc q34 (mc q33 (mc q32 (mc q31 (mc q30 (mc q29 (mc q28 (mc q27 (mc q26 (mc q25 (mc q24 (mc q23 (mc q21 (mc q19 (mc q17 (mc q16 (mc q15 (mc q14 (mc q13 (mc q12 (mc q11 (mc q10 (mc q9 (mc q8 (mc q7 (mc q6 (mc q5 (mc q4 (mc q3 (mc q2 (mc q1 (mc q0 mem0))))))))))))))))))))))))))))))))))))))))))))) (by kernel_rfl)
theorem q61:Rt 70 [(.vec [(v [i 1,i 0,i 0,i 0] 4),(v [i 0,i 1,i 0,i 0] 4),(v [i 0,i 0,i 1,i 0] 4),(v [i 0,i 0,i 0,i 1] 4)] 4 (some 4))] [] (B) []:=zaf mem0 (by kernel_rfl)
theorem q62:Rt 15 [(.vec [(v [i 1,i 0,i 0,i 0] 4),(v [i 0,i 1,i 0,i 0] 4),(v [i 0,i 0,i 1,i 0] 4),(v [i 0,i 0,i 0,i 1] 4)] 4 (some 4)),i 2,i 1] [] ((.tup [(.agg [F,(v [u 1] 2),F,(v [u 1] 2)]),i 0])) []:=zaf (mc jce (mc q61 (mc q21 (mc q20 (mc q15 (mc q7 (mc q6 (mc q5 (mc q4 (mc q3 (mc q2 (mc q1 mem0)))))))))))) (by kernel_rfl)
theorem q63:Rt 83 [(.agg [B,(v [u 1] 2)]),(.agg [F,(v [u 1] 2)])] [] ((.agg [B,(v [u 1] 2),F,(v [u 1] 2)])) []:=zaf (mc q21 (mc q6 (mc q5 (mc q4 (mc q3 (mc q1 mem0)))))) (by kernel_rfl)
theorem q64:Rt 112 [i 2,i 1] [] ((.tup [(.agg [F,(v [u 1] 2),F,(v [u 6] 2)]),i 0])) []:=zaf (mc q63 (mc q55 (mc q54 (mc q52 (mc q48 (mc q47 (mc q44 (mc q34 (mc q33 (mc q32 (mc q31 (mc q30 (mc q29 (mc q27 (mc q26 (mc q25 (mc q17 (mc q16 (mc q15 (mc q14 (mc q7 (mc q6 (mc q5 (mc q4 (mc q3 (mc q2 (mc q1 mem0))))))))))))))))))))))))))) (by kernel_rfl)
theorem q65:Rt 114 [i 2,i 1,i 1,i 1,(.agg [F,(v [u 1] 2),F,(v [u 6] 2)])] [] ((.agg [F,(v [u 6] 2),F,(v [u 1] 2)])) []:=zaf (mc q57 (mc q56 (mc q50 (mc q44 (mc q41 (mc q38 (mc q37 (mc q36 (mc q35 (mc q34 (mc q32 (mc q31 (mc q28 (mc q27 (mc q26 (mc q25 (mc q23 (mc q22 (mc q19 (mc q18 (mc q17 (mc q16 (mc q15 (mc q14 (mc q7 (mc q6 (mc q5 (mc q4 (mc q3 (mc q2 (mc q1 mem0))))))))))))))))))))))))))))))) (by kernel_rfl)
theorem q66:Rt 7 [] [] (B) []:=zaf (mc q65 (mc q64 (mc q62 (mc q61 (mc q60 (mc q59 (mc q43 (mc q42 (mc q41 (mc q39 (mc q37 (mc q36 (mc q35 (mc q34 (mc q32 (mc q23 (mc q21 (mc q19 (mc q14 (mc q13 (mc q12 (mc q11 (mc q10 (mc q9 (mc q8 (mc q7 (mc q6 (mc q5 (mc q4 (mc q3 (mc q2 (mc q1 mem0)))))))))))))))))))))))))))))))) (by kernel_rfl)
end Q
end Go.Proofs.YtpflahgcdgdkjaaGreatDoor
