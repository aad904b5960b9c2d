/- A part of the proof. -/
import Derived.Test.YtenboapacjlmoaaGreatDoorAL23
namespace Go.AL
set_option linter.unusedSimpArgs false
set_option linter.unusedVariables false
open Go
section
variable {H:Heap} {id off n sz p:Nat} {c:Option Nat} {cs:List AV} {k k':IntKind} {a b:Int} {x y:AV}
theorem boolA_bool {b:Bool}:boolA (.bool b)=some b:=rfl
theorem condA_bool {b:Bool}:condA (.bool b)=some (some b):=rfl
theorem condA_any:condA .anyb=some none:=rfl
theorem both_some {t:Bool} {A B:Prop}:both (some t) A B=((t=true→A)∧(t=false→B)):=rfl
theorem both_none {A B:Prop}:both none A B=(A∧B):=rfl
theorem pickA_bool {t:Bool}:pickA (.bool t) x y=some (if t=true then x else y):=rfl
theorem ldA_ptr {ag:Bool}:ldA ag sz (.ptr id off) H=(getB H id).bind fun cs=>need (off+sz≤cs.length) (some (ldv ag sz off cs,[id])):=rfl
theorem ldA_iptr {ag:Bool}:ldA ag sz (.iptr cs p) H=need (p+sz≤cs.length) (some (ldv ag sz p cs,[])):=rfl
theorem ldv_f:ldv false sz off cs=cs.getD off .junk:=rfl
theorem ldv_t:ldv true sz off cs= .agg ((cs.drop off).take sz):=rfl
theorem stA_ptr {v:AV}:stA sz (.ptr id off) v H=(getB H id).bind fun cs=>need (v.firm=true∧v.cells.length=sz∧AV.scalL v.cells=true∧off+sz≤cs.length) (some (id,setL cs off v.cells)):=rfl
theorem nilA_ptr:nilA (.ptr id off)=some (.ptr id off):=rfl
theorem nilA_iptr:nilA (.iptr cs p)=some (.iptr cs p):=rfl
theorem binA_add:binA .add (.int k a) (.int k b)=some (.int k (k.wrap (a+b))):=by simp [binA,need]
theorem binA_sub:binA .sub (.int k a) (.int k b)=some (.int k (k.wrap (a-b))):=by simp [binA,need]
theorem binA_mul:binA .mul (.int k a) (.int k b)=some (.int k (k.wrap (a*b))):=by simp [binA,need]
theorem binA_quo:binA .quo (.int k a) (.int k b)=need (b≠0) (some (.int k (k.wrap (a.tdiv b)))):=by simp [binA,need]
theorem binA_rem:binA .rem (.int k a) (.int k b)=need (b≠0) (some (.int k (a.tmod b))):=by simp [binA,need]
theorem binA_shl:binA .shl (.int k a) (.int k' b)=need (0≤b) (some (.int k (k.wrap (a*2^(min b.toNat k.bits))))):=rfl
theorem binA_shr:binA .shr (.int k a) (.int k' b)=need (0≤b) (some (.int k (a.fdiv (2^(min b.toNat k.bits))))):=rfl
theorem binA_and:binA .and (.int k a) (.int k b)=some (.int k (k.wrap (BitVec.ofInt k.bits a &&& BitVec.ofInt k.bits b).toNat)):=by simp [binA,need]
theorem binA_or:binA .or (.int k a) (.int k b)=some (.int k (k.wrap (BitVec.ofInt k.bits a ||| BitVec.ofInt k.bits b).toNat)):=by simp [binA,need]
theorem binA_andNot:binA .andNot (.int k a) (.int k b)=some (.int k (k.wrap (BitVec.ofInt k.bits a &&& ~~~ BitVec.ofInt k.bits b).toNat)):=by simp [binA,need]
theorem binA_eql:binA .eql (.int k a) (.int k b)=some (.bool (decide (a=b))):=by
 simp only [binA,need,if_true];congr 2
theorem binA_neq:binA .neq (.int k a) (.int k b)=some (.bool (decide (a≠b))):=by
 simp only [binA,need,if_true];congr 2;by_cases h:a=b<;>simp [h]
theorem binA_lss:binA .lss (.int k a) (.int k b)=some (.bool (decide (a<b))):=by simp [binA,need]
theorem binA_leq:binA .leq (.int k a) (.int k b)=some (.bool (decide (a≤b))):=by simp [binA,need]
theorem binA_gtr:binA .gtr (.int k a) (.int k b)=some (.bool (decide (b<a))):=by simp [binA,need]
theorem binA_geq:binA .geq (.int k a) (.int k b)=some (.bool (decide (b≤a))):=by simp [binA,need]
theorem binA_seql {s t:ByteArray}:binA .eql (.str s) (.str t)=some (.bool (s.toList == t.toList)):=rfl
theorem binA_sadd {s t:ByteArray}:binA .add (.str s) (.str t)=need ((s.size+t.size:Nat)≤IntKind.i64.max) (some (.str (s++t))):=rfl
theorem beqA_bool {neg s t:Bool}:beqA neg (.bool s) (.bool t)=some (.bool (if neg=true then !(s == t) else (s == t))):=rfl
theorem snilA_vec {neg:Bool}:snilA neg (.vec cs n c)=if n=0 then some .anyb else some (.bool neg):=rfl
theorem snilA_sl {neg:Bool}:snilA neg (.sl id off n sz c)=some (.bool neg):=rfl
theorem unA_neg:unA .neg (.int k a)=some (.int k (k.wrap (0-a))):=rfl
theorem unA_not {t:Bool}:unA .not (.bool t)=some (.bool !t):=rfl
theorem convA_int:convA k (.int k' a)=some (.int k (k.wrap a)):=rfl
theorem mkslA_int {bytes:Nat}:mkslA bytes (.int k a) (.int k' b)=need (0≤a∧a≤b∧b*bytes≤2^48∧b<2^63) (some (a,b)):=rfl
theorem natOf_int:natOf (.int k a)=need (0≤a) (some a.toNat):=rfl
theorem optNat_none {V:Opd→AV} {d:Nat}:optNat V d none=some d:=rfl
theorem optNat_some {V:Opd→AV} {d:Nat} {z:Opd}:optNat V d (some z)=natOf (V z):=rfl
theorem sliceA_vec {V:Opd→AV} {lo hi:Option Opd}:sliceA V sz (.vec cs n c) lo hi none=
  (optNat V n hi).bind fun h=>(optNat V 0 lo).bind fun l=>need (l≤h∧h≤n∧n*sz≤cs.length) (some (.vec ((cs.drop (l*sz)).take ((h-l)*sz)) (h-l) (subCap l c))):=rfl
theorem sliceA_sl {V:Opd→AV} {lo hi:Option Opd} {s:Nat}:sliceA V sz (.sl id off n s c) lo hi none=
  (optNat V n hi).bind fun h=>(optNat V 0 lo).bind fun l=>need (s=sz∧l≤h∧h≤n) (some (if l=h then emptyS id off sz l c else .sl id (off+l*sz) (h-l) sz (subCap l c))):=rfl
theorem sliceA_vec3 {V:Opd→AV} {lo hi:Option Opd} {m:Opd}:sliceA V sz (.vec cs n c) lo hi (some m)=
  (optNat V n hi).bind fun h=>(optNat V 0 lo).bind fun l=>(natOf (V m)).bind fun m=>need (hi.isSome=true∧l≤h∧h≤m∧m≤n∧n*sz≤cs.length) (some (.vec ((cs.drop (l*sz)).take ((h-l)*sz)) (h-l) (some (m-l)))):=rfl
theorem sliceA_sl3 {V:Opd→AV} {lo hi:Option Opd} {m:Opd} {s:Nat}:sliceA V sz (.sl id off n s c) lo hi (some m)=
  (optNat V n hi).bind fun h=>(optNat V 0 lo).bind fun l=>(natOf (V m)).bind fun m=>need (hi.isSome=true∧s=sz∧l≤h∧h≤m∧m≤n) (some (if l=h then .vec [] 0 (some (m-l)) else .sl id (off+l*sz) (h-l) sz (some (m-l)))):=rfl
theorem emptyS_sub {id off sz l q:Nat}:emptyS id off sz l (some q)= .vec [] 0 (subCap l (some q)):=by cases l<;>rfl
theorem emptyS_succ {id off sz l:Nat} {c:Option Nat}:emptyS id off sz (l+1) c= .vec [] 0 (subCap (l+1) c):=by cases c<;>rfl
theorem emptyS_zero {id off sz:Nat}:emptyS id off sz 0 none= .sl id off 0 sz none:=rfl
theorem subCap_none {l:Nat}:subCap l none=none:=rfl
theorem subCap_zero:subCap 0 c=c:=by cases c<;>rfl
theorem fldA_ptr {o:Nat}:fldA off (.ptr id o)=some (.ptr id (o+off)):=rfl
theorem fldA_iptr:fldA off (.iptr cs p)=some (.iptr cs (p+off)):=rfl
theorem partA_agg {ag:Bool}:partA ag sz off (.agg cs)=need (off+sz≤cs.length∧(ag=false→sz=1)) (some (ldv ag sz off cs)):=rfl
theorem idxA_sl {s:Nat}:idxA sz (.sl id off n s c) (.int k a)=need (s=sz∧0≤a∧a<n) (some (.ptr id (off+a.toNat*sz))):=rfl
theorem idxA_vec:idxA sz (.vec cs n c) (.int k a)=need (0≤a∧a<n) (some (.iptr cs (a.toNat*sz))):=rfl
theorem idxaA_ptr:idxaA n sz (.ptr id off) (.int k a)=need (0≤a∧a<n) (some (.ptr id (off+a.toNat*sz))):=rfl
theorem idxaA_iptr:idxaA n sz (.iptr cs p) (.int k a)=need (0≤a∧a<n) (some (.iptr cs (p+a.toNat*sz))):=rfl
theorem idxvA_agg {ag:Bool}:idxvA n ag sz (.agg cs) (.int k a)=need (0≤a∧a<n∧a.toNat*sz+sz≤cs.length∧(ag=false→sz=1)) (some (ldv ag sz (a.toNat*sz) cs)):=rfl
theorem idxsA_str {s:ByteArray}:idxsA (.str s) (.int k a)=need (0≤a∧a<s.size) (some (.int .u8 (s.data.getD a.toNat 0).toNat)):=rfl
theorem extA_tup {i:Nat}:extA i (.tup cs)=cs[i]?:=rfl
theorem lenSA_vec:lenSA (.vec cs n c)=some (.int .i64 n):=rfl
theorem lenSA_sl:lenSA (.sl id off n sz c)=some (.int .i64 n):=rfl
theorem lenStA_str {s:ByteArray}:lenStA (.str s)=some (.int .i64 s.size):=rfl
theorem maxA_int:maxA (.int k a) (.int k' b)=some (.int k (if b>a then b else a)):=rfl
theorem val_t {E:Env} {t:Nat}:val E (.t t)=E t:=rfl
theorem val_k {E:Env}:val E (.k x)=x:=rfl
theorem updO_some {E:Env} {d:Nat}:updO E (some d) x=upd E d x:=rfl
theorem updO_none {E:Env}:updO E none x=E:=rfl
theorem cells_agg:(AV.agg cs).cells=cs:=rfl
theorem cells_int:(AV.int k a).cells=[.int k a]:=rfl
theorem cells_bool {t:Bool}:(AV.bool t).cells=[.bool t]:=rfl
theorem cells_vec:(AV.vec cs n c).cells=[.vec cs n c]:=rfl
theorem cells_sl:(AV.sl id off n sz c).cells=[.sl id off n sz c]:=rfl
theorem firm_agg:(AV.agg cs).firm=true:=rfl
theorem firm_int:(AV.int k a).firm=true:=rfl
theorem firm_bool {t:Bool}:(AV.bool t).firm=true:=rfl
theorem firm_vec:(AV.vec cs n c).firm=true:=rfl
theorem firm_sl:(AV.sl id off n sz c).firm=true:=rfl
theorem setL_nil {i:Nat}:setL cs i []=cs:=rfl
theorem setL_cons {i:Nat} {v:AV} {vs:List AV}:setL cs i (v::vs)=setL (cs.set i v) (i+1) vs:=rfl
theorem scalL_nil:AV.scalL []=true:=rfl
theorem scalL_cons {r:List AV}:AV.scalL (x::r)=(x.scal && AV.scalL r):=rfl
theorem scal_int:(AV.int k a).scal=true:=rfl
theorem scal_bool {t:Bool}:(AV.bool t).scal=true:=rfl
theorem scal_vec:(AV.vec cs n c).scal=true:=rfl
theorem scal_sl:(AV.sl id off n sz c).scal=true:=rfl
theorem fillA_nil {V:Opd→AV}:fillA V cs []=some cs:=rfl
theorem fillA_cons {V:Opd→AV} {s:Nat} {z:Opd} {r:List (Nat×Nat×Opd)}:fillA V cs ((off,s,z)::r)=
  need ((V z).firm=true∧(V z).cells.length=s∧off+s≤cs.length) (fillA V (setL cs off (V z).cells) r):=rfl
theorem zeros_one {m:Nat} {z:AV}:zeros m [z]=List.replicate m z:=rfl
end
end Go.AL
