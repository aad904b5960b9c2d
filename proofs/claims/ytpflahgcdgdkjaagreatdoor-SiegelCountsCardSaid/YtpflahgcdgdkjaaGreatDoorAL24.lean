/- A part of the proof. -/
import Derived.Test.YtpflahgcdgdkjaaGreatDoorAL23
namespace Go.AL
set_option linter.unusedSimpArgs false
set_option linter.unusedVariables false
open Go
section
variable {H:Heap} {id off n sz p:Nat} {c:Option Nat} {cs:List AV} {k k':IntKind} {a b:Int} {x y:AV}
theorem zzt {b:Bool}:zsk (.bool b)=some b:=rfl
theorem zzu {b:Bool}:zsl (.bool b)=some (some b):=rfl
theorem qdj:zsl .anyb=some none:=rfl
theorem qdk {t:Bool} {A B:Prop}:both (some t) A B=((t=true→A)∧(t=false→B)):=rfl
theorem qdl {A B:Prop}:both none A B=(A∧B):=rfl
theorem zzv {t:Bool}:qdb (.bool t) x y=some (if t=true then x else y):=rfl
theorem qqp {ag:Bool}:ldA ag sz (.ptr id off) H=(getB H id).bind fun cs=>need (off+sz≤cs.length) (some (ldv ag sz off cs,[id])):=rfl
theorem qju {ag:Bool}:ldA ag sz (.iptr cs p) H=need (p+sz≤cs.length) (some (ldv ag sz p cs,[])):=rfl
theorem qxe:ldv false sz off cs=cs.getD off .junk:=rfl
theorem qxf:ldv true sz off cs= .agg ((cs.drop off).take sz):=rfl
theorem qqq {v:AV}:stA sz (.ptr id off) v H=(getB H id).bind fun cs=>need (v.firm=true∧v.cells.length=sz∧AV.scalL v.cells=true∧off+sz≤cs.length) (some (id,setL cs off v.cells)):=rfl
theorem qjv:nilA (.ptr id off)=some (.ptr id off):=rfl
theorem qdm:nilA (.iptr cs p)=some (.iptr cs p):=rfl
theorem qjw:binA .add (.int k a) (.int k b)=some (.int k (k.wrap (a+b))):=by simp [binA,need]
theorem qjx:binA .sub (.int k a) (.int k b)=some (.int k (k.wrap (a-b))):=by simp [binA,need]
theorem qjy:binA .mul (.int k a) (.int k b)=some (.int k (k.wrap (a*b))):=by simp [binA,need]
theorem qjz:binA .quo (.int k a) (.int k b)=need (b≠0) (some (.int k (k.wrap (a.tdiv b)))):=by simp [binA,need]
theorem qka:binA .rem (.int k a) (.int k b)=need (b≠0) (some (.int k (a.tmod b))):=by simp [binA,need]
theorem qkb:binA .shl (.int k a) (.int k' b)=need (0≤b) (some (.int k (k.wrap (a*2^(min b.toNat k.bits))))):=rfl
theorem qkc:binA .shr (.int k a) (.int k' b)=need (0≤b) (some (.int k (a.fdiv (2^(min b.toNat k.bits))))):=rfl
theorem qkd:binA .and (.int k a) (.int k b)=some (.int k (k.wrap (BitVec.ofInt k.bits a &&& BitVec.ofInt k.bits b).toNat)):=by simp [binA,need]
theorem qqr:binA .or (.int k a) (.int k b)=some (.int k (k.wrap (BitVec.ofInt k.bits a ||| BitVec.ofInt k.bits b).toNat)):=by simp [binA,need]
theorem zva:binA .andNot (.int k a) (.int k b)=some (.int k (k.wrap (BitVec.ofInt k.bits a &&& ~~~ BitVec.ofInt k.bits b).toNat)):=by simp [binA,need]
theorem qke:binA .eql (.int k a) (.int k b)=some (.bool (decide (a=b))):=by
 simp only [binA,need,if_true];congr 2
theorem qkf:binA .neq (.int k a) (.int k b)=some (.bool (decide (a≠b))):=by
 simp only [binA,need,if_true];congr 2;by_cases h:a=b<;>simp [h]
theorem qkg:binA .lss (.int k a) (.int k b)=some (.bool (decide (a<b))):=by simp [binA,need]
theorem qkh:binA .leq (.int k a) (.int k b)=some (.bool (decide (a≤b))):=by simp [binA,need]
theorem qki:binA .gtr (.int k a) (.int k b)=some (.bool (decide (b<a))):=by simp [binA,need]
theorem qkj:binA .geq (.int k a) (.int k b)=some (.bool (decide (b≤a))):=by simp [binA,need]
theorem qdn {s t:ByteArray}:binA .eql (.str s) (.str t)=some (.bool (s.toList == t.toList)):=rfl
theorem qdo {s t:ByteArray}:binA .add (.str s) (.str t)=need ((s.size+t.size:Nat)≤IntKind.i64.max) (some (.str (s++t))):=rfl
theorem qdp {neg s t:Bool}:beqA neg (.bool s) (.bool t)=some (.bool (if neg=true then !(s == t) else (s == t))):=rfl
theorem qdq {neg:Bool}:zux neg (.vec cs n c)=if n=0 then some .anyb else some (.bool neg):=rfl
theorem qkk {neg:Bool}:zux neg (.sl id off n sz c)=some (.bool neg):=rfl
theorem qqs:unA .neg (.int k a)=some (.int k (k.wrap (0-a))):=rfl
theorem qqt {t:Bool}:unA .not (.bool t)=some (.bool !t):=rfl
theorem qdr:qdc k (.int k' a)=some (.int k (k.wrap a)):=rfl
theorem qds {bytes:Nat}:qdd bytes (.int k a) (.int k' b)=need (0≤a∧a≤b∧b*bytes≤2^48∧b<2^63) (some (a,b)):=rfl
theorem qdt:zfq (.int k a)=need (0≤a) (some a.toNat):=rfl
theorem zvb {V:Opd→AV} {d:Nat}:zbf V d none=some d:=rfl
theorem zvc {V:Opd→AV} {d:Nat} {z:Opd}:zbf V d (some z)=zfq (V z):=rfl
theorem zzw {V:Opd→AV} {lo hi:Option Opd}:zdr V sz (.vec cs n c) lo hi none=
  (zbf V n hi).bind fun h=>(zbf V 0 lo).bind fun l=>need (l≤h∧h≤n∧n*sz≤cs.length) (some (.vec ((cs.drop (l*sz)).take ((h-l)*sz)) (h-l) (zdx l c))):=rfl
theorem qdu {V:Opd→AV} {lo hi:Option Opd} {s:Nat}:zdr V sz (.sl id off n s c) lo hi none=
  (zbf V n hi).bind fun h=>(zbf V 0 lo).bind fun l=>need (s=sz∧l≤h∧h≤n) (some (if l=h then zil id off sz l c else .sl id (off+l*sz) (h-l) sz (zdx l c))):=rfl
theorem zvd {V:Opd→AV} {lo hi:Option Opd} {m:Opd}:zdr V sz (.vec cs n c) lo hi (some m)=
  (zbf V n hi).bind fun h=>(zbf V 0 lo).bind fun l=>(zfq (V m)).bind fun m=>need (hi.isSome=true∧l≤h∧h≤m∧m≤n∧n*sz≤cs.length) (some (.vec ((cs.drop (l*sz)).take ((h-l)*sz)) (h-l) (some (m-l)))):=rfl
theorem zzx {V:Opd→AV} {lo hi:Option Opd} {m:Opd} {s:Nat}:zdr V sz (.sl id off n s c) lo hi (some m)=
  (zbf V n hi).bind fun h=>(zbf V 0 lo).bind fun l=>(zfq (V m)).bind fun m=>need (hi.isSome=true∧s=sz∧l≤h∧h≤m∧m≤n) (some (if l=h then .vec [] 0 (some (m-l)) else .sl id (off+l*sz) (h-l) sz (some (m-l)))):=rfl
theorem zzy {id off sz l q:Nat}:zil id off sz l (some q)= .vec [] 0 (zdx l (some q)):=by cases l<;>rfl
theorem zve {id off sz l:Nat} {c:Option Nat}:zil id off sz (l+1) c= .vec [] 0 (zdx (l+1) c):=by cases c<;>rfl
theorem zvf {id off sz:Nat}:zil id off sz 0 none= .sl id off 0 sz none:=rfl
theorem zvg {l:Nat}:zdx l none=none:=rfl
theorem zvh:zdx 0 c=c:=by cases c<;>rfl
theorem qkl {o:Nat}:fldA off (.ptr id o)=some (.ptr id (o+off)):=rfl
theorem qdv:fldA off (.iptr cs p)=some (.iptr cs (p+off)):=rfl
theorem qdw {ag:Bool}:qde ag sz off (.agg cs)=need (off+sz≤cs.length∧(ag=false→sz=1)) (some (ldv ag sz off cs)):=rfl
theorem qqu {s:Nat}:idxA sz (.sl id off n s c) (.int k a)=need (s=sz∧0≤a∧a<n) (some (.ptr id (off+a.toNat*sz))):=rfl
theorem qkm:idxA sz (.vec cs n c) (.int k a)=need (0≤a∧a<n) (some (.iptr cs (a.toNat*sz))):=rfl
theorem qdx:zuy n sz (.ptr id off) (.int k a)=need (0≤a∧a<n) (some (.ptr id (off+a.toNat*sz))):=rfl
theorem zzz:zuy n sz (.iptr cs p) (.int k a)=need (0≤a∧a<n) (some (.iptr cs (p+a.toNat*sz))):=rfl
theorem qdy {ag:Bool}:qdf n ag sz (.agg cs) (.int k a)=need (0≤a∧a<n∧a.toNat*sz+sz≤cs.length∧(ag=false→sz=1)) (some (ldv ag sz (a.toNat*sz) cs)):=rfl
theorem qdz {s:ByteArray}:qdg (.str s) (.int k a)=need (0≤a∧a<s.size) (some (.int .u8 (s.data.getD a.toNat 0).toNat)):=rfl
theorem qkn {i:Nat}:extA i (.tup cs)=cs[i]?:=rfl
theorem qea:zuz (.vec cs n c)=some (.int .i64 n):=rfl
theorem qko:zuz (.sl id off n sz c)=some (.int .i64 n):=rfl
theorem qaa {s:ByteArray}:zsp (.str s)=some (.int .i64 s.size):=rfl
theorem qkp:maxA (.int k a) (.int k' b)=some (.int k (if b>a then b else a)):=rfl
theorem qxg {E:Env} {t:Nat}:val E (.t t)=E t:=rfl
theorem qxh {E:Env}:val E (.k x)=x:=rfl
theorem qeb {E:Env} {d:Nat}:updO E (some d) x=upd E d x:=rfl
theorem qec {E:Env}:updO E none x=E:=rfl
theorem qed:(AV.agg cs).cells=cs:=rfl
theorem qee:(AV.int k a).cells=[.int k a]:=rfl
theorem qab {t:Bool}:(AV.bool t).cells=[.bool t]:=rfl
theorem qef:(AV.vec cs n c).cells=[.vec cs n c]:=rfl
theorem qkq:(AV.sl id off n sz c).cells=[.sl id off n sz c]:=rfl
theorem qkr:(AV.agg cs).firm=true:=rfl
theorem qks:(AV.int k a).firm=true:=rfl
theorem qeg {t:Bool}:(AV.bool t).firm=true:=rfl
theorem qkt:(AV.vec cs n c).firm=true:=rfl
theorem qqv:(AV.sl id off n sz c).firm=true:=rfl
theorem qku {i:Nat}:setL cs i []=cs:=rfl
theorem qeh {i:Nat} {v:AV} {vs:List AV}:setL cs i (v::vs)=setL (cs.set i v) (i+1) vs:=rfl
theorem qei:AV.scalL []=true:=rfl
theorem qac {r:List AV}:AV.scalL (x::r)=(x.scal && AV.scalL r):=rfl
theorem qkv:(AV.int k a).scal=true:=rfl
theorem qej {t:Bool}:(AV.bool t).scal=true:=rfl
theorem qkw:(AV.vec cs n c).scal=true:=rfl
theorem qqw:(AV.sl id off n sz c).scal=true:=rfl
theorem qek {V:Opd→AV}:zen V cs []=some cs:=rfl
theorem qad {V:Opd→AV} {s:Nat} {z:Opd} {r:List (Nat×Nat×Opd)}:zen V cs ((off,s,z)::r)=
  need ((V z).firm=true∧(V z).cells.length=s∧off+s≤cs.length) (zen V (setL cs off (V z).cells) r):=rfl
theorem qel {m:Nat} {z:AV}:zfo m [z]=List.replicate m z:=rfl
end
end Go.AL
