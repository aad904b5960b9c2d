/- A part of the proof. -/
import Derived.Test.YtpflahgcdgdkjaaGreatDoorAL23
set_option linter.all false
namespace Go.AL
open Go
section
variable {H:Heap} {id off n sz p:Nat} {c:Option Nat} {cs:List AV} {k k':IntKind} {a b:Int} {x y:AV}
theorem qbk {b:Bool}:ztg (.bool b)=some b:=rfl
theorem qbl {b:Bool}:zth (.bool b)=some (some b):=rfl
theorem qfe:zth .anyb=some none:=rfl
theorem qff {t:Bool} {A B:Prop}:both (some t) A B=((t=true->A)/\(t=false->B)):=rfl
theorem qfg {A B:Prop}:both none A B=(A/\B):=rfl
theorem qbm {t:Bool}:qew (.bool t) x y=some (if t=true then x else y):=rfl
theorem qtj {ag:Bool}:ldA ag sz (.ptr id off) H=(getB H id).bind fun cs=>need (off+sz<=cs.length) (some (ldv ag sz off cs,[id])):=rfl
theorem qlv {ag:Bool}:ldA ag sz (.iptr cs p) H=need (p+sz<=cs.length) (some (ldv ag sz p cs,[])):=rfl
theorem jas:ldv false sz off cs=cs.getD off .junk:=rfl
theorem jat:ldv true sz off cs= .agg ((cs.drop off).take sz):=rfl
theorem qtk {v:AV}:stA sz (.ptr id off) v H=(getB H id).bind fun cs=>need (v.firm=true/\v.cells.length=sz/\AV.scalL v.cells=true/\off+sz<=cs.length) (some (id,setL cs off v.cells)):=rfl
theorem qlw:nilA (.ptr id off)=some (.ptr id off):=rfl
theorem qfh:nilA (.iptr cs p)=some (.iptr cs p):=rfl
theorem qlx:binA .add (.int k a) (.int k b)=some (.int k (k.wrap (a+b))):=by simp [binA,need]
theorem qly:binA .sub (.int k a) (.int k b)=some (.int k (k.wrap (a-b))):=by simp [binA,need]
theorem qlz:binA .mul (.int k a) (.int k b)=some (.int k (k.wrap (a*b))):=by simp [binA,need]
theorem qma:binA .quo (.int k a) (.int k b)=need (b≠0) (some (.int k (k.wrap (a.tdiv b)))):=by simp [binA,need]
theorem qmb:binA .rem (.int k a) (.int k b)=need (b≠0) (some (.int k (a.tmod b))):=by simp [binA,need]
theorem qmc:binA .shl (.int k a) (.int k' b)=need (0<=b) (some (.int k (k.wrap (a*2^(min b.toNat k.bits))))):=rfl
theorem qmd:binA .shr (.int k a) (.int k' b)=need (0<=b) (some (.int k (a.fdiv (2^(min b.toNat k.bits))))):=rfl
theorem qme:binA .and (.int k a) (.int k b)=some (.int k (k.wrap (BitVec.ofInt k.bits a &&& BitVec.ofInt k.bits b).toNat)):=by simp [binA,need]
theorem qtl:binA .or (.int k a) (.int k b)=some (.int k (k.wrap (BitVec.ofInt k.bits a ||| BitVec.ofInt k.bits b).toNat)):=by simp [binA,need]
theorem zwb:binA .andNot (.int k a) (.int k b)=some (.int k (k.wrap (BitVec.ofInt k.bits a &&& ~~~ BitVec.ofInt k.bits b).toNat)):=by simp [binA,need]
theorem qmf:binA .eql (.int k a) (.int k b)=some (.bool (decide (a=b))):=by
 simp only [binA,need,if_true];congr 2
theorem qmg:binA .neq (.int k a) (.int k b)=some (.bool (decide (a≠b))):=by
 simp only [binA,need,if_true];congr 2;by_cases h:a=b<;>simp [h]
theorem qmh:binA .lss (.int k a) (.int k b)=some (.bool (decide (a<b))):=by simp [binA,need]
theorem qmi:binA .leq (.int k a) (.int k b)=some (.bool (decide (a<=b))):=by simp [binA,need]
theorem qmj:binA .gtr (.int k a) (.int k b)=some (.bool (decide (b<a))):=by simp [binA,need]
theorem qmk:binA .geq (.int k a) (.int k b)=some (.bool (decide (b<=a))):=by simp [binA,need]
theorem qfi {s t:ByteArray}:binA .eql (.str s) (.str t)=some (.bool (s.toList == t.toList)):=rfl
theorem qfj {s t:ByteArray}:binA .add (.str s) (.str t)=need ((s.size+t.size:Nat)<=IntKind.i64.max) (some (.str (s++t))):=rfl
theorem qfk {neg s t:Bool}:beqA neg (.bool s) (.bool t)=some (.bool (if neg=true then !(s == t) else (s == t))):=rfl
theorem qfl {neg:Bool}:zvy neg (.vec cs n c)=if n=0 then some .anyb else some (.bool neg):=rfl
theorem qml {neg:Bool}:zvy neg (.sl id off n sz c)=some (.bool neg):=rfl
theorem qtm:unA .neg (.int k a)=some (.int k (k.wrap (0-a))):=rfl
theorem qtn {t:Bool}:unA .not (.bool t)=some (.bool !t):=rfl
theorem qfm:qex k (.int k' a)=some (.int k (k.wrap a)):=rfl
theorem qfn {bytes:Nat}:qey bytes (.int k a) (.int k' b)=need (0<=a/\a<=b/\b*bytes<=2^48/\b<2^63) (some (a,b)):=rfl
theorem qfo:zfn (.int k a)=need (0<=a) (some a.toNat):=rfl
theorem zwc {V:Opd->AV} {d:Nat}:zbb V d none=some d:=rfl
theorem zwd {V:Opd->AV} {d:Nat} {z:Opd}:zbb V d (some z)=zfn (V z):=rfl
theorem qbn {V:Opd->AV} {lo hi:Option Opd}:zdp V sz (.vec cs n c) lo hi none=
  (zbb V n hi).bind fun h=>(zbb V 0 lo).bind fun l=>need (l<=h/\h<=n/\n*sz<=cs.length) (some (.vec ((cs.drop (l*sz)).take ((h-l)*sz)) (h-l) (zdv l c))):=rfl
theorem qfp {V:Opd->AV} {lo hi:Option Opd} {s:Nat}:zdp V sz (.sl id off n s c) lo hi none=
  (zbb V n hi).bind fun h=>(zbb V 0 lo).bind fun l=>need (s=sz/\l<=h/\h<=n) (some (if l=h then ziq id off sz l c else .sl id (off+l*sz) (h-l) sz (zdv l c))):=rfl
theorem zwe {V:Opd->AV} {lo hi:Option Opd} {m:Opd}:zdp V sz (.vec cs n c) lo hi (some m)=
  (zbb V n hi).bind fun h=>(zbb V 0 lo).bind fun l=>(zfn (V m)).bind fun m=>need (hi.isSome=true/\l<=h/\h<=m/\m<=n/\n*sz<=cs.length) (some (.vec ((cs.drop (l*sz)).take ((h-l)*sz)) (h-l) (some (m-l)))):=rfl
theorem qbo {V:Opd->AV} {lo hi:Option Opd} {m:Opd} {s:Nat}:zdp V sz (.sl id off n s c) lo hi (some m)=
  (zbb V n hi).bind fun h=>(zbb V 0 lo).bind fun l=>(zfn (V m)).bind fun m=>need (hi.isSome=true/\s=sz/\l<=h/\h<=m/\m<=n) (some (if l=h then .vec [] 0 (some (m-l)) else .sl id (off+l*sz) (h-l) sz (some (m-l)))):=rfl
theorem qbp {id off sz l q:Nat}:ziq id off sz l (some q)= .vec [] 0 (zdv l (some q)):=by cases l<;>rfl
theorem zwf {id off sz l:Nat} {c:Option Nat}:ziq id off sz (l+1) c= .vec [] 0 (zdv (l+1) c):=by cases c<;>rfl
theorem zwg {id off sz:Nat}:ziq id off sz 0 none= .sl id off 0 sz none:=rfl
theorem zwh {l:Nat}:zdv l none=none:=rfl
theorem zwi:zdv 0 c=c:=by cases c<;>rfl
theorem qmm {o:Nat}:fldA off (.ptr id o)=some (.ptr id (o+off)):=rfl
theorem qfq:fldA off (.iptr cs p)=some (.iptr cs (p+off)):=rfl
theorem qfr {ag:Bool}:qez ag sz off (.agg cs)=need (off+sz<=cs.length/\(ag=false->sz=1)) (some (ldv ag sz off cs)):=rfl
theorem qto {s:Nat}:idxA sz (.sl id off n s c) (.int k a)=need (s=sz/\0<=a/\a<n) (some (.ptr id (off+a.toNat*sz))):=rfl
theorem qmn:idxA sz (.vec cs n c) (.int k a)=need (0<=a/\a<n) (some (.iptr cs (a.toNat*sz))):=rfl
theorem qfs:zvz n sz (.ptr id off) (.int k a)=need (0<=a/\a<n) (some (.ptr id (off+a.toNat*sz))):=rfl
theorem qbq:zvz n sz (.iptr cs p) (.int k a)=need (0<=a/\a<n) (some (.iptr cs (p+a.toNat*sz))):=rfl
theorem qft {ag:Bool}:qfa n ag sz (.agg cs) (.int k a)=need (0<=a/\a<n/\a.toNat*sz+sz<=cs.length/\(ag=false->sz=1)) (some (ldv ag sz (a.toNat*sz) cs)):=rfl
theorem qfu {s:ByteArray}:qfb (.str s) (.int k a)=need (0<=a/\a<s.size) (some (.int .u8 (s.data.getD a.toNat 0).toNat)):=rfl
theorem qmo {i:Nat}:extA i (.tup cs)=cs[i]?:=rfl
theorem qfv:zwa (.vec cs n c)=some (.int .i64 n):=rfl
theorem qmp:zwa (.sl id off n sz c)=some (.int .i64 n):=rfl
theorem qbr {s:ByteArray}:ztl (.str s)=some (.int .i64 s.size):=rfl
theorem qmq:maxA (.int k a) (.int k' b)=some (.int k (if b>a then b else a)):=rfl
theorem jau {E:Env} {t:Nat}:val E (.t t)=E t:=rfl
theorem jav {E:Env}:val E (.k x)=x:=rfl
theorem qfw {E:Env} {d:Nat}:updO E (some d) x=upd E d x:=rfl
theorem qfx {E:Env}:updO E none x=E:=rfl
theorem qfy:(AV.agg cs).cells=cs:=rfl
theorem qfz:(AV.int k a).cells=[.int k a]:=rfl
theorem qbs {t:Bool}:(AV.bool t).cells=[.bool t]:=rfl
theorem qga:(AV.vec cs n c).cells=[.vec cs n c]:=rfl
theorem qmr:(AV.sl id off n sz c).cells=[.sl id off n sz c]:=rfl
theorem qms:(AV.agg cs).firm=true:=rfl
theorem qmt:(AV.int k a).firm=true:=rfl
theorem qgb {t:Bool}:(AV.bool t).firm=true:=rfl
theorem qmu:(AV.vec cs n c).firm=true:=rfl
theorem qtp:(AV.sl id off n sz c).firm=true:=rfl
theorem qmv {i:Nat}:setL cs i []=cs:=rfl
theorem qgc {i:Nat} {v:AV} {vs:List AV}:setL cs i (v::vs)=setL (cs.set i v) (i+1) vs:=rfl
theorem qgd:AV.scalL []=true:=rfl
theorem qbt {r:List AV}:AV.scalL (x::r)=(x.scal && AV.scalL r):=rfl
theorem qmw:(AV.int k a).scal=true:=rfl
theorem qge {t:Bool}:(AV.bool t).scal=true:=rfl
theorem qmx:(AV.vec cs n c).scal=true:=rfl
theorem qtq:(AV.sl id off n sz c).scal=true:=rfl
theorem qgf {V:Opd->AV}:zel V cs []=some cs:=rfl
theorem qbu {V:Opd->AV} {s:Nat} {z:Opd} {r:List (Nat×Nat×Opd)}:zel V cs ((off,s,z)::r)=
  need ((V z).firm=true/\(V z).cells.length=s/\off+s<=cs.length) (zel V (setL cs off (V z).cells) r):=rfl
theorem qgg {m:Nat} {z:AV}:zfl m [z]=List.replicate m z:=rfl
end
end Go.AL
