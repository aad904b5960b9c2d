/- A part of the proof. -/
import Derived.Test.YtpflahgcdgdkjaaGreatDoorAL23
set_option linter.all false
namespace Go.AL
open Go
section
variable{H:Heap}{id off n sz p:Nat}{c:Option Nat}{cs:List AV}{k k':IntKind}{a b:Int}{x y:AV}
theorem qet{b:Bool}:zvo (.bool b)=some b:=rfl
theorem qeu{b:Bool}:zvp (.bool b)=some (some b):=rfl
theorem qik:zvp .anyb=some none:=rfl
theorem qil{t:Bool}{A B:Prop}:both (some t) A B=((t=true->A)/\(t=false->B)):=rfl
theorem qim{A B:Prop}:both none A B=(A/\B):=rfl
theorem qev{t:Bool}:qic (.bool t) x y=some (if t=true then x else y):=rfl
theorem qxe{ag:Bool}:ldA ag sz (.ptr id off) H=(getB H id).bind λcs=>need (off+sz<=cs.length) (some (ldv ag sz off cs,[id])):=rfl
theorem qpq{ag:Bool}:ldA ag sz (.iptr cs p) H=need (p+sz<=cs.length) (some (ldv ag sz p cs,[])):=rfl
theorem jfa:ldv false sz off cs=cs.getD off .junk:=rfl
theorem jfb:ldv true sz off cs= .agg ((cs.drop off).take sz):=rfl
theorem qxf{v:AV}:stA sz (.ptr id off) v H=(getB H id).bind λcs=>need (v.firm=true/\v.cells.length=sz/\AV.scalL v.cells=true/\off+sz<=cs.length) (some (id,setL cs off v.cells)):=rfl
theorem qpr:nilA (.ptr id off)=some (.ptr id off):=rfl
theorem qin:nilA (.iptr cs p)=some (.iptr cs p):=rfl
theorem qps:binA .add (.int k a) (.int k b)=some (.int k (k.wrap (a+b))):=by simp[binA,need]
theorem qpt:binA .sub (.int k a) (.int k b)=some (.int k (k.wrap (a-b))):=by simp[binA,need]
theorem qpu:binA .mul (.int k a) (.int k b)=some (.int k (k.wrap (a*b))):=by simp[binA,need]
theorem qpv:binA .quo (.int k a) (.int k b)=need (b≠0) (some (.int k (k.wrap (a.tdiv b)))):=by simp[binA,need]
theorem qpw:binA .rem (.int k a) (.int k b)=need (b≠0) (some (.int k (a.tmod b))):=by simp[binA,need]
theorem qpx:binA .shl (.int k a) (.int k' b)=need (0<=b) (some (.int k (k.wrap (a*2^(min b.toNat k.bits))))):=rfl
theorem qpy:binA .shr (.int k a) (.int k' b)=need (0<=b) (some (.int k (a.fdiv (2^(min b.toNat k.bits))))):=rfl
theorem qpz:binA .and (.int k a) (.int k b)=some (.int k (k.wrap (BitVec.ofInt k.bits a &&& BitVec.ofInt k.bits b).toNat)):=by simp[binA,need]
theorem qxg:binA .or (.int k a) (.int k b)=some (.int k (k.wrap (BitVec.ofInt k.bits a ||| BitVec.ofInt k.bits b).toNat)):=by simp[binA,need]
theorem zyw:binA .andNot (.int k a) (.int k b)=some (.int k (k.wrap (BitVec.ofInt k.bits a &&& ~~~ BitVec.ofInt k.bits b).toNat)):=by simp[binA,need]
theorem qqa:binA .eql (.int k a) (.int k b)=some (.bool (decide (a=b))):=by
 simp only[binA,need,if_true];congr 2
theorem qqb:binA .neq (.int k a) (.int k b)=some (.bool (decide (a≠b))):=by
 simp only[binA,need,if_true];congr 2;by_cases h:a=b<;>simp[h]
theorem qqc:binA .lss (.int k a) (.int k b)=some (.bool (decide (a<b))):=by simp[binA,need]
theorem qqd:binA .leq (.int k a) (.int k b)=some (.bool (decide (a<=b))):=by simp[binA,need]
theorem qqe:binA .gtr (.int k a) (.int k b)=some (.bool (decide (b<a))):=by simp[binA,need]
theorem qqf:binA .geq (.int k a) (.int k b)=some (.bool (decide (b<=a))):=by simp[binA,need]
theorem qio{s t:ByteArray}:binA .eql (.str s) (.str t)=some (.bool (s.toList == t.toList)):=rfl
theorem qip{s t:ByteArray}:binA .add (.str s) (.str t)=need ((s.size+t.size:Nat)<=IntKind.i64.max) (some (.str (s++t))):=rfl
theorem qiq{neg s t:Bool}:beqA neg (.bool s) (.bool t)=some (.bool (if neg=true then !(s == t)else(s == t))):=rfl
theorem qir{neg:Bool}:zyt neg (.vec cs n c)=if n=0 then some .anyb else some (.bool neg):=rfl
theorem qqg{neg:Bool}:zyt neg (.sl id off n sz c)=some (.bool neg):=rfl
theorem qxh:unA .neg (.int k a)=some (.int k (k.wrap (0-a))):=rfl
theorem qxi{t:Bool}:unA .not (.bool t)=some (.bool !t):=rfl
theorem qis:qid k (.int k' a)=some (.int k (k.wrap a)):=rfl
theorem qit{bytes:Nat}:qie bytes (.int k a) (.int k' b)=need (0<=a/\a<=b/\b*bytes<=2^48/\b<2^63) (some (a,b)):=rfl
theorem qiu:zgc (.int k a)=need (0<=a) (some a.toNat):=rfl
theorem zyx{V:Opd->AV}{d:Nat}:zbm V d none=some d:=rfl
theorem zyy{V:Opd->AV}{d:Nat}{z:Opd}:zbm V d (some z)=zgc (V z):=rfl
theorem qew{V:Opd->AV}{lo hi:Option Opd}:zdy V sz (.vec cs n c) lo hi none=
  (zbm V n hi).bind λh=>(zbm V 0 lo).bind λl=>need (l<=h/\h<=n/\n*sz<=cs.length) (some (.vec ((cs.drop (l*sz)).take ((h-l)*sz)) (h-l) (zdx l c))):=rfl
theorem qiv{V:Opd->AV}{lo hi:Option Opd}{s:Nat}:zdy V sz (.sl id off n s c) lo hi none=
  (zbm V n hi).bind λh=>(zbm V 0 lo).bind λl=>need (s=sz/\l<=h/\h<=n) (some (if l=h then zjg id off sz l c else .sl id (off+l*sz) (h-l) sz (zdx l c))):=rfl
theorem zyz{V:Opd->AV}{lo hi:Option Opd}{m:Opd}:zdy V sz (.vec cs n c) lo hi (some m)=
  (zbm V n hi).bind λh=>(zbm V 0 lo).bind λl=>(zgc (V m)).bind λm=>need (hi.isSome=true/\l<=h/\h<=m/\m<=n/\n*sz<=cs.length) (some (.vec ((cs.drop (l*sz)).take ((h-l)*sz)) (h-l) (some (m-l)))):=rfl
theorem qex{V:Opd->AV}{lo hi:Option Opd}{m:Opd}{s:Nat}:zdy V sz (.sl id off n s c) lo hi (some m)=
  (zbm V n hi).bind λh=>(zbm V 0 lo).bind λl=>(zgc (V m)).bind λm=>need (hi.isSome=true/\s=sz/\l<=h/\h<=m/\m<=n) (some (if l=h then .vec [] 0 (some (m-l))else .sl id (off+l*sz) (h-l) sz (some (m-l)))):=rfl
theorem qey{id off sz l q:Nat}:zjg id off sz l (some q)= .vec [] 0 (zdx l (some q)):=by cases l<;>rfl
theorem zza{id off sz l:Nat}{c:Option Nat}:zjg id off sz (l+1) c= .vec [] 0 (zdx (l+1) c):=by cases c<;>rfl
theorem zzb{id off sz:Nat}:zjg id off sz 0 none= .sl id off 0 sz none:=rfl
theorem zzc{l:Nat}:zdx l none=none:=rfl
theorem zzd:zdx 0 c=c:=by cases c<;>rfl
theorem qqh{o:Nat}:fldA off (.ptr id o)=some (.ptr id (o+off)):=rfl
theorem qiw:fldA off (.iptr cs p)=some (.iptr cs (p+off)):=rfl
theorem qix{ag:Bool}:qif ag sz off (.agg cs)=need (off+sz<=cs.length/\(ag=false->sz=1)) (some (ldv ag sz off cs)):=rfl
theorem qxj{s:Nat}:idxA sz (.sl id off n s c) (.int k a)=need (s=sz/\0<=a/\a<n) (some (.ptr id (off+a.toNat*sz))):=rfl
theorem qqi:idxA sz (.vec cs n c) (.int k a)=need (0<=a/\a<n) (some (.iptr cs (a.toNat*sz))):=rfl
theorem qiy:zyu n sz (.ptr id off) (.int k a)=need (0<=a/\a<n) (some (.ptr id (off+a.toNat*sz))):=rfl
theorem qez:zyu n sz (.iptr cs p) (.int k a)=need (0<=a/\a<n) (some (.iptr cs (p+a.toNat*sz))):=rfl
theorem qiz{ag:Bool}:qig n ag sz (.agg cs) (.int k a)=need (0<=a/\a<n/\a.toNat*sz+sz<=cs.length/\(ag=false->sz=1)) (some (ldv ag sz (a.toNat*sz) cs)):=rfl
theorem qja{s:ByteArray}:qih (.str s) (.int k a)=need (0<=a/\a<s.size) (some (.int .u8 (s.data.getD a.toNat 0).toNat)):=rfl
theorem qqj{i:Nat}:extA i (.tup cs)=cs[i]?:=rfl
theorem qjb:zyv (.vec cs n c)=some (.int .i64 n):=rfl
theorem qqk:zyv (.sl id off n sz c)=some (.int .i64 n):=rfl
theorem qfa{s:ByteArray}:zvt (.str s)=some (.int .i64 s.size):=rfl
theorem qql:maxA (.int k a) (.int k' b)=some (.int k (if b>a then b else a)):=rfl
theorem jfc{E:Env}{t:Nat}:val E (.t t)=E t:=rfl
theorem jfd{E:Env}:val E (.k x)=x:=rfl
theorem qjc{E:Env}{d:Nat}:updO E (some d) x=upd E d x:=rfl
theorem qjd{E:Env}:updO E none x=E:=rfl
theorem qje:(AV.agg cs).cells=cs:=rfl
theorem qjf:(AV.int k a).cells=[.int k a]:=rfl
theorem qfb{t:Bool}:(AV.bool t).cells=[.bool t]:=rfl
theorem qjg:(AV.vec cs n c).cells=[.vec cs n c]:=rfl
theorem qqm:(AV.sl id off n sz c).cells=[.sl id off n sz c]:=rfl
theorem qqn:(AV.agg cs).firm=true:=rfl
theorem qqo:(AV.int k a).firm=true:=rfl
theorem qjh{t:Bool}:(AV.bool t).firm=true:=rfl
theorem qqp:(AV.vec cs n c).firm=true:=rfl
theorem qxk:(AV.sl id off n sz c).firm=true:=rfl
theorem qqq{i:Nat}:setL cs i []=cs:=rfl
theorem qji{i:Nat}{v:AV}{vs:List AV}:setL cs i (v::vs)=setL (cs.set i v) (i+1) vs:=rfl
theorem qjj:AV.scalL []=true:=rfl
theorem qfc{r:List AV}:AV.scalL (x::r)=(x.scal && AV.scalL r):=rfl
theorem qqr:(AV.int k a).scal=true:=rfl
theorem qjk{t:Bool}:(AV.bool t).scal=true:=rfl
theorem qqs:(AV.vec cs n c).scal=true:=rfl
theorem qxl:(AV.sl id off n sz c).scal=true:=rfl
theorem qjl{V:Opd->AV}:zey V cs []=some cs:=rfl
theorem qfd{V:Opd->AV}{s:Nat}{z:Opd}{r:List (Nat×Nat×Opd)}:zey V cs ((off,s,z)::r)=
  need ((V z).firm=true/\(V z).cells.length=s/\off+s<=cs.length) (zey V (setL cs off (V z).cells) r):=rfl
theorem qjm{m:Nat}{z:AV}:zeh m [z]=List.replicate m z:=rfl
