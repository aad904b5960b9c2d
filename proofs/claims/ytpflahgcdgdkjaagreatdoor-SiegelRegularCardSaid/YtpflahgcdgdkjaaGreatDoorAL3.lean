/- A part of the proof. -/
import Derived.Test.YtpflahgcdgdkjaaGreatDoorAL2
set_option linter.all false
namespace Go.AL
open Go
abbrev Env:=Nat->AV
abbrev Eff:=List (Nat×Option (List AV))
def upd(E:Env)(d:Nat)(v:AV):Env:=λt=>if t=d then v else E t
def updO(E:Env)(d:Option Nat)(v:AV):Env:=match d with | some d=>upd E d v | none=>E
def val(E:Env):Opd->AV
 |.t n=>E n
 |.k a=>a
def need(c:Prop)[Decidable c]{α:Type}(x:Option α):Option α:=if c then x else none
def AV.cells:AV->List AV
 |.agg cs=>cs
 |a=>[a]
def AV.scal:AV->Bool
 |.agg _=>false
 |.tup _=>false
 |.junk=>false
 |_=>true
def AV.scalL:List AV->Bool
 | []=>true
 |a::r=>a.scal && scalL r
def AV.firm:AV->Bool
 |.tup _=>false
 |.junk=>false
 |_=>true
def getB(H:Heap)(id:Nat):Option (List AV):=match H[id]? with | some (some cs)=>some cs | _=>none
def setL:List AV->Nat->List AV->List AV
 |l,_,[]=>l
 |l,i,v::vs=>setL (l.set i v) (i+1) vs
def zad:Eff->Heap->Heap
 | [],H=>H
 |(i,c)::r,H=>zad r (H.set i c)
def zeh(c:Nat):List AV->List AV
 | [z]=>List.replicate c z
 |zs=>(List.replicate c zs).flatten
def zey(V:Opd->AV):List AV->List (Nat×Nat×Opd)->Option (List AV)
 |cs,[]=>some cs
 |cs,(off,s,x)::r=>
  need ((V x).firm=true/\(V x).cells.length=s/\off+s<=cs.length) (zey V (setL cs off (V x).cells) r)
def ldv(ag:Bool)(sz off:Nat)(cs:List AV):AV:=if ag then .agg ((cs.drop off).take sz)else cs.getD off .junk
def binA(op:BinOp):AV->AV->Option AV
 |.int k a,.int k' b=>
  match op with
  |.shl=>need (0<=b) (some (.int k (k.wrap (a*2^(min b.toNat k.bits)))))
  |.shr=>need (0<=b) (some (.int k (a.fdiv (2^(min b.toNat k.bits)))))
  |.add=>need (k=k') (some (.int k (k.wrap (a+b))))
  |.sub=>need (k=k') (some (.int k (k.wrap (a-b))))
  |.mul=>need (k=k') (some (.int k (k.wrap (a*b))))
  |.quo=>need (k=k'/\b≠0) (some (.int k (k.wrap (a.tdiv b))))
  |.rem=>need (k=k'/\b≠0) (some (.int k (a.tmod b)))
  |.and=>need (k=k') (some (.int k (k.wrap (BitVec.ofInt k.bits a &&& BitVec.ofInt k.bits b).toNat)))
  |.or=>need (k=k') (some (.int k (k.wrap (BitVec.ofInt k.bits a ||| BitVec.ofInt k.bits b).toNat)))
  |.xor=>need (k=k') (some (.int k (k.wrap (BitVec.ofInt k.bits a ^^^ BitVec.ofInt k.bits b).toNat)))
  |.andNot=>need (k=k') (some (.int k (k.wrap (BitVec.ofInt k.bits a &&& ~~~ BitVec.ofInt k.bits b).toNat)))
  |.eql=>need (k=k') (some (.bool (a == b)))
  |.neq=>need (k=k') (some (.bool (a != b)))
  |.lss=>need (k=k') (some (.bool (decide (a<b))))
  |.leq=>need (k=k') (some (.bool (decide (a<=b))))
  |.gtr=>need (k=k') (some (.bool (decide (a>b))))
  |.geq=>need (k=k') (some (.bool (decide (a>=b))))
 |.str a,.str b=>
  match op with
  |.add=>need ((a.size+b.size:Nat)<=IntKind.i64.max) (some (.str (a++b)))
  |.eql=>some (.bool (a.toList == b.toList))
  |.neq=>some (.bool !(a.toList == b.toList))
  |_=>none
 |_,_=>none
def unA(op:UnOp):AV->Option AV
 |.int k n=>match op with
  |.neg=>some (.int k (k.wrap (0-n)))
  |_=>none
 |.bool b=>match op with
  |.not=>some (.bool !b)
  |_=>none
 |_=>none
def zgc:AV->Option Nat
 |.int _ n=>need (0<=n) (some n.toNat)
 |_=>none
def zbm(V:Opd->AV)(d:Nat):Option Opd->Option Nat
 |none=>some d
 |some x=>zgc (V x)
def zdx(l:Nat):Option Nat->Option Nat
 |none=>none
 |some c=>some (c-l)
def zjg(id off sz:Nat):Nat->Option Nat->AV
 |0,none=> .sl id off 0 sz none
 |l,c=> .vec [] 0 (zdx l c)
theorem zxz{id off sz l q:Nat}:zjg id off sz l (some q)= .vec [] 0 (some (q-l)):=by cases l<;>rfl
def zdy(V:Opd->AV)(sz:Nat)(x:AV)(lo hi mx:Option Opd):Option AV:=
 match x with
 |.vec cs n c=>
  (zbm V n hi).bind λh=>(zbm V 0 lo).bind λl=>
  match mx with
  |none=>need (l<=h/\h<=n/\n*sz<=cs.length) (some (.vec ((cs.drop (l*sz)).take ((h-l)*sz)) (h-l) (zdx l c)))
  |some m=>(zgc (V m)).bind λm=>need (hi.isSome=true/\l<=h/\h<=m/\m<=n/\n*sz<=cs.length) (some (.vec ((cs.drop (l*sz)).take ((h-l)*sz)) (h-l) (some (m-l))))
 |.sl id off n s c=>
  (zbm V n hi).bind λh=>(zbm V 0 lo).bind λl=>
  match mx with
  |none=>need (s=sz/\l<=h/\h<=n) (some (if l=h then zjg id off sz l c else .sl id (off+l*sz) (h-l) sz (zdx l c)))
  |some m=>(zgc (V m)).bind λm=>need (hi.isSome=true/\s=sz/\l<=h/\h<=m/\m<=n) (some (if l=h then .vec [] 0 (some (m-l))else .sl id (off+l*sz) (h-l) sz (some (m-l))))
 |_=>none
abbrev Res:=AV×Eff×List Nat
def zdr(H:Heap)(sz n:Nat):AV->Option (List AV×List Nat)
 |.vec cs m _=>need (n<=m/\n*sz<=cs.length) (some (cs.take (n*sz),[]))
 |.sl id off m s _=>match getB H id with
  |some cs=>need (s=sz/\n<=m/\off+n*sz<=cs.length) (some ((cs.drop off).take (n*sz),[id]))
  |none=>none
 |_=>none
def lenA:AV->Option Nat
 |.vec _ n _=>some n
 |.sl _ _ n _ _=>some n
 |.str s=>some s.size
 |_=>none
def zmg:List AV->Option (List UInt8)
 | []=>some []
 |.int .u8 n::r=>(zmg r).bind λl=>some (UInt8.ofNat n.toNat::l)
 |_=>none
def zby(n0 fresh:Nat)(H:Heap)(sz bytes:Nat)(s x:AV):Option Res:=
 (lenA x).bind λm=>(zdr H sz m x).bind λxs=>
 (if m=0 then(match s with
  |.vec cs n c=>some (.vec cs n c,[],xs.2)
  |.sl id off n s' c=>some (.sl id off n s' c,[],xs.2)
  |_=>none)
 else match s with
  |.vec cs n c=>need (c=some n/\n*sz<=cs.length/\4*(n+m)*bytes<=2^48/\n+m<2^62)
    (some (.sl fresh 0 (n+m) sz none,[(fresh,some (cs.take (n*sz)++xs.1))],xs.2))
  |.sl id off n s' c=>match getB H id with
   |some cs=>need (s'=sz/\off=0/\n*sz<=cs.length/\4*(n+m)*bytes<=2^48/\n+m<2^62) (
     if c=some n then some (.sl fresh 0 (n+m) sz none,[(fresh,some (cs.take (n*sz)++xs.1))],id::xs.2)
     else need (0<=id/\id≠fresh/\AV.scalL xs.1=true) (some (.sl fresh 0 (n+m) sz none,[(id,none),(fresh,some (cs.take (n*sz)++xs.1))],id::xs.2)))
   |none=>none
  |_=>none)
def apzA(fresh:Nat)(H:Heap)(sz bytes:Nat)(z:List AV)(s x:AV):Option Res:=
 match x with
 |.int _ m=>need (0<m/\z.length=sz/\0<sz) (match s with
  |.vec cs n c=>need (c=some n/\n*sz<=cs.length/\4*(n+m.toNat)*bytes<=2^48/\n+m.toNat<2^62)
    (some (.sl fresh 0 (n+m.toNat) sz none,[(fresh,some (cs.take (n*sz)++zeh m.toNat z))],[]))
  |.sl id off n s' c=>match getB H id with
   |some cs=>need (s'=sz/\off=0/\n*sz<=cs.length/\4*(n+m.toNat)*bytes<=2^48/\n+m.toNat<2^62/\c=some n)
     (some (.sl fresh 0 (n+m.toNat) sz none,[(fresh,some (cs.take (n*sz)++zeh m.toNat z))],[id]))
   |none=>none
  |_=>none)
 |_=>none
def zcz:List IntKind->List AV->List AV->Option Bool
 | [],[],[]=>some true
 |k::ks,.int k1 a::xs,.int k2 b::ys=>need (k1=k/\k2=k) ((zcz ks xs ys).bind λr=>some (a == b && r))
 |_,_,_=>none
def zgs:List (Option IntKind)->List AV->List AV->Option Bool
 | [],[],[]=>some true
 |some k::ks,.int k1 a::xs,.int k2 b::ys=>need (k1=k/\k2=k) ((zgs ks xs ys).bind λr=>some (a == b && r))
 |none::ks,.bool a::xs,.bool b::ys=>(zgs ks xs ys).bind λr=>some (a == b && r)
 |_,_,_=>none
def zka(ks:List IntKind)(key:List AV):Nat->List AV->Option (Option Nat)
 |i,.agg k::_::r=>match zcz ks key k with
  |some true=>some (some i)
  |some false=>zka ks key (i+1) r
  |none=>none
 |_,[]=>(zcz ks key key).bind λ_=>some none
 |_,_=>none
theorem qaz{ks:List IntKind}{key:List AV}{i:Nat}{cs:List AV}{r:Option Nat}(h:zka ks key i cs=some r):zhn cs=true:=by
 unfold zka at h;split at h
 ·rfl
 ·rfl
 ·simp at h
def evK(n0 fresh:Nat)(k:CK)(V:Opd->AV)(H:Heap):Option Res:=
 match k with
 |.mov x=>some (V x,[],[])
 |.pick c a b=>match V c with
  |.bool t=>some (if t then V a else V b,[],[])
  |_=>none
 |.box x=>need ((V x).firm=true) (some (.ptr fresh 0,[(fresh,some (V x).cells)],[]))
 |.build z ps=>(zey V z ps).bind λcs=>some (.agg cs,[],[])
 |.bsl n sz z ps=>(zey V z ps).bind λcs=>need (n*sz=z.length) (some (.sl fresh 0 n sz (some n),[(fresh,some cs)],[]))
 |.load ag sz x=>match V x with
  |.ptr id off=>match getB H id with
   |some cs=>need (off+sz<=cs.length/\(ag=false->sz=1)) (some (ldv ag sz off cs,[],[id]))
   |none=>none
  |.iptr cs p=>need (p+sz<=cs.length/\(ag=false->sz=1)) (some (ldv ag sz p cs,[],[]))
  |_=>none
 |.store sz x v=>match V x with
  |.ptr id off=>match getB H id with
   |some cs=>need ((V v).firm=true/\(V v).cells.length=sz/\AV.scalL (V v).cells=true/\off+sz<=cs.length) (some (.junk,[(id,some (setL cs off (V v).cells))],[id]))
   |none=>none
  |_=>none
 |.nilck x=>match V x with
  |.ptr id off=>some (.ptr id off,[],[])
  |.iptr cs p=>some (.iptr cs p,[],[])
  |_=>none
 |.bin op x y=>(binA op (V x) (V y)).bind λv=>some (v,[],[])
 |.beq neg x y=>match V x,V y with
  |.bool a,.bool b=>some (.bool (if neg then !(a == b)else(a == b)),[],[])
  |_,_=>none
 |.snil neg x=>match V x with
  |.vec _ n _=>if n=0 then some (.anyb,[],[])else some (.bool neg,[],[])
  |.sl .. => some (.bool neg,[],[])
  |_=>none
 |.un op x=>(unA op (V x)).bind λv=>some (v,[],[])
 |.conv k x=>match V x with
  |.int _ n=>some (.int k (k.wrap n),[],[])
  |_=>none
 |.b2s x=>(lenA (V x)).bind λn=>(zdr H 1 n (V x)).bind λxs=>(zmg xs.1).bind λl=>some (.str ⟨l.toArray⟩,[],xs.2)
 |.mksl sz bytes z l c=>match V l,V c with
  |.int _ n,.int _ c=>need (0<=n/\n<=c/\c*bytes<=2^48/\c<2^63/\z.length=sz/\0<sz)
    (some (.sl fresh 0 n.toNat sz (some c.toNat),[(fresh,some (zeh c.toNat z))],[]))
  |_,_=>none
 |.slice sz x lo hi mx=>(zdy V sz (V x) lo hi mx).bind λv=>some (v,[],[])
 |.slarr n sz x lo hi mx=>match V x with
  |.ptr id off=>match getB H id with
   |some cs=>need (off+n*sz<=cs.length) ((zdy V sz (.sl id off n sz (some n)) lo hi mx).bind λv=>some (v,[],[id]))
   |none=>none
  |.iptr cs p=>need (p+n*sz<=cs.length) ((zdy V sz (.vec ((cs.drop p).take (n*sz)) n (some n)) lo hi mx).bind λv=>some (v,[],[]))
  |_=>none
 |.fld off x=>match V x with
  |.ptr id o=>some (.ptr id (o+off),[],[])
  |.iptr cs p=>some (.iptr cs (p+off),[],[])
  |_=>none
 |.part ag sz off x=>match V x with
  |.agg cs=>need (off+sz<=cs.length/\(ag=false->sz=1)) (some (ldv ag sz off cs,[],[]))
  |_=>none
 |.idx sz x i=>match V x,V i with
  |.sl id off n s _,.int _ j=>need (s=sz/\0<=j/\j<n) (some (.ptr id (off+j.toNat*sz),[],[]))
  |.vec cs n _,.int _ j=>need (0<=j/\j<n) (some (.iptr cs (j.toNat*sz),[],[]))
  |_,_=>none
 |.idxa n sz x i=>match V x,V i with
  |.ptr id off,.int _ j=>need (0<=j/\j<n) (some (.ptr id (off+j.toNat*sz),[],[]))
  |.iptr cs p,.int _ j=>need (0<=j/\j<n) (some (.iptr cs (p+j.toNat*sz),[],[]))
  |_,_=>none
 |.idxv n ag sz x i=>match V x,V i with
  |.agg cs,.int _ j=>need (0<=j/\j<n/\j.toNat*sz+sz<=cs.length/\(ag=false->sz=1)) (some (ldv ag sz (j.toNat*sz) cs,[],[]))
  |_,_=>none
 |.idxs x i=>match V x,V i with
  |.str s,.int _ j=>need (0<=j/\j<s.size) (some (.int .u8 (s.data.getD j.toNat 0).toNat,[],[]))
  |_,_=>none
 |.ext x i=>match V x with
  |.tup vs=>match vs[i]? with
   |some v=>some (v,[],[])
   |none=>none
  |_=>none
 |.len st x=>match st,V x with
  |true,.str s=>some (.int .i64 s.size,[],[])
  |false,.vec _ n _=>some (.int .i64 n,[],[])
  |false,.sl _ _ n _ _=>some (.int .i64 n,[],[])
  |_,_=>none
 |.lenk n=>some (.int .i64 n,[],[])
 |.append sz bytes s x=>zby n0 fresh H sz bytes (V s) (V x)
 |.copy sz d s=>match V d with
  |.sl id off n s' _=>match getB H id with
   |some cs=>(lenA (V s)).bind λm=>(zdr H sz (min m n) (V s)).bind λxs=>
     need (s'=sz/\off+n*sz<=cs.length/\AV.scalL xs.1=true)
      (some (.int .i64 (min m n:Nat),[(id,some (setL cs off xs.1))],id::xs.2))
   |none=>none
  |_=>none
 |.max x y=>match V x,V y with
  |.int k a,.int _ b=>some (.int k (if b>a then b else a),[],[])
  |_,_=>none
 |.mkfn f caps=>some (.clo f (caps.map V),[],[])
 |.call .. => none
 |.callc .. => none
 |.aeq neg ks x y=>match V x,V y with
  |.agg xs,.agg ys=>(zgs ks xs ys).bind λr=>some (.bool (if neg then !r else r),[],[])
  |_,_=>none
 |.pnil neg x=>match V x with
  |.ptr .. => some (.bool neg,[],[])
  |.iptr .. => some (.bool neg,[],[])
  |.clo f _=>need (f=131072) (some (.bool !neg,[],[]))
  |_=>none
 |.mkbnd f l=>some (.clo (65536+f) (l.map V),[],[])
 |.mkmap=>some (.clo 131074 [.ptr fresh 0],[(fresh,some [])],[])
 |.mlook ks z x k=>match V x,V k with
  |.clo f [.ptr id p],.agg kk=>match getB H id with
   |some cs=>need (f=131074/\p=0) ((zka ks kk 0 cs).bind λr=>some (match r with | some i=>cs.getD (2*i+1) .junk | none=>z,[],[id]))
   |none=>none
  |_,_=>none
 |.mentry ks z x k=>match V x,V k with
  |.clo f [.ptr id p],.agg kk=>match getB H id with
   |some cs=>need (f=131074/\p=0) ((zka ks kk 0 cs).bind λr=>match r with
    |some i=>some (.tup [cs.getD (2*i+1) .junk,.int .i64 i],[(id,some cs)],[id])
    |none=>need (z.scal=true/\cs.length<2^62) (some (.tup [z,.int .i64 (cs.length/2:Nat)],[(id,some (cs++[.agg kk,z]))],[id])))
   |none=>none
  |_,_=>none
 |.mstore x s v=>match V x,V s with
  |.clo f [.ptr id p],.int _ n=>match getB H id with
   |some cs=>need (f=131074/\p=0/\(V v).scal=true/\0<=n/\2*n.toNat+1<cs.length/\zhn cs=true) (some (.junk,[(id,some (cs.set (2*n.toNat+1) (V v)))],[id]))
   |none=>none
  |_,_=>none
 |.bits64 sub x y z=>match V x,V y,V z with
  |.int .u64 a,.int .u64 b,.int .u64 d=>need (0<=a/\0<=b/\0<=d/\d<=1)
    (some (.tup (if sub then[.int .u64 ((a.toNat+18446744073709551616-b.toNat-d.toNat)%18446744073709551616:Nat),.int .u64 (if a.toNat<b.toNat+d.toNat then 1 else 0:Nat)]
     else[.int .u64 ((a.toNat+b.toNat+d.toNat)%18446744073709551616:Nat),.int .u64 ((a.toNat+b.toNat+d.toNat)/18446744073709551616:Nat)]),[],[]))
  |_,_,_=>none
 |.apz sz bytes z s x=>apzA fresh H sz bytes z (V s) (V x)
 |.clr sz z x=>match V x with
  |.vec _ n _=>need (n=0) (some (.junk,[],[]))
  |.sl id off n s _=>match getB H id with
   |some cs=>need (s=sz/\z.length=sz/\0<sz/\off+n*sz<=cs.length/\AV.scalL (zeh n z)=true) (some (.junk,[(id,some (setL cs off (zeh n z)))],[id]))
   |none=>none
  |_=>none
theorem zsi{n m:Nat}:Nat.blt n m=true↔n<m:=by
 unfold Nat.blt;rw[Nat.ble_eq];exact Iff.rfl
theorem qgw{n m:Nat}(h:m<=n):Nat.blt n m=false:=by
 cases hb:Nat.blt n m with
 |false=>rfl
 |true=>exact absurd (zsi.1 hb) (by omega)
def cloF(f:Nat):Nat:=match Nat.blt f 65536 with
 |true=>f
 |false=>f-65536
def okC(ok:Nat->Bool)(f:Nat):Bool:=ok (cloF f) && Nat.blt f 131072 && !Nat.beq f 4095
theorem zsj{ok ok':Nat->Bool}{f:Nat}(h:∀f,ok f=true->ok' f=true)(hf:okC ok f=true):okC ok' f=true:=by
 simp only[okC,Bool.and_eq_true]at hf ⊢;exact⟨⟨h _ hf.1.1,hf.1.2⟩,hf.2⟩
def cloA(f:Nat)(args caps:List AV):List AV:=match Nat.blt f 65536 with
 |true=>args++caps
 |false=>caps++args
