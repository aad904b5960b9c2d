/- A part of the proof. -/
import Derived.Test.YtpflahgcdgdkjaaGreatDoorAL1
set_option linter.all false
namespace Go.AL
open Go
inductive Opd where
 |t (n:Nat)
 |k (a:AV)
 deriving Inhabited
inductive CK where
 |mov (x:Opd)
 |pick (c a b:Opd)
 |box (x:Opd)
 |build (zero:List AV) (parts:List (Nat×Nat×Opd))
 |bsl (n sz:Nat) (zero:List AV) (parts:List (Nat×Nat×Opd))
 |load (ag:Bool) (sz:Nat) (x:Opd)
 |store (sz:Nat) (x v:Opd)
 |nilck (x:Opd)
 |bin (op:BinOp) (x y:Opd)
 |beq (neg:Bool) (x y:Opd)
 |snil (neg:Bool) (x:Opd)
 |un (op:UnOp) (x:Opd)
 |conv (k:IntKind) (x:Opd)
 |b2s (x:Opd)
 |mksl (sz bytes:Nat) (zero:List AV) (len cap:Opd)
 |slice (sz:Nat) (x:Opd) (lo hi mx:Option Opd)
 |slarr (n sz:Nat) (x:Opd) (lo hi mx:Option Opd)
 |fld (off:Nat) (x:Opd)
 |part (ag:Bool) (sz off:Nat) (x:Opd)
 |idx (sz:Nat) (x i:Opd)
 |idxa (n sz:Nat) (x i:Opd)
 |idxv (n:Nat) (ag:Bool) (sz:Nat) (x i:Opd)
 |idxs (x i:Opd)
 |ext (x:Opd) (i:Nat)
 |len (st:Bool) (x:Opd)
 |lenk (n:Nat)
 |append (sz bytes:Nat) (s x:Opd)
 |copy (sz:Nat) (d s:Opd)
 |max (x y:Opd)
 |mkfn (f:FuncId) (caps:List Opd)
 |call (f:FuncId) (args:List Opd)
 |callc (x:Opd) (args:List Opd)
 |aeq (neg:Bool) (ks:List (Option IntKind)) (x y:Opd)
 |pnil (neg:Bool) (x:Opd)
 |mkbnd (f:FuncId) (first:List Opd)
 |mkmap
 |mlook (ks:List IntKind) (zero:AV) (x k:Opd)
 |mentry (ks:List IntKind) (zero:AV) (x k:Opd)
 |mstore (x st v:Opd)
 |bits64 (sub:Bool) (x y c:Opd)
 |clr (sz:Nat) (zero:List AV) (x:Opd)
 |apz (sz bytes:Nat) (zero:List AV) (s x:Opd)
 deriving Inhabited
structure COp where
 dst:Option Nat
 g:Option (Nat×Bool)
 k:CK
 deriving Inhabited
def zim:Value->Option AV
 |.bool b=>some (.bool b)
 |.int k n=>some (.int k n)
 |.string s=>some (.str s)
 |.slice none 0 0=>some (.vec [] 0 (some 0))
 |.pointer none=>some (.clo 131072 [])
 |.nilFunc=>some (.clo 131073 [])
 |_=>none
def ofV:Value->Option AV
 |.agg cs=>(cs.toList.mapM zim).map .agg
 |v=>zim v
def cOpd(Γ:Glob):Operand->Option Opd
 |.tmp t=>some (.t t)
 |.const v=>(ofV v).map .k
 |.global g=>(Γ.globs.find? (·.1 == g)).map λx=> .k (.iptr x.2 0)
 |.func f=>if f<65536 then some (.k (.clo f []))else none
def zqr(P:Program)(t:TypeId):Option Bool:=
 (P.underlying t).map fun | .struct _ | .array _ _=>true | _=>false
def szT(P:Program)(t:TypeId):Option Nat:=(P.info? t).map (·.size)
def zjy(P:Program)(t:TypeId):Option (List AV):=
 match P.info? t with
 |some i=>match i.zero with
  |some z=>z.cells.toList.mapM zim
  |none=>none
 |none=>none
def qgt(P:Program)(t:TypeId):Option AV:=
 match P.info? t with
 |some i=>match i.zero with
  |some z=>ofV z
  |none=>none
 |none=>none
def ldSz(P:Program)(t:TypeId):Option (Bool×Nat):=
 match zqr P t,szT P t with
 |some true,some s=>some (true,s)
 |some false,some _=>some (false,1)
 |_,_=>none
def qaw(P:Program)(fields:Array Field):Option (List (Nat×Nat)):=
 fields.toList.mapM λf=>(szT P f.type).map λs=>(f.offset,s)
def zqs(P:Program)(t:TypeId):Option (Nat->Option (Nat×Nat)):=
 match P.underlying t with
 |some (.struct fields)=>(qaw P fields).map λl i=>l[i]?
 |some (.array _ elem)=>(szT P elem).map λs i=>some (i*s,s)
 |_=>none
def zmf(Γ:Glob)(pl:Nat->Option (Nat×Nat)):List (Nat×Operand)->Option (List (Nat×Nat×Opd))
 | []=>some []
 |(i,x)::r=>(pl i).bind λp=>(cOpd Γ x).bind λy=>(zmf Γ pl r).bind λl=>some ((p.1,p.2,y)::l)
def zlm(P:Program)(t:TypeId):Option (List IntKind):=
 match P.underlying t with
 |some (.struct fields)=>if P.stoodInHeld t=true\/P.eqGuardType P.depth t=true then none else
  (fields.toList.zipIdx.mapM λx=>if x.1.offset=x.2/\x.1.name≠ "_" then(match P.underlying x.1.type with | some (.int k)=>some k | _=>none)else none)
 |some (.array n el)=>if P.eqGuardType P.depth t=true then none else match P.underlying el,szT P el with
  |some (.int k),some 1=>some (List.replicate n k)
  |_,_=>none
 |_=>none
def zsg(P:Program)(t:TypeId):Option (List (Option IntKind)):=
 match P.underlying t with
 |some (.struct fields)=>if P.stoodInHeld t=true\/P.eqGuardType P.depth t=true then none else
  (fields.toList.zipIdx.mapM λx=>if x.1.offset=x.2/\x.1.name≠ "_" then(match P.underlying x.1.type with | some (.int k)=>some (some k) | some .bool=>some none | _=>none)else none)
 |_=>(zlm P t).map (List.map some)
def zxy(P:Program)(f:FuncId):Bool:=
 match P.funcs[f]? with
 |some fn=>fn.body.isSome && fn.name != "runtime.NumGoroutine"
 |none=>false
def okFn(P:Program)(f:FuncId):Bool:=Nat.beq f 4095 || zxy P f
def zsh(P:Program)(f:FuncId):Option Bool:=
 match P.funcs[f]? with
 |some fn=>if fn.body.isNone && (Extern.findNext fn).isNone then(if fn.name= "math/bits.Add64" then some false else if fn.name= "math/bits.Sub64" then some true else none)else none
 |none=>none
def zeo(P:Program)(Γ:Glob)(o:Op):Option CK:=
 let c:=cOpd Γ
 match o with
 |.move x | .assign x=>(c x).map .mov
 |.pick x a b=>do some (.pick (<-c x) (<-c a) (<-c b))
 |.box _ x=>do some (.box (<-c x))
 |.alloc t=>do
  let z <-qgt P t
  some (.box (.k z))
 |.build t ps=>do
  let z <-zjy P t;let pl <-zqs P t;let ps <-zmf Γ pl ps.toList
  some (.build z ps)
 |.buildSlice t n ps=>do
  let .slice el <-P.underlying t | none
  let s <-szT P el;let z <-zjy P el;let ps <-zmf Γ (λi=>some (i*s,s)) ps.toList
  if s=z.length/\n*s<=2^24 then some (.bsl n s (List.replicate n z).flatten ps)else none
 |.load t a=>do
  let s <-ldSz P t
  some (.load s.1 s.2 (<-c a))
 |.store t a v=>do some (.store (<-szT P t) (<-c a) (<-c v))
 |.nilCheck x=>(c x).map .nilck
 |.binOp op t x y _=>
  match P.underlying t,op with
  |some (.int _),_=>do some (.bin op (<-c x) (<-c y))
  |some .string,_=>do some (.bin op (<-c x) (<-c y))
  |some .bool,.eql=>do some (.beq false (<-c x) (<-c y))
  |some .bool,.neq=>do some (.beq true (<-c x) (<-c y))
  |some (.slice _),.eql=>match y with
   |.const (.slice none 0 0)=>(c x).map (.snil false)
   |_=>none
  |some (.struct _),.eql=>do some (.aeq false (<-zsg P t) (<-c x) (<-c y))
  |some (.struct _),.neq=>do some (.aeq true (<-zsg P t) (<-c x) (<-c y))
  |some (.array _ _),.eql=>do some (.aeq false (<-zsg P t) (<-c x) (<-c y))
  |some (.array _ _),.neq=>do some (.aeq true (<-zsg P t) (<-c x) (<-c y))
  |some (.pointer _),.eql=>match y with
   |.const (.pointer none)=>(c x).map (.pnil false)
   |_=>none
  |some (.pointer _),.neq=>match y with
   |.const (.pointer none)=>(c x).map (.pnil true)
   |_=>none
  |_,_=>none
 |.unOp op _ x=>(c x).map (.un op)
 |.convert src dst x=>
  match P.underlying src,P.underlying dst with
  |some _,some (.int k)=>(c x).map (.conv k)
  |some (.slice e),some .string=>match P.underlying e with
   |some (.int .u8)=>(c x).map .b2s
   |_=>none
  |_,_=>none
 |.makeSlice t l m=>do
  let .slice el <-P.underlying t | none
  let i <-P.info? el
  some (.mksl i.size i.bytes (<-zjy P el) (<-c l) (<-c m))
 |.slice t x lo hi mx=>do
  let x <-c x;let lo <-lo.mapM c;let hi <-hi.mapM c;let mx <-mx.mapM c
  match P.underlying t with
  |some (.slice el)=>some (.slice (<-szT P el) x lo hi mx)
  |some (.array n el)=>some (.slarr n (<-szT P el) x lo hi mx)
  |_=>none
 |.fieldAddr s x f=>
  match P.underlying s with
  |some (.struct fields)=>match fields[f]? with
   |some fd=>do
    let z <-szT P fd.type
    if z=0 then none else some (.fld fd.offset (<-c x))
   |none=>none
  |_=>none
 |.field t x f=>
  match P.underlying t with
  |some (.struct fields)=>match fields[f]? with
   |some fd=>do
    let s <-ldSz P fd.type
    some (.part s.1 s.2 fd.offset (<-c x))
   |none=>none
  |_=>none
 |.indexAddr t x i=>
  match P.underlying t with
  |some (.slice el)=>do some (.idx (<-szT P el) (<-c x) (<-c i))
  |some (.array n el)=>do some (.idxa n (<-szT P el) (<-c x) (<-c i))
  |_=>none
 |.index t x i=>
  match P.underlying t with
  |some (.array n el)=>do
   let s <-ldSz P el;let z <-szT P el;let x <-c x;let i <-c i
   if z=s.2 then some (.idxv n s.1 s.2 x i)else none
  |some .string=>do some (.idxs (<-c x) (<-c i))
  |_=>none
 |.extract x i=>do some (.ext (<-c x) i)
 |.makeFunc (.func f) first caps=>if f<4095 then(if first.isEmpty then do some (.mkfn f (<-caps.toList.mapM c))else if caps.isEmpty then do some (.mkbnd f (<-first.toList.mapM c))else none)else none
 |.makeMap t none=>match P.underlying t with
  |some (.map _ _)=>some .mkmap
  |_=>none
 |.lookup t x k false=>match P.underlying t with
  |some (.map kt el)=>match P.underlying kt with
   |some (.array _ _)=>do some (.mlook (<-zlm P kt) (<-qgt P el) (<-c x) (<-c k))
   |_=>none
  |_=>none
 |.mapEntry t x k=>match P.underlying t with
  |some (.map kt el)=>match P.underlying kt with
   |some (.array _ _)=>do some (.mentry (<-zlm P kt) (<-qgt P el) (<-c x) (<-c k))
   |_=>none
  |_=>none
 |.entryStore _ x s v=>do some (.mstore (<-c x) (<-c s) (<-c v))
 |.call cl=>
  match cl.callee with
  |.builtin .len=>
   match (cl.argTypes[0]?).bind P.underlying,cl.args.toList with
   |some (.slice _),[x]=>(c x).map (.len false)
   |some .string,[x]=>(c x).map (.len true)
   |some (.array n _),[_]=>some (.lenk n)
   |some (.pointer a),[_]=>match P.underlying a with
    |some (.array n _)=>some (.lenk n)
    |_=>none
   |_,_=>none
  |.builtin .append=>
   match (cl.argTypes[0]?).bind P.underlying,(cl.argTypes[1]?).bind P.underlying,cl.args.toList with
   |some (.slice el),some (.slice _),[s,x]=>do
    let i <-P.info? el;let z <-zjy P el
    if z.length=i.size then some (.append i.size i.bytes (<-c s) (<-c x))else none
   |some (.slice el),some (.int _),[s,x]=>do
    let i <-P.info? el;let z <-zjy P el
    if z.length=i.size then some (.apz i.size i.bytes z (<-c s) (<-c x))else none
   |_,_,_=>none
  |.builtin .copy=>
   match (cl.argTypes[0]?).bind P.underlying,cl.args.toList with
   |some (.slice el),[d,s]=>do some (.copy (<-szT P el) (<-c d) (<-c s))
   |_,_=>none
  |.builtin .max=>match cl.args.toList with
   | [x,y]=>do some (.max (<-c x) (<-c y))
   |_=>none
  |.builtin .clear=>
   match (cl.argTypes[0]?).bind P.underlying,cl.args.toList with
   |some (.slice el),[x]=>do some (.clr (<-szT P el) (<-zjy P el) (<-c x))
   |_,_=>none
  |.value (.func f)=>if zxy P f && !Nat.beq f 4095 then do some (.call f (<-cl.args.toList.mapM c))else
   match zsh P f,cl.args.toList with
   |some b,[x,y,z]=>do some (.bits64 b (<-c x) (<-c y) (<-c z))
   |_,_=>none
  |.value (.tmp t)=>do some (.callc (.t t) (<-cl.args.toList.mapM c))
  |_=>none
 |_=>none
inductive CC where
 |skip
 |reg (ops:List COp) (draw:Option (List (Nat×Nat)))
 |seq (a b:CC)
 |cond (c:Opd) (x y:CC)
 |block (id:Nat) (c:CC)
 |loop (c:CC)
 |exit (id:Nat)
 |scope (c:CC)
 |label (l:Nat)
 |goto (l:Nat)
 |ret
 |range (x:Opd) (k:Nat) (ps:List Nat) (a b:CC)
 deriving Inhabited
def CC.flat:CC->Bool
 |.seq a b=>a.flat && b.flat
 |.cond _ a b=>a.flat && b.flat
 |.block _ c=>c.flat
 |.loop c=>c.flat
 |.scope c=>c.flat
 |.range .. => false
 |_=>true
def jex(nt:Nat)(ps:List Nat):Nat:=nt*1024+ps.headD 0
def zjf(ops:Array Oper):Option (Nat×Bool)->Option (Option (Nat×Bool))
 |none=>some none
 |some (j,want)=>match (ops[j]?).bind (·.dst)with
  |some d=>some (some (d,want))
  |none=>none
def qoj(nt:Nat):Option Nat->Bool
 |some d=>decide (d<nt)
 |none=>true
def qgu(P:Program)(Γ:Glob)(nt:Nat)(ops:Array Oper)(o:Oper):Option COp:=
 match zjf ops o.guard,zeo P Γ o.op with
 |some g,some k=>if qoj nt o.dst then some { dst:=o.dst,g:=g,k:=k }else none
 |_,_=>none
def qok(P:Program)(Γ:Glob)(nt:Nat)(ops:Array Oper):Option (List COp):=ops.toList.mapM (qgu P Γ nt ops)
def CK.opds:CK->List Opd
 |.mov x | .box x | .load _ _ x | .nilck x | .snil _ x | .un _ x | .conv _ x | .b2s x | .fld _ x | .part _ _ _ x | .ext x _ | .len _ x=>[x]
 |.pick c a b=>[c,a,b]
 |.build _ ps | .bsl _ _ _ ps=>ps.map (·.2.2)
 |.store _ x y | .bin _ x y | .beq _ x y | .mksl _ _ _ x y | .idx _ x y | .idxa _ _ x y | .idxv _ _ _ x y | .idxs x y | .append _ _ x y | .copy _ x y | .max x y=>[x,y]
 |.slice _ x lo hi mx | .slarr _ _ x lo hi mx=>x::(lo.toList++hi.toList++mx.toList)
 |.lenk _=>[]
 |.mkfn _ l | .call _ l=>l
 |.callc x l=>x::l
 |.aeq _ _ x y | .mlook _ _ x y | .mentry _ _ x y=>[x,y]
 |.pnil _ x=>[x]
 |.mkbnd _ l=>l
 |.mkmap=>[]
 |.mstore x k v=>[x,k,v]
 |.bits64 _ x y z=>[x,y,z]
 |.clr _ _ x=>[x]
 |.apz _ _ _ x y=>[x,y]
def zho:List Opd->List Nat
 | []=>[]
 |.t n::r=>n::zho r
 |.k _::r=>zho r
def COp.reads(o:COp):List Nat:=
 match o.g with
 |some (d,_)=>d::zho o.k.opds
 |none=>zho o.k.opds
def ordB(ops:Array Oper):Nat->Nat->Nat->Bool
 |0,_,_=>false
 |n+1,x,i=>match ops[i]? with
  |some o=>o.after.any λe=>Region.binds .any e && (e.on == x || (Nat.blt x e.on && ordB ops n x e.on))
  |none=>false
def qax(x y:COp):Bool:=
 (match x.dst with
  |some d=>!(y.reads).contains d && y.dst != some d
  |none=>true) &&
 (match y.dst with
  |some d=>!(x.reads).contains d
  |none=>true)
def qay(ops:Array Oper):List (Nat×Nat):=
 (List.range ops.size).flatMap λi=>((List.range i).filter λx=>!ordB ops 5 x i).map λx=>(x,i)
def CK.loud:CK->Bool
 |.box _ | .bsl .. | .load .. | .store .. | .b2s _ | .mksl .. | .slarr .. | .append .. | .copy .. | .call .. | .callc .. | .mkmap | .mlook .. | .mentry .. | .mstore .. | .clr .. | .apz .. => true
 |_=>false
def qgv(ops:Array Oper)(cs:List COp):Bool:=
 (ops.toList.zipIdx.all λ(o,i)=>o.after.all λe=>!Region.binds .any e || decide (e.on<i)) &&
 (qay ops).all λ(x,i)=>match cs[x]?,cs[i]? with
  |some a,some b=>qax a b
  |_,_=>false
def zjz(ops:Array Oper)(cs:List COp):List (Nat×Nat):=
 (qay ops).filter λ(x,i)=>match cs[x]?,cs[i]? with
  |some a,some b=>a.k.loud && b.k.loud
  |_,_=>true
def zdb(P:Program)(Γ:Glob)(nt:Nat):Code->Option CC
 |.skip=>some .skip
 |.region _ ops draw=>match qok P Γ nt ops with
  |some cs=>if draw then(if qgv ops cs then some (.reg cs (some (zjz ops cs)))else none)else some (.reg cs none)
  |none=>none
 |.seq a b=>match zdb P Γ nt a,zdb P Γ nt b with
  |some a,some b=>some (.seq a b)
  |_,_=>none
 |.cond x a b=>match cOpd Γ x,zdb P Γ nt a,zdb P Γ nt b with
  |some x,some a,some b=>some (.cond x a b)
  |_,_,_=>none
 |.block id c=>match zdb P Γ nt c with
  |some c=>some (.block id c)
  |none=>none
 |.loop c=>match zdb P Γ nt c with
  |some c=>some (.loop c)
  |none=>none
 |.exit id=>some (.exit id)
 |.scope c=>match zdb P Γ nt c with
  |some c=>some (.scope c)
  |none=>none
 |.label l=>some (.label l)
 |.goto l=>some (.goto l)
 |.ret=>some .ret
 |.rangeFunc g ps a b=>match cOpd Γ g,zdb P Γ nt a,zdb P Γ nt b with
  |some x,some a,some b=>some (.range x (jex nt ps.toList) ps.toList a b)
  |_,_,_=>none
 |_=>none
