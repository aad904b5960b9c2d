/- A part of the proof. -/
import Derived.Test.YtpflahgcdgdkjaaGreatDoorAL1
set_option linter.all false
namespace Go.AL
open Go
inductive Opd where
 | t (n:Nat)
 | k (a:AV)
 deriving Inhabited
inductive CK where
 | mov (x:Opd)
 | pick (c a b:Opd)
 | box (x:Opd)
 | build (zero:List AV) (parts:List (Nat×Nat×Opd))
 | bsl (n sz:Nat) (zero:List AV) (parts:List (Nat×Nat×Opd))
 | load (ag:Bool) (sz:Nat) (x:Opd)
 | store (sz:Nat) (x v:Opd)
 | nilck (x:Opd)
 | bin (op:BinOp) (x y:Opd)
 | beq (neg:Bool) (x y:Opd)
 | snil (neg:Bool) (x:Opd)
 | un (op:UnOp) (x:Opd)
 | conv (k:IntKind) (x:Opd)
 | b2s (x:Opd)
 | mksl (sz bytes:Nat) (zero:List AV) (len cap:Opd)
 | slice (sz:Nat) (x:Opd) (lo hi mx:Option Opd)
 | slarr (n sz:Nat) (x:Opd) (lo hi mx:Option Opd)
 | fld (off:Nat) (x:Opd)
 | part (ag:Bool) (sz off:Nat) (x:Opd)
 | idx (sz:Nat) (x i:Opd)
 | idxa (n sz:Nat) (x i:Opd)
 | idxv (n:Nat) (ag:Bool) (sz:Nat) (x i:Opd)
 | idxs (x i:Opd)
 | ext (x:Opd) (i:Nat)
 | len (st:Bool) (x:Opd)
 | lenk (n:Nat)
 | append (sz bytes:Nat) (s x:Opd)
 | copy (sz:Nat) (d s:Opd)
 | max (x y:Opd)
 | mkfn (f:FuncId) (caps:List Opd)
 | call (f:FuncId) (args:List Opd)
 | callc (x:Opd) (args:List Opd)
 | aeq (neg:Bool) (ks:List (Option IntKind)) (x y:Opd)
 | pnil (neg:Bool) (x:Opd)
 | mkbnd (f:FuncId) (first:List Opd)
 | mkmap
 | mlook (ks:List IntKind) (zero:AV) (x k:Opd)
 | mentry (ks:List IntKind) (zero:AV) (x k:Opd)
 | mstore (x st v:Opd)
 | bits64 (sub:Bool) (x y c:Opd)
 | clr (sz:Nat) (zero:List AV) (x:Opd)
 | apz (sz bytes:Nat) (zero:List AV) (s x:Opd)
 deriving Inhabited
structure COp where
 dst:Option Nat
 g:Option (Nat×Bool)
 k:CK
 deriving Inhabited
def zhp:Value->Option AV
 | .bool b=>some (.bool b)
 | .int k n=>some (.int k n)
 | .string s=>some (.str s)
 | .slice none 0 0=>some (.vec [] 0 (some 0))
 | .pointer none=>some (.clo 131072 [])
 | .nilFunc=>some (.clo 131073 [])
 | _=>none
def ofV:Value->Option AV
 | .agg cs=>(cs.toList.mapM zhp).map .agg
 | v=>zhp v
def cOpd (Γ:Glob):Operand->Option Opd
 | .tmp t=>some (.t t)
 | .const v=>(ofV v).map .k
 | .global g=>(Γ.globs.find? (·.1 == g)).map fun x=> .k (.iptr x.2 0)
 | .func f=>if f<65536 then some (.k (.clo f [])) else none
def zou (P:Program) (t:TypeId):Option Bool:=
 (P.underlying t).map fun | .struct _ | .array _ _=>true | _=>false
def szT (P:Program) (t:TypeId):Option Nat:=(P.info? t).map (·.size)
def zjg (P:Program) (t:TypeId):Option (List AV):=
 match P.info? t with
 | some i=>match i.zero with
  | some z=>z.cells.toList.mapM zhp
  | none=>none
 | none=>none
def qdn (P:Program) (t:TypeId):Option AV:=
 match P.info? t with
 | some i=>match i.zero with
  | some z=>ofV z
  | none=>none
 | none=>none
def ldSz (P:Program) (t:TypeId):Option (Bool×Nat):=
 match zou P t,szT P t with
 | some true,some s=>some (true,s)
 | some false,some _=>some (false,1)
 | _,_=>none
def zxz (P:Program) (fields:Array Field):Option (List (Nat×Nat)):=
 fields.toList.mapM fun f=>(szT P f.type).map fun s=>(f.offset,s)
def zov (P:Program) (t:TypeId):Option (Nat->Option (Nat×Nat)):=
 match P.underlying t with
 | some (.struct fields)=>(zxz P fields).map fun l i=>l[i]?
 | some (.array _ elem)=>(szT P elem).map fun s i=>some (i*s,s)
 | _=>none
def zld (Γ:Glob) (pl:Nat->Option (Nat×Nat)):List (Nat×Operand)->Option (List (Nat×Nat×Opd))
 | []=>some []
 | (i,x)::r=>(pl i).bind fun p=>(cOpd Γ x).bind fun y=>(zld Γ pl r).bind fun l=>some ((p.1,p.2,y)::l)
def zkq (P:Program) (t:TypeId):Option (List IntKind):=
 match P.underlying t with
 | some (.struct fields)=>if P.stoodInHeld t=true\/P.eqGuardType P.depth t=true then none else
  (fields.toList.zipIdx.mapM fun x=>if x.1.offset=x.2/\x.1.name≠ "_" then (match P.underlying x.1.type with | some (.int k)=>some k | _=>none) else none)
 | some (.array n el)=>if P.eqGuardType P.depth t=true then none else match P.underlying el,szT P el with
  | some (.int k),some 1=>some (List.replicate n k)
  | _,_=>none
 | _=>none
def zqh (P:Program) (t:TypeId):Option (List (Option IntKind)):=
 match P.underlying t with
 | some (.struct fields)=>if P.stoodInHeld t=true\/P.eqGuardType P.depth t=true then none else
  (fields.toList.zipIdx.mapM fun x=>if x.1.offset=x.2/\x.1.name≠ "_" then (match P.underlying x.1.type with | some (.int k)=>some (some k) | some .bool=>some none | _=>none) else none)
 | _=>(zkq P t).map (List.map some)
def zvc (P:Program) (f:FuncId):Bool:=
 match P.funcs[f]? with
 | some fn=>fn.body.isSome && fn.name != "runtime.NumGoroutine"
 | none=>false
def okFn (P:Program) (f:FuncId):Bool:=Nat.beq f 4095 || zvc P f
def zqi (P:Program) (f:FuncId):Option Bool:=
 match P.funcs[f]? with
 | some fn=>if fn.body.isNone && (Extern.findNext fn).isNone then (if fn.name= "math/bits.Add64" then some false else if fn.name= "math/bits.Sub64" then some true else none) else none
 | none=>none
def zeb (P:Program) (Γ:Glob) (o:Op):Option CK:=
 let c:=cOpd Γ
 match o with
 | .move x | .assign x=>(c x).map .mov
 | .pick x a b=>do some (.pick (<-c x) (<-c a) (<-c b))
 | .box _ x=>do some (.box (<-c x))
 | .alloc t=>do
  let z <-qdn P t
  some (.box (.k z))
 | .build t ps=>do
  let z <-zjg P t
  let pl <-zov P t
  let ps <-zld Γ pl ps.toList
  some (.build z ps)
 | .buildSlice t n ps=>do
  let .slice el <-P.underlying t | none
  let s <-szT P el
  let z <-zjg P el
  let ps <-zld Γ (fun i=>some (i*s,s)) ps.toList
  if s=z.length/\n*s<=2^24 then some (.bsl n s (List.replicate n z).flatten ps) else none
 | .load t a=>do
  let s <-ldSz P t
  some (.load s.1 s.2 (<-c a))
 | .store t a v=>do some (.store (<-szT P t) (<-c a) (<-c v))
 | .nilCheck x=>(c x).map .nilck
 | .binOp op t x y _=>
  match P.underlying t,op with
  | some (.int _),_=>do some (.bin op (<-c x) (<-c y))
  | some .string,_=>do some (.bin op (<-c x) (<-c y))
  | some .bool,.eql=>do some (.beq false (<-c x) (<-c y))
  | some .bool,.neq=>do some (.beq true (<-c x) (<-c y))
  | some (.slice _),.eql=>match y with
   | .const (.slice none 0 0)=>(c x).map (.snil false)
   | _=>none
  | some (.struct _),.eql=>do some (.aeq false (<-zqh P t) (<-c x) (<-c y))
  | some (.struct _),.neq=>do some (.aeq true (<-zqh P t) (<-c x) (<-c y))
  | some (.array _ _),.eql=>do some (.aeq false (<-zqh P t) (<-c x) (<-c y))
  | some (.array _ _),.neq=>do some (.aeq true (<-zqh P t) (<-c x) (<-c y))
  | some (.pointer _),.eql=>match y with
   | .const (.pointer none)=>(c x).map (.pnil false)
   | _=>none
  | some (.pointer _),.neq=>match y with
   | .const (.pointer none)=>(c x).map (.pnil true)
   | _=>none
  | _,_=>none
 | .unOp op _ x=>(c x).map (.un op)
 | .convert src dst x=>
  match P.underlying src,P.underlying dst with
  | some _,some (.int k)=>(c x).map (.conv k)
  | some (.slice e),some .string=>match P.underlying e with
   | some (.int .u8)=>(c x).map .b2s
   | _=>none
  | _,_=>none
 | .makeSlice t l m=>do
  let .slice el <-P.underlying t | none
  let i <-P.info? el
  some (.mksl i.size i.bytes (<-zjg P el) (<-c l) (<-c m))
 | .slice t x lo hi mx=>do
  let x <-c x
  let lo <-lo.mapM c
  let hi <-hi.mapM c
  let mx <-mx.mapM c
  match P.underlying t with
  | some (.slice el)=>some (.slice (<-szT P el) x lo hi mx)
  | some (.array n el)=>some (.slarr n (<-szT P el) x lo hi mx)
  | _=>none
 | .fieldAddr s x f=>
  match P.underlying s with
  | some (.struct fields)=>match fields[f]? with
   | some fd=>do
    let z <-szT P fd.type
    if z=0 then none else some (.fld fd.offset (<-c x))
   | none=>none
  | _=>none
 | .field t x f=>
  match P.underlying t with
  | some (.struct fields)=>match fields[f]? with
   | some fd=>do
    let s <-ldSz P fd.type
    some (.part s.1 s.2 fd.offset (<-c x))
   | none=>none
  | _=>none
 | .indexAddr t x i=>
  match P.underlying t with
  | some (.slice el)=>do some (.idx (<-szT P el) (<-c x) (<-c i))
  | some (.array n el)=>do some (.idxa n (<-szT P el) (<-c x) (<-c i))
  | _=>none
 | .index t x i=>
  match P.underlying t with
  | some (.array n el)=>do
   let s <-ldSz P el
   let z <-szT P el
   let x <-c x
   let i <-c i
   if z=s.2 then some (.idxv n s.1 s.2 x i) else none
  | some .string=>do some (.idxs (<-c x) (<-c i))
  | _=>none
 | .extract x i=>do some (.ext (<-c x) i)
 | .makeFunc (.func f) first caps=>if f<4095 then (if first.isEmpty then do some (.mkfn f (<-caps.toList.mapM c)) else if caps.isEmpty then do some (.mkbnd f (<-first.toList.mapM c)) else none) else none
 | .makeMap t none=>match P.underlying t with
  | some (.map _ _)=>some .mkmap
  | _=>none
 | .lookup t x k false=>match P.underlying t with
  | some (.map kt el)=>match P.underlying kt with
   | some (.array _ _)=>do some (.mlook (<-zkq P kt) (<-qdn P el) (<-c x) (<-c k))
   | _=>none
  | _=>none
 | .mapEntry t x k=>match P.underlying t with
  | some (.map kt el)=>match P.underlying kt with
   | some (.array _ _)=>do some (.mentry (<-zkq P kt) (<-qdn P el) (<-c x) (<-c k))
   | _=>none
  | _=>none
 | .entryStore _ x s v=>do some (.mstore (<-c x) (<-c s) (<-c v))
 | .call cl=>
  match cl.callee with
  | .builtin .len=>
   match (cl.argTypes[0]?).bind P.underlying,cl.args.toList with
   | some (.slice _),[x]=>(c x).map (.len false)
   | some .string,[x]=>(c x).map (.len true)
   | some (.array n _),[_]=>some (.lenk n)
   | some (.pointer a),[_]=>match P.underlying a with
    | some (.array n _)=>some (.lenk n)
    | _=>none
   | _,_=>none
  | .builtin .append=>
   match (cl.argTypes[0]?).bind P.underlying,(cl.argTypes[1]?).bind P.underlying,cl.args.toList with
   | some (.slice el),some (.slice _),[s,x]=>do
    let i <-P.info? el
    let z <-zjg P el
    if z.length=i.size then some (.append i.size i.bytes (<-c s) (<-c x)) else none
   | some (.slice el),some (.int _),[s,x]=>do
    let i <-P.info? el
    let z <-zjg P el
    if z.length=i.size then some (.apz i.size i.bytes z (<-c s) (<-c x)) else none
   | _,_,_=>none
  | .builtin .copy=>
   match (cl.argTypes[0]?).bind P.underlying,cl.args.toList with
   | some (.slice el),[d,s]=>do some (.copy (<-szT P el) (<-c d) (<-c s))
   | _,_=>none
  | .builtin .max=>match cl.args.toList with
   | [x,y]=>do some (.max (<-c x) (<-c y))
   | _=>none
  | .builtin .clear=>
   match (cl.argTypes[0]?).bind P.underlying,cl.args.toList with
   | some (.slice el),[x]=>do some (.clr (<-szT P el) (<-zjg P el) (<-c x))
   | _,_=>none
  | .value (.func f)=>if zvc P f && !Nat.beq f 4095 then do some (.call f (<-cl.args.toList.mapM c)) else
   match zqi P f,cl.args.toList with
   | some b,[x,y,z]=>do some (.bits64 b (<-c x) (<-c y) (<-c z))
   | _,_=>none
  | .value (.tmp t)=>do some (.callc (.t t) (<-cl.args.toList.mapM c))
  | _=>none
 | _=>none
inductive CC where
 | skip
 | reg (ops:List COp) (draw:Option (List (Nat×Nat)))
 | seq (a b:CC)
 | cond (c:Opd) (x y:CC)
 | block (id:Nat) (c:CC)
 | loop (c:CC)
 | exit (id:Nat)
 | scope (c:CC)
 | label (l:Nat)
 | goto (l:Nat)
 | ret
 | range (x:Opd) (k:Nat) (ps:List Nat) (a b:CC)
 deriving Inhabited
def CC.flat:CC->Bool
 | .seq a b=>a.flat && b.flat
 | .cond _ a b=>a.flat && b.flat
 | .block _ c=>c.flat
 | .loop c=>c.flat
 | .scope c=>c.flat
 | .range .. => false
 | _=>true
def jap (nt:Nat) (ps:List Nat):Nat:=nt*1024+ps.headD 0
def zio (ops:Array Oper):Option (Nat×Bool)->Option (Option (Nat×Bool))
 | none=>some none
 | some (j,want)=>match (ops[j]?).bind (·.dst) with
  | some d=>some (some (d,want))
  | none=>none
def qkp (nt:Nat):Option Nat->Bool
 | some d=>decide (d<nt)
 | none=>true
def qdo (P:Program) (Γ:Glob) (nt:Nat) (ops:Array Oper) (o:Oper):Option COp:=
 match zio ops o.guard,zeb P Γ o.op with
 | some g,some k=>if qkp nt o.dst then some { dst:=o.dst,g:=g,k:=k } else none
 | _,_=>none
def qse (P:Program) (Γ:Glob) (nt:Nat) (ops:Array Oper):Option (List COp):=ops.toList.mapM (qdo P Γ nt ops)
def CK.opds:CK->List Opd
 | .mov x | .box x | .load _ _ x | .nilck x | .snil _ x | .un _ x | .conv _ x | .b2s x | .fld _ x | .part _ _ _ x | .ext x _ | .len _ x=>[x]
 | .pick c a b=>[c,a,b]
 | .build _ ps | .bsl _ _ _ ps=>ps.map (·.2.2)
 | .store _ x y | .bin _ x y | .beq _ x y | .mksl _ _ _ x y | .idx _ x y | .idxa _ _ x y | .idxv _ _ _ x y | .idxs x y | .append _ _ x y | .copy _ x y | .max x y=>[x,y]
 | .slice _ x lo hi mx | .slarr _ _ x lo hi mx=>x::(lo.toList++hi.toList++mx.toList)
 | .lenk _=>[]
 | .mkfn _ l | .call _ l=>l
 | .callc x l=>x::l
 | .aeq _ _ x y | .mlook _ _ x y | .mentry _ _ x y=>[x,y]
 | .pnil _ x=>[x]
 | .mkbnd _ l=>l
 | .mkmap=>[]
 | .mstore x k v=>[x,k,v]
 | .bits64 _ x y z=>[x,y,z]
 | .clr _ _ x=>[x]
 | .apz _ _ _ x y=>[x,y]
def zgt:List Opd->List Nat
 | []=>[]
 | .t n::r=>n::zgt r
 | .k _::r=>zgt r
def COp.reads (o:COp):List Nat:=
 match o.g with
 | some (d,_)=>d::zgt o.k.opds
 | none=>zgt o.k.opds
def ordB (ops:Array Oper):Nat->Nat->Nat->Bool
 | 0,_,_=>false
 | n+1,x,i=>match ops[i]? with
  | some o=>o.after.any fun e=>Region.binds .any e && (e.on == x || (Nat.blt x e.on && ordB ops n x e.on))
  | none=>false
def zya (x y:COp):Bool:=
 (match x.dst with
  | some d=>!(y.reads).contains d && y.dst != some d
  | none=>true) &&
 (match y.dst with
  | some d=>!(x.reads).contains d
  | none=>true)
def zyb (ops:Array Oper):List (Nat×Nat):=
 (List.range ops.size).flatMap fun i=>((List.range i).filter fun x=>!ordB ops 5 x i).map fun x=>(x,i)
def CK.loud:CK->Bool
 | .box _ | .bsl .. | .load .. | .store .. | .b2s _ | .mksl .. | .slarr .. | .append .. | .copy .. | .call .. | .callc .. | .mkmap | .mlook .. | .mentry .. | .mstore .. | .clr .. | .apz .. => true
 | _=>false
def qdp (ops:Array Oper) (cs:List COp):Bool:=
 (ops.toList.zipIdx.all fun (o,i)=>o.after.all fun e=>!Region.binds .any e || decide (e.on<i)) &&
 (zyb ops).all fun (x,i)=>match cs[x]?,cs[i]? with
  | some a,some b=>zya a b
  | _,_=>false
def zjh (ops:Array Oper) (cs:List COp):List (Nat×Nat):=
 (zyb ops).filter fun (x,i)=>match cs[x]?,cs[i]? with
  | some a,some b=>a.k.loud && b.k.loud
  | _,_=>true
def zcz (P:Program) (Γ:Glob) (nt:Nat):Code->Option CC
 | .skip=>some .skip
 | .region _ ops draw=>match qse P Γ nt ops with
  | some cs=>if draw then (if qdp ops cs then some (.reg cs (some (zjh ops cs))) else none) else some (.reg cs none)
  | none=>none
 | .seq a b=>match zcz P Γ nt a,zcz P Γ nt b with
  | some a,some b=>some (.seq a b)
  | _,_=>none
 | .cond x a b=>match cOpd Γ x,zcz P Γ nt a,zcz P Γ nt b with
  | some x,some a,some b=>some (.cond x a b)
  | _,_,_=>none
 | .block id c=>match zcz P Γ nt c with
  | some c=>some (.block id c)
  | none=>none
 | .loop c=>match zcz P Γ nt c with
  | some c=>some (.loop c)
  | none=>none
 | .exit id=>some (.exit id)
 | .scope c=>match zcz P Γ nt c with
  | some c=>some (.scope c)
  | none=>none
 | .label l=>some (.label l)
 | .goto l=>some (.goto l)
 | .ret=>some .ret
 | .rangeFunc g ps a b=>match cOpd Γ g,zcz P Γ nt a,zcz P Γ nt b with
  | some x,some a,some b=>some (.range x (jap nt ps.toList) ps.toList a b)
  | _,_,_=>none
 | _=>none
end Go.AL
