/- A part of the proof. -/
import Derived.Test.YtpflahgcdgdkjaaGreatDoorAL22
set_option linter.all false
namespace Go.AL
open Go
section
variable{P:Program}{Γ:Glob}{n0 nt:Nat}{E:Env}{H:Heap}{d:Option Nat}{os:List COp}{Q:List FP->Env->Heap->Prop}
abbrev goon(P:Program)(Γ:Glob)(n0:Nat)(d:Option Nat)(os:List COp)(E:Env)(H:Heap)(Q:List FP->Env->Heap->Prop)(v:AV):Prop:=
 regA P Γ n0 os (updO E d v) H λl=>Q (([],[])::l)
theorem jcb{x:Opd}:regA P Γ n0 (⟨d,none,.mov x⟩::os) E H Q=goon P Γ n0 d os E H Q (val E x):=by
 rw[zbu rfl];simp[evK,zaq,zad,keys,cntK]
def qic(c a b:AV):Option AV:=match c with
 |.bool t=>some (if t then a else b)
 |_=>none
theorem qws{c a b:Opd}:regA P Γ n0 (⟨d,none,.pick c a b⟩::os) E H Q=zax (qic (val E c) (val E a) (val E b)) (goon P Γ n0 d os E H Q):=by
 rw[zbu rfl];simp only[evK,qic];cases val E c<;>simp[zax,zad,keys,cntK]
theorem jcc{x:Opd}:regA P Γ n0 (⟨d,none,.box x⟩::os) E H Q=
  ((val E x).firm=true/\regA P Γ n0 os (updO E d (.ptr H.length 0)) (H++[some (val E x).cells]) λl=>Q (([],[H.length])::l)):=by
 rw[zbu rfl];simp[evK,zbo,zaq,zad,keys,cntK]
theorem qpl{z:List AV}{ps:List (Nat×Nat×Opd)}:regA P Γ n0 (⟨d,none,.build z ps⟩::os) E H Q=zax (zey (val E) z ps) λcs=>goon P Γ n0 d os E H Q (.agg cs):=by
 rw[zbu rfl];simp only[evK];cases zey (val E) z ps<;>simp[zax,zad,keys,cntK]
theorem jcd{n sz:Nat}{z:List AV}{ps:List (Nat×Nat×Opd)}:regA P Γ n0 (⟨d,none,.bsl n sz z ps⟩::os) E H Q=
  zax (zey (val E) z ps) λcs=>n*sz=z.length/\regA P Γ n0 os (updO E d (.sl H.length 0 n sz (some n))) (H++[some cs]) λl=>Q (([],[H.length])::l):=by
 rw[zbu rfl];simp only[evK];cases zey (val E) z ps<;>simp[zbo,zci,zaq,zbx,zad,keys,cntK,goon]
def ldA(ag:Bool)(sz:Nat)(x:AV)(H:Heap):Option (AV×List Nat):=match x with
 |.ptr id off=>(getB H id).bind λcs=>need (off+sz<=cs.length) (some (ldv ag sz off cs,[id]))
 |.iptr cs p=>need (p+sz<=cs.length) (some (ldv ag sz p cs,[]))
 |_=>none
theorem qwt{ag:Bool}{sz:Nat}{x:Opd}:regA P Γ n0 (⟨d,none,.load ag sz x⟩::os) E H Q=
  ((ag=false->sz=1)/\zax (ldA ag sz (val E x) H) λr=>regA P Γ n0 os (updO E d r.1) H λl=>Q ((r.2,[])::l)):=by
 rw[zbu rfl];simp only[evK,ldA];cases val E x<;>try (simp[zbo,zci,zaq,zbx,zad,keys,cntK,goon];done)
 case ptr id off=>
  cases hg:getB H id with
  |none=>simp[hg,zbx]
  |some cs=>
   simp[hg,zbo,zaq,zad,keys,cntK];exact⟨λh=>⟨h.1.2,h.1.1,h.2⟩,λh=>⟨⟨h.2.1,h.1⟩,h.2.2⟩⟩
 case iptr cs p=>
  simp[zbo,zci,zaq,zbx,zad,keys,cntK,goon];exact⟨λh=>⟨h.1.2,h.1.1,h.2⟩,λh=>⟨⟨h.2.1,h.1⟩,h.2.2⟩⟩
def stA(sz:Nat)(x v:AV)(H:Heap):Option (Nat×List AV):=match x with
 |.ptr id off=>(getB H id).bind λcs=>need (v.firm=true/\v.cells.length=sz/\AV.scalL v.cells=true/\off+sz<=cs.length) (some (id,setL cs off v.cells))
 |_=>none
theorem qpm{sz:Nat}{x v:Opd}:regA P Γ n0 (⟨none,none,.store sz x v⟩::os) E H Q=
  zax (stA sz (val E x) (val E v) H) λr=>regA P Γ n0 os E (H.set r.1 (some r.2)) λl=>Q (([r.1],[r.1])::l):=by
 rw[zbu rfl];simp only[evK,stA];cases val E x<;>try (simp[zbo,zci,zaq,zbx,zad,keys,cntK,goon];done)
 case ptr id off=>
  cases hg:getB H id with
  |none=>simp[hg,zbx]
  |some cs=>simp[hg,zbo,zaq,zad,keys,cntK,updO]
def nilA:AV->Option AV
 |.ptr id off=>some (.ptr id off)
 |.iptr cs p=>some (.iptr cs p)
 |_=>none
theorem qpn{x:Opd}:regA P Γ n0 (⟨d,none,.nilck x⟩::os) E H Q=zax (nilA (val E x)) (goon P Γ n0 d os E H Q):=by
 rw[zbu rfl];simp only[evK,nilA];cases val E x<;>simp[zax,zad,keys,cntK]
theorem jce{op:BinOp}{x y:Opd}:regA P Γ n0 (⟨d,none,.bin op x y⟩::os) E H Q=zax (binA op (val E x) (val E y)) (goon P Γ n0 d os E H Q):=by
 rw[zbu rfl];simp only[evK];cases binA op (val E x) (val E y)<;>simp[zax,zad,keys,cntK]
def beqA(neg:Bool):AV->AV->Option AV
 |.bool a,.bool b=>some (.bool (if neg then !(a == b)else(a == b)))
 |_,_=>none
theorem jcf{neg:Bool}{x y:Opd}:regA P Γ n0 (⟨d,none,.beq neg x y⟩::os) E H Q=zax (beqA neg (val E x) (val E y)) (goon P Γ n0 d os E H Q):=by
 rw[zbu rfl];simp only[evK,beqA];cases val E x<;>cases val E y<;>simp[zax,zad,keys,cntK]
def zyt(neg:Bool):AV->Option AV
 |.vec _ n _=>if n=0 then some .anyb else some (.bool neg)
 |.sl .. => some (.bool neg)
 |_=>none
theorem qwu{neg:Bool}{x:Opd}:regA P Γ n0 (⟨d,none,.snil neg x⟩::os) E H Q=zax (zyt neg (val E x)) (goon P Γ n0 d os E H Q):=by
 rw[zbu rfl];simp only[evK,zyt];cases val E x<;>try (simp[zbo,zci,zaq,zbx,zad,keys,cntK,goon];done)
 rename_i cs n c;by_cases h:n=0<;>simp[h,zaq,zad,keys,cntK,goon]
theorem jez{op:UnOp}{x:Opd}:regA P Γ n0 (⟨d,none,.un op x⟩::os) E H Q=zax (unA op (val E x)) (goon P Γ n0 d os E H Q):=by
 rw[zbu rfl];simp only[evK];cases unA op (val E x)<;>simp[zax,zad,keys,cntK]
def qid(k:IntKind):AV->Option AV
 |.int _ n=>some (.int k (k.wrap n))
 |_=>none
theorem qwv{k:IntKind}{x:Opd}:regA P Γ n0 (⟨d,none,.conv k x⟩::os) E H Q=zax (qid k (val E x)) (goon P Γ n0 d os E H Q):=by
 rw[zbu rfl];simp only[evK,qid];cases val E x<;>simp[zax,zad,keys,cntK]
def qie(bytes:Nat):AV->AV->Option (Int×Int)
 |.int _ n,.int _ c=>need (0<=n/\n<=c/\c*bytes<=2^48/\c<2^63) (some (n,c))
 |_,_=>none
theorem qww{sz bytes:Nat}{z:List AV}{x y:Opd}:regA P Γ n0 (⟨d,none,.mksl sz bytes z x y⟩::os) E H Q=
  ((z.length=sz/\0<sz)/\zax (qie bytes (val E x) (val E y)) λr=>regA P Γ n0 os (updO E d (.sl H.length 0 r.1.toNat sz (some r.2.toNat))) (H++[some (zeh r.2.toNat z)]) λl=>Q (([],[H.length])::l)):=by
 rw[zbu rfl];simp only[evK,qie];cases val E x<;>try (simp[zbo,zci,zaq,zbx,zad,keys,cntK,goon];done)
 case int k n=>
  cases val E y<;>try (simp[zbo,zci,zaq,zbx,zad,keys,cntK,goon];done)
  case int k' c=>
   simp[zbo,zci,zaq,zbx,zad,keys,cntK,goon];constructor
   ·rintro⟨⟨h1,h2,h3,h4,h5,h6⟩,h7⟩;exact⟨⟨h5,h6⟩,⟨h1,h2,h3,h4⟩,h7⟩
   ·rintro⟨⟨h5,h6⟩,⟨h1,h2,h3,h4⟩,h7⟩;exact⟨⟨h1,h2,h3,h4,h5,h6⟩,h7⟩
theorem qpo{sz:Nat}{x:Opd}{lo hi mx:Option Opd}:regA P Γ n0 (⟨d,none,.slice sz x lo hi mx⟩::os) E H Q=zax (zdy (val E) sz (val E x) lo hi mx) (goon P Γ n0 d os E H Q):=by
 rw[zbu rfl];simp only[evK];cases zdy (val E) sz (val E x) lo hi mx<;>simp[zax,zad,keys,cntK]
def fldA(off:Nat):AV->Option AV
 |.ptr id o=>some (.ptr id (o+off))
 |.iptr cs p=>some (.iptr cs (p+off))
 |_=>none
theorem jcg{off:Nat}{x:Opd}:regA P Γ n0 (⟨d,none,.fld off x⟩::os) E H Q=zax (fldA off (val E x)) (goon P Γ n0 d os E H Q):=by
 rw[zbu rfl];simp only[evK,fldA];cases val E x<;>simp[zax,zad,keys,cntK]
def qif(ag:Bool)(sz off:Nat):AV->Option AV
 |.agg cs=>need (off+sz<=cs.length/\(ag=false->sz=1)) (some (ldv ag sz off cs))
 |_=>none
theorem qwx{ag:Bool}{sz off:Nat}{x:Opd}:regA P Γ n0 (⟨d,none,.part ag sz off x⟩::os) E H Q=zax (qif ag sz off (val E x)) (goon P Γ n0 d os E H Q):=by
 rw[zbu rfl];simp only[evK,qif];cases val E x<;>simp[zbo,zci,zaq,zbx,zad,keys,cntK,goon]
def idxA(sz:Nat):AV->AV->Option AV
 |.sl id off n s _,.int _ j=>need (s=sz/\0<=j/\j<n) (some (.ptr id (off+j.toNat*sz)))
 |.vec cs n _,.int _ j=>need (0<=j/\j<n) (some (.iptr cs (j.toNat*sz)))
 |_,_=>none
theorem jch{sz:Nat}{x i:Opd}:regA P Γ n0 (⟨d,none,.idx sz x i⟩::os) E H Q=zax (idxA sz (val E x) (val E i)) (goon P Γ n0 d os E H Q):=by
 rw[zbu rfl];simp only[evK,idxA];cases val E x<;>cases val E i<;>simp[zbo,zci,zaq,zbx,zad,keys,cntK,goon]
def zyu(n sz:Nat):AV->AV->Option AV
 |.ptr id off,.int _ j=>need (0<=j/\j<n) (some (.ptr id (off+j.toNat*sz)))
 |.iptr cs p,.int _ j=>need (0<=j/\j<n) (some (.iptr cs (p+j.toNat*sz)))
 |_,_=>none
theorem qwy{n sz:Nat}{x i:Opd}:regA P Γ n0 (⟨d,none,.idxa n sz x i⟩::os) E H Q=zax (zyu n sz (val E x) (val E i)) (goon P Γ n0 d os E H Q):=by
 rw[zbu rfl];simp only[evK,zyu];cases val E x<;>cases val E i<;>simp[zbo,zci,zaq,zbx,zad,keys,cntK,goon]
def qig(n:Nat)(ag:Bool)(sz:Nat):AV->AV->Option AV
 |.agg cs,.int _ j=>need (0<=j/\j<n/\j.toNat*sz+sz<=cs.length/\(ag=false->sz=1)) (some (ldv ag sz (j.toNat*sz) cs))
 |_,_=>none
theorem qwz{n sz:Nat}{ag:Bool}{x i:Opd}:regA P Γ n0 (⟨d,none,.idxv n ag sz x i⟩::os) E H Q=zax (qig n ag sz (val E x) (val E i)) (goon P Γ n0 d os E H Q):=by
 rw[zbu rfl];simp only[evK,qig];cases val E x<;>cases val E i<;>simp[zbo,zci,zaq,zbx,zad,keys,cntK,goon]
def qih:AV->AV->Option AV
 |.str s,.int _ j=>need (0<=j/\j<s.size) (some (.int .u8 (s.data.getD j.toNat 0).toNat))
 |_,_=>none
theorem qxa{x i:Opd}:regA P Γ n0 (⟨d,none,.idxs x i⟩::os) E H Q=zax (qih (val E x) (val E i)) (goon P Γ n0 d os E H Q):=by
 rw[zbu rfl];simp only[evK,qih];cases val E x<;>cases val E i<;>simp[zbo,zci,zaq,zbx,zad,keys,cntK,goon]
def extA(i:Nat):AV->Option AV
 |.tup vs=>vs[i]?
 |_=>none
theorem jci{x:Opd}{i:Nat}:regA P Γ n0 (⟨d,none,.ext x i⟩::os) E H Q=zax (extA i (val E x)) (goon P Γ n0 d os E H Q):=by
 rw[zbu rfl];simp only[evK,extA];cases val E x<;>simp[zax];rename_i vs;cases vs[i]?<;>simp[zad,keys,cntK]
def zyv:AV->Option AV
 |.vec _ n _=>some (.int .i64 n)
 |.sl _ _ n _ _=>some (.int .i64 n)
 |_=>none
theorem jcj{x:Opd}:regA P Γ n0 (⟨d,none,.len false x⟩::os) E H Q=zax (zyv (val E x)) (goon P Γ n0 d os E H Q):=by
 rw[zbu rfl];simp only[evK,zyv];cases val E x<;>simp[zax,zad,keys,cntK]
def zvt:AV->Option AV
 |.str s=>some (.int .i64 s.size)
 |_=>none
theorem qxb{x:Opd}:regA P Γ n0 (⟨d,none,.len true x⟩::os) E H Q=zax (zvt (val E x)) (goon P Γ n0 d os E H Q):=by
 rw[zbu rfl];simp only[evK,zvt];cases val E x<;>simp[zax,zad,keys,cntK]
theorem qxc{n:Nat}:regA P Γ n0 (⟨d,none,.lenk n⟩::os) E H Q=goon P Γ n0 d os E H Q (.int .i64 n):=by
 rw[zbu rfl];simp[evK,zaq,zad,keys,cntK]
def maxA:AV->AV->Option AV
 |.int k a,.int _ b=>some (.int k (if b>a then b else a))
 |_,_=>none
theorem jck{x y:Opd}:regA P Γ n0 (⟨d,none,.max x y⟩::os) E H Q=zax (maxA (val E x) (val E y)) (goon P Γ n0 d os E H Q):=by
 rw[zbu rfl];simp only[evK,maxA];cases val E x<;>cases val E y<;>simp[zax,zad,keys,cntK]
theorem qxd{f:FuncId}{caps:List Opd}:regA P Γ n0 (⟨d,none,.mkfn f caps⟩::os) E H Q=goon P Γ n0 d os E H Q (.clo f (caps.map (val E))):=by
 rw[zbu rfl];simp[evK,zaq,zad,keys,cntK]
theorem qii{sz bytes:Nat}{s x:Opd}:regA P Γ n0 (⟨d,none,.append sz bytes s x⟩::os) E H Q=
  zax (zby n0 H.length H sz bytes (val E s) (val E x)) λr=>regA P Γ n0 os (updO E d r.1) (zad r.2.1 (H++[none])) λl=>Q ((r.2.2,keys r.2.1)::l):=by
 rw[zbu rfl];simp[evK,cntK]
theorem qpp{k:CK}(hk:k.isCall=false)(hc:cntK k=0):regA P Γ n0 (⟨d,none,k⟩::os) E H Q=
  zax (evK n0 H.length k (val E) H) λr=>regA P Γ n0 os (updO E d r.1) (zad r.2.1 H) λl=>Q ((r.2.2,keys r.2.1)::l):=by
 rw[zbu hk];simp[hc]
theorem zoo{cs:List AV}:getB (some cs::H) 0=some cs:=rfl
theorem qij{c:Option (List AV)}{n:Nat}:getB (c::H) (n+1)=getB H n:=rfl
theorem zvu{args:List AV}{t:Nat}:zjc args t=args.getD t .junk:=rfl
