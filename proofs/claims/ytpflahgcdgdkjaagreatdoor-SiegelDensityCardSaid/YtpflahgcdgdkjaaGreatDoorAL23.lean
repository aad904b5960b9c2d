/- A part of the proof. -/
import Derived.Test.YtpflahgcdgdkjaaGreatDoorAL22
set_option linter.all false
namespace Go.AL
open Go
section
variable {P:Program} {Γ:Glob} {n0 nt:Nat} {E:Env} {H:Heap} {d:Option Nat} {os:List COp} {Q:List FP->Env->Heap->Prop}
abbrev goon (P:Program) (Γ:Glob) (n0:Nat) (d:Option Nat) (os:List COp) (E:Env) (H:Heap) (Q:List FP->Env->Heap->Prop) (v:AV):Prop:=
 regA P Γ n0 os (updO E d v) H fun l=>Q (([],[])::l)
theorem qxz {x:Opd}:regA P Γ n0 (⟨d,none,.mov x⟩::os) E H Q=goon P Γ n0 d os E H Q (val E x):=by
 rw [zbl rfl];simp [evK,zao,zad,keys,cntK]
def qew (c a b:AV):Option AV:=match c with
 | .bool t=>some (if t then a else b)
 | _=>none
theorem qsx {c a b:Opd}:regA P Γ n0 (⟨d,none,.pick c a b⟩::os) E H Q=zau (qew (val E c) (val E a) (val E b)) (goon P Γ n0 d os E H Q):=by
 rw [zbl rfl];simp only [evK,qew];cases val E c<;>simp [zau,zad,keys,cntK]
theorem qya {x:Opd}:regA P Γ n0 (⟨d,none,.box x⟩::os) E H Q=
  ((val E x).firm=true/\regA P Γ n0 os (updO E d (.ptr H.length 0)) (H++[some (val E x).cells]) fun l=>Q (([],[H.length])::l)):=by
 rw [zbl rfl];simp [evK,zbe,zao,zad,keys,cntK]
theorem qlr {z:List AV} {ps:List (Nat×Nat×Opd)}:regA P Γ n0 (⟨d,none,.build z ps⟩::os) E H Q=zau (zel (val E) z ps) fun cs=>goon P Γ n0 d os E H Q (.agg cs):=by
 rw [zbl rfl];simp only [evK];cases zel (val E) z ps<;>simp [zau,zad,keys,cntK]
theorem qyb {n sz:Nat} {z:List AV} {ps:List (Nat×Nat×Opd)}:regA P Γ n0 (⟨d,none,.bsl n sz z ps⟩::os) E H Q=
  zau (zel (val E) z ps) fun cs=>n*sz=z.length/\regA P Γ n0 os (updO E d (.sl H.length 0 n sz (some n))) (H++[some cs]) fun l=>Q (([],[H.length])::l):=by
 rw [zbl rfl];simp only [evK];cases zel (val E) z ps<;>simp [zbe,zbt,zao,zbk,zad,keys,cntK,goon]
def ldA (ag:Bool) (sz:Nat) (x:AV) (H:Heap):Option (AV×List Nat):=match x with
 | .ptr id off=>(getB H id).bind fun cs=>need (off+sz<=cs.length) (some (ldv ag sz off cs,[id]))
 | .iptr cs p=>need (p+sz<=cs.length) (some (ldv ag sz p cs,[]))
 | _=>none
theorem qsy {ag:Bool} {sz:Nat} {x:Opd}:regA P Γ n0 (⟨d,none,.load ag sz x⟩::os) E H Q=
  ((ag=false->sz=1)/\zau (ldA ag sz (val E x) H) fun r=>regA P Γ n0 os (updO E d r.1) H fun l=>Q ((r.2,[])::l)):=by
 rw [zbl rfl]
 simp only [evK,ldA]
 cases val E x<;>try (simp [zbe,zbt,zao,zbk,zad,keys,cntK,goon];done)
 case ptr id off=>
  cases hg:getB H id with
  | none=>simp [hg,zbk]
  | some cs=>
   simp [hg,zbe,zao,zad,keys,cntK]
   exact ⟨fun h=>⟨h.1.2,h.1.1,h.2⟩,fun h=>⟨⟨h.2.1,h.1⟩,h.2.2⟩⟩
 case iptr cs p=>
  simp [zbe,zbt,zao,zbk,zad,keys,cntK,goon]
  exact ⟨fun h=>⟨h.1.2,h.1.1,h.2⟩,fun h=>⟨⟨h.2.1,h.1⟩,h.2.2⟩⟩
def stA (sz:Nat) (x v:AV) (H:Heap):Option (Nat×List AV):=match x with
 | .ptr id off=>(getB H id).bind fun cs=>need (v.firm=true/\v.cells.length=sz/\AV.scalL v.cells=true/\off+sz<=cs.length) (some (id,setL cs off v.cells))
 | _=>none
theorem qls {sz:Nat} {x v:Opd}:regA P Γ n0 (⟨none,none,.store sz x v⟩::os) E H Q=
  zau (stA sz (val E x) (val E v) H) fun r=>regA P Γ n0 os E (H.set r.1 (some r.2)) fun l=>Q (([r.1],[r.1])::l):=by
 rw [zbl rfl]
 simp only [evK,stA]
 cases val E x<;>try (simp [zbe,zbt,zao,zbk,zad,keys,cntK,goon];done)
 case ptr id off=>
  cases hg:getB H id with
  | none=>simp [hg,zbk]
  | some cs=>simp [hg,zbe,zao,zad,keys,cntK,updO]
def nilA:AV->Option AV
 | .ptr id off=>some (.ptr id off)
 | .iptr cs p=>some (.iptr cs p)
 | _=>none
theorem qlt {x:Opd}:regA P Γ n0 (⟨d,none,.nilck x⟩::os) E H Q=zau (nilA (val E x)) (goon P Γ n0 d os E H Q):=by
 rw [zbl rfl];simp only [evK,nilA];cases val E x<;>simp [zau,zad,keys,cntK]
theorem qyc {op:BinOp} {x y:Opd}:regA P Γ n0 (⟨d,none,.bin op x y⟩::os) E H Q=zau (binA op (val E x) (val E y)) (goon P Γ n0 d os E H Q):=by
 rw [zbl rfl];simp only [evK];cases binA op (val E x) (val E y)<;>simp [zau,zad,keys,cntK]
def beqA (neg:Bool):AV->AV->Option AV
 | .bool a,.bool b=>some (.bool (if neg then !(a == b) else (a == b)))
 | _,_=>none
theorem qyd {neg:Bool} {x y:Opd}:regA P Γ n0 (⟨d,none,.beq neg x y⟩::os) E H Q=zau (beqA neg (val E x) (val E y)) (goon P Γ n0 d os E H Q):=by
 rw [zbl rfl];simp only [evK,beqA];cases val E x<;>cases val E y<;>simp [zau,zad,keys,cntK]
def zvy (neg:Bool):AV->Option AV
 | .vec _ n _=>if n=0 then some .anyb else some (.bool neg)
 | .sl .. => some (.bool neg)
 | _=>none
theorem qsz {neg:Bool} {x:Opd}:regA P Γ n0 (⟨d,none,.snil neg x⟩::os) E H Q=zau (zvy neg (val E x)) (goon P Γ n0 d os E H Q):=by
 rw [zbl rfl];simp only [evK,zvy]
 cases val E x<;>try (simp [zbe,zbt,zao,zbk,zad,keys,cntK,goon];done)
 rename_i cs n c
 by_cases h:n=0<;>simp [h,zao,zad,keys,cntK,goon]
theorem jar {op:UnOp} {x:Opd}:regA P Γ n0 (⟨d,none,.un op x⟩::os) E H Q=zau (unA op (val E x)) (goon P Γ n0 d os E H Q):=by
 rw [zbl rfl];simp only [evK];cases unA op (val E x)<;>simp [zau,zad,keys,cntK]
def qex (k:IntKind):AV->Option AV
 | .int _ n=>some (.int k (k.wrap n))
 | _=>none
theorem qta {k:IntKind} {x:Opd}:regA P Γ n0 (⟨d,none,.conv k x⟩::os) E H Q=zau (qex k (val E x)) (goon P Γ n0 d os E H Q):=by
 rw [zbl rfl];simp only [evK,qex];cases val E x<;>simp [zau,zad,keys,cntK]
def qey (bytes:Nat):AV->AV->Option (Int×Int)
 | .int _ n,.int _ c=>need (0<=n/\n<=c/\c*bytes<=2^48/\c<2^63) (some (n,c))
 | _,_=>none
theorem qtb {sz bytes:Nat} {z:List AV} {x y:Opd}:regA P Γ n0 (⟨d,none,.mksl sz bytes z x y⟩::os) E H Q=
  ((z.length=sz/\0<sz)/\zau (qey bytes (val E x) (val E y)) fun r=>regA P Γ n0 os (updO E d (.sl H.length 0 r.1.toNat sz (some r.2.toNat))) (H++[some (zfl r.2.toNat z)]) fun l=>Q (([],[H.length])::l)):=by
 rw [zbl rfl];simp only [evK,qey]
 cases val E x<;>try (simp [zbe,zbt,zao,zbk,zad,keys,cntK,goon];done)
 case int k n=>
  cases val E y<;>try (simp [zbe,zbt,zao,zbk,zad,keys,cntK,goon];done)
  case int k' c=>
   simp [zbe,zbt,zao,zbk,zad,keys,cntK,goon]
   constructor
   ·rintro ⟨⟨h1,h2,h3,h4,h5,h6⟩,h7⟩;exact ⟨⟨h5,h6⟩,⟨h1,h2,h3,h4⟩,h7⟩
   ·rintro ⟨⟨h5,h6⟩,⟨h1,h2,h3,h4⟩,h7⟩;exact ⟨⟨h1,h2,h3,h4,h5,h6⟩,h7⟩
theorem qlu {sz:Nat} {x:Opd} {lo hi mx:Option Opd}:regA P Γ n0 (⟨d,none,.slice sz x lo hi mx⟩::os) E H Q=zau (zdp (val E) sz (val E x) lo hi mx) (goon P Γ n0 d os E H Q):=by
 rw [zbl rfl];simp only [evK];cases zdp (val E) sz (val E x) lo hi mx<;>simp [zau,zad,keys,cntK]
def fldA (off:Nat):AV->Option AV
 | .ptr id o=>some (.ptr id (o+off))
 | .iptr cs p=>some (.iptr cs (p+off))
 | _=>none
theorem qye {off:Nat} {x:Opd}:regA P Γ n0 (⟨d,none,.fld off x⟩::os) E H Q=zau (fldA off (val E x)) (goon P Γ n0 d os E H Q):=by
 rw [zbl rfl];simp only [evK,fldA];cases val E x<;>simp [zau,zad,keys,cntK]
def qez (ag:Bool) (sz off:Nat):AV->Option AV
 | .agg cs=>need (off+sz<=cs.length/\(ag=false->sz=1)) (some (ldv ag sz off cs))
 | _=>none
theorem qtc {ag:Bool} {sz off:Nat} {x:Opd}:regA P Γ n0 (⟨d,none,.part ag sz off x⟩::os) E H Q=zau (qez ag sz off (val E x)) (goon P Γ n0 d os E H Q):=by
 rw [zbl rfl];simp only [evK,qez]
 cases val E x<;>simp [zbe,zbt,zao,zbk,zad,keys,cntK,goon]
def idxA (sz:Nat):AV->AV->Option AV
 | .sl id off n s _,.int _ j=>need (s=sz/\0<=j/\j<n) (some (.ptr id (off+j.toNat*sz)))
 | .vec cs n _,.int _ j=>need (0<=j/\j<n) (some (.iptr cs (j.toNat*sz)))
 | _,_=>none
theorem qyf {sz:Nat} {x i:Opd}:regA P Γ n0 (⟨d,none,.idx sz x i⟩::os) E H Q=zau (idxA sz (val E x) (val E i)) (goon P Γ n0 d os E H Q):=by
 rw [zbl rfl];simp only [evK,idxA]
 cases val E x<;>cases val E i<;>simp [zbe,zbt,zao,zbk,zad,keys,cntK,goon]
def zvz (n sz:Nat):AV->AV->Option AV
 | .ptr id off,.int _ j=>need (0<=j/\j<n) (some (.ptr id (off+j.toNat*sz)))
 | .iptr cs p,.int _ j=>need (0<=j/\j<n) (some (.iptr cs (p+j.toNat*sz)))
 | _,_=>none
theorem qtd {n sz:Nat} {x i:Opd}:regA P Γ n0 (⟨d,none,.idxa n sz x i⟩::os) E H Q=zau (zvz n sz (val E x) (val E i)) (goon P Γ n0 d os E H Q):=by
 rw [zbl rfl];simp only [evK,zvz]
 cases val E x<;>cases val E i<;>simp [zbe,zbt,zao,zbk,zad,keys,cntK,goon]
def qfa (n:Nat) (ag:Bool) (sz:Nat):AV->AV->Option AV
 | .agg cs,.int _ j=>need (0<=j/\j<n/\j.toNat*sz+sz<=cs.length/\(ag=false->sz=1)) (some (ldv ag sz (j.toNat*sz) cs))
 | _,_=>none
theorem qte {n sz:Nat} {ag:Bool} {x i:Opd}:regA P Γ n0 (⟨d,none,.idxv n ag sz x i⟩::os) E H Q=zau (qfa n ag sz (val E x) (val E i)) (goon P Γ n0 d os E H Q):=by
 rw [zbl rfl];simp only [evK,qfa]
 cases val E x<;>cases val E i<;>simp [zbe,zbt,zao,zbk,zad,keys,cntK,goon]
def qfb:AV->AV->Option AV
 | .str s,.int _ j=>need (0<=j/\j<s.size) (some (.int .u8 (s.data.getD j.toNat 0).toNat))
 | _,_=>none
theorem qtf {x i:Opd}:regA P Γ n0 (⟨d,none,.idxs x i⟩::os) E H Q=zau (qfb (val E x) (val E i)) (goon P Γ n0 d os E H Q):=by
 rw [zbl rfl];simp only [evK,qfb]
 cases val E x<;>cases val E i<;>simp [zbe,zbt,zao,zbk,zad,keys,cntK,goon]
def extA (i:Nat):AV->Option AV
 | .tup vs=>vs[i]?
 | _=>none
theorem qyg {x:Opd} {i:Nat}:regA P Γ n0 (⟨d,none,.ext x i⟩::os) E H Q=zau (extA i (val E x)) (goon P Γ n0 d os E H Q):=by
 rw [zbl rfl];simp only [evK,extA]
 cases val E x<;>simp [zau]
 rename_i vs
 cases vs[i]?<;>simp [zad,keys,cntK]
def zwa:AV->Option AV
 | .vec _ n _=>some (.int .i64 n)
 | .sl _ _ n _ _=>some (.int .i64 n)
 | _=>none
theorem qyh {x:Opd}:regA P Γ n0 (⟨d,none,.len false x⟩::os) E H Q=zau (zwa (val E x)) (goon P Γ n0 d os E H Q):=by
 rw [zbl rfl];simp only [evK,zwa];cases val E x<;>simp [zau,zad,keys,cntK]
def ztl:AV->Option AV
 | .str s=>some (.int .i64 s.size)
 | _=>none
theorem qtg {x:Opd}:regA P Γ n0 (⟨d,none,.len true x⟩::os) E H Q=zau (ztl (val E x)) (goon P Γ n0 d os E H Q):=by
 rw [zbl rfl];simp only [evK,ztl];cases val E x<;>simp [zau,zad,keys,cntK]
theorem qth {n:Nat}:regA P Γ n0 (⟨d,none,.lenk n⟩::os) E H Q=goon P Γ n0 d os E H Q (.int .i64 n):=by
 rw [zbl rfl];simp [evK,zao,zad,keys,cntK]
def maxA:AV->AV->Option AV
 | .int k a,.int _ b=>some (.int k (if b>a then b else a))
 | _,_=>none
theorem qyi {x y:Opd}:regA P Γ n0 (⟨d,none,.max x y⟩::os) E H Q=zau (maxA (val E x) (val E y)) (goon P Γ n0 d os E H Q):=by
 rw [zbl rfl];simp only [evK,maxA];cases val E x<;>cases val E y<;>simp [zau,zad,keys,cntK]
theorem qti {f:FuncId} {caps:List Opd}:regA P Γ n0 (⟨d,none,.mkfn f caps⟩::os) E H Q=goon P Γ n0 d os E H Q (.clo f (caps.map (val E))):=by
 rw [zbl rfl];simp [evK,zao,zad,keys,cntK]
theorem qfc {sz bytes:Nat} {s x:Opd}:regA P Γ n0 (⟨d,none,.append sz bytes s x⟩::os) E H Q=
  zau (zbf n0 H.length H sz bytes (val E s) (val E x)) fun r=>regA P Γ n0 os (updO E d r.1) (zad r.2.1 (H++[none])) fun l=>Q ((r.2.2,keys r.2.1)::l):=by
 rw [zbl rfl];simp [evK,cntK]
theorem zng {cs:List AV}:getB (some cs::H) 0=some cs:=rfl
theorem qfd {c:Option (List AV)} {n:Nat}:getB (c::H) (n+1)=getB H n:=rfl
theorem ztm {args:List AV} {t:Nat}:zik args t=args.getD t .junk:=rfl
end
end Go.AL
