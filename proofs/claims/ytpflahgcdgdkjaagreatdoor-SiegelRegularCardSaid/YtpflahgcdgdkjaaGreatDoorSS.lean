/- A part of the proof. -/
import Derived.Test.YtpflahgcdgdkjaaGreatDoorAL25
set_option linter.all false
namespace Go.AL
open Go
abbrev mV(d s:Nat):COp:=⟨some d,none,.mov (.t s)⟩
abbrev oP(d:Nat)(k:CK):COp:=⟨some d,none,k⟩
abbrev sT(k:CK):COp:=⟨none,none,k⟩
abbrev gU(d g:Nat)(w:Bool)(k:CK):COp:=⟨some d,some (g,w),k⟩
abbrev kI(n:Int):Opd:= .k (.int .i64 n)
abbrev bT(d:Nat)(o:BinOp)(a b:Nat):COp:=oP d (.bin o (.t a) (.t b))
abbrev bK(d:Nat)(o:BinOp)(a:Nat)(n:Int):COp:=oP d (.bin o (.t a) (kI n))
abbrev ldO(d:Nat)(g:Bool)(k a:Nat):COp:=oP d (.load g k (.t a))
abbrev iX(d s a b:Nat):COp:=oP d (.idx s (.t a) (.t b))
abbrev cL(d f:Nat)(l:List Opd):COp:=oP d (.call f l)
abbrev eX(d a i:Nat):COp:=oP d (.ext (.t a) i)
abbrev lN(d a:Nat):COp:=oP d (.len false (.t a))
abbrev rN(l:List COp):CC:= .reg l none
abbrev RL:=List COp
def RSc:CC->List RL
 |.reg l _=>[l]
 |.seq a b=>RSc a++RSc b
 |.cond _ a b=>RSc a++RSc b
 |.block _ a=>RSc a
 |.loop a=>RSc a
 |.scope a=>RSc a
 |_=>[]
def V{α:Type}(p:α->Prop){y:α}(_:p y:=by show _=_;conv=>lhs;cbv):α:=y
def X(q:List RL)(i:Nat){y:RL}(_:q.getD i []=y:=by conv=>lhs;cbv):RL:=y
theorem dT{p:Prop}[Decidable p](h:p:=by omega):decide p=true:=decide_eq_true h
theorem dF{p:Prop}[Decidable p](h:¬p:=by omega):decide p=false:=decide_eq_false h
theorem SS:(∀{q:List RL} {i:Nat} {y:RL} (h:q.getD i []=y),X q i h=y)/\
 (∀{α:Type} {p:α->Prop} {y:α} (h:p y),V p h=y)/\
 (∀{P Γ n0 nt E H Q},wpC P Γ n0 nt .skip E H Q=(Q .normal E H))/\
 (∀{P Γ n0 nt E H Q},wpC P Γ n0 nt .ret E H Q=(Q .ret E H))/\
 (∀{P Γ n0 nt E H Q i},wpC P Γ n0 nt (.exit i) E H Q=(Q (.exit i) E H))/\
 (∀{P Γ n0 nt E H Q i},wpC P Γ n0 nt (.label i) E H Q=(Q .normal E H))/\
 (∀{P Γ n0 nt E H Q i},wpC P Γ n0 nt (.goto i) E H Q=(Q (.goto i) E H))/\
 (∀{P Γ n0 nt E H Q a b},wpC P Γ n0 nt (.seq a b) E H Q=(wpC P Γ n0 nt a E H (zed (λE' H'=>wpC P Γ n0 nt b E' H' Q) Q)))/\
 (∀{P Γ n0 nt E H Q x a b},wpC P Γ n0 nt (.cond x a b) E H Q=(zax (zvp (val E x)) λt=>both t (wpC P Γ n0 nt a E H Q) (wpC P Γ n0 nt b E H Q)))/\
 (∀{P Γ n0 nt E H Q i c},wpC P Γ n0 nt (.block i c) E H Q=(wpC P Γ n0 nt c E H (zmw i Q)))/\
 (∀{P Γ n0 nt E H Q cs},wpC P Γ n0 nt (.reg cs none) E H Q=(regA P Γ n0 cs E H (λ_ E' H'=>Q .normal E' H')))/\
 (∀{P:Program} {Γ:Glob} {n0 nt:Nat} {E:Env} {H:Heap} {Q:Post} {cs:List COp} {l:List (Nat×Nat)},wpC P Γ n0 nt (.reg cs (some l)) E H Q=(regA P Γ n0 cs E H (λfps E' H'=>dynB l fps=true/\Q .normal E' H')))/\
 (∀{P Γ n0 nt E H Q c},wpC P Γ n0 nt (.loop c) E H Q=(W P Γ n0 nt (.loop c) E H Q))/\
 (∀{P Γ n0 nt E H Q c},wpC P Γ n0 nt (.scope c) E H Q=(W P Γ n0 nt (.scope c) E H Q))/\
 (∀{P Γ n0 d os E H Q v},goon P Γ n0 d os E H Q v=(regA P Γ n0 os (updO E d v) H λl=>Q (([],[])::l)))/\
 (∀{d s},mV d s=⟨some d,none,.mov (.t s)⟩)/\
 (∀{d k},oP d k=⟨some d,none,k⟩)/\
 (∀{k},sT k=⟨none,none,k⟩)/\
 (∀{d g w k},gU d g w k=⟨some d,some (g,w),k⟩)/\
 (∀{n},kI n= .k (.int .i64 n))/\
 (∀{d a b o},bT d o a b=⟨some d,none,.bin o (.t a) (.t b)⟩)/\
 (∀{d a n o},bK d o a n=⟨some d,none,.bin o (.t a) (.k (.int .i64 n))⟩)/\
 (∀{d k a g},ldO d g k a=⟨some d,none,.load g k (.t a)⟩)/\
 (∀{d s a b},iX d s a b=⟨some d,none,.idx s (.t a) (.t b)⟩)/\
 (∀{d f l},cL d f l=⟨some d,none,.call f l⟩)/\
 (∀{d a i},eX d a i=⟨some d,none,.ext (.t a) i⟩)/\
 (∀{d a},lN d a=⟨some d,none,.len false (.t a)⟩)/\
 (∀{l},rN l= .reg l none)/\
 (∀{E H k Q},zed k Q .normal E H=k E H)/\
 (∀{E H k Q},zed k Q .ret E H=Q .ret E H)/\
 (∀{E H k Q i},zed k Q (.exit i) E H=Q (.exit i) E H)/\
 (∀{E H k Q i},zed k Q (.goto i) E H=Q (.goto i) E H)/\
 (∀{E H id Q},zmw id Q .normal E H=Q .normal E H)/\
 (∀{E H id Q},zmw id Q .ret E H=Q .ret E H)/\
 (∀{E H id i Q},zmw id Q (.exit i) E H=if i=id then Q .normal E H else Q (.exit i) E H)/\
 (∀{P Γ n0 E H d os Q x},regA P Γ n0 (⟨d,none,.mov x⟩::os) E H Q=goon P Γ n0 d os E H Q (val E x))/\
 (∀{P Γ n0 E H d os Q c a b},regA P Γ n0 (⟨d,none,.pick c a b⟩::os) E H Q=zax (qic (val E c) (val E a) (val E b)) (goon P Γ n0 d os E H Q))/\
 (∀{P Γ n0 E H d os Q x},regA P Γ n0 (⟨d,none,.box x⟩::os) E H Q=((val E x).firm=true/\regA P Γ n0 os (updO E d (.ptr H.length 0)) (H++[some (val E x).cells]) λl=>Q (([],[H.length])::l)))/\
 (∀{P:Program} {Γ:Glob} {n0:Nat} {E:Env} {H:Heap} {d:Option Nat} {os:List COp} {Q:List FP->Env->Heap->Prop} {z:List AV} {ps:List (Nat×Nat×Opd)},regA P Γ n0 (⟨d,none,.build z ps⟩::os) E H Q=zax (zey (val E) z ps) λcs=>goon P Γ n0 d os E H Q (.agg cs))/\
 (∀{P:Program} {Γ:Glob} {n0:Nat} {E:Env} {H:Heap} {d:Option Nat} {os:List COp} {Q:List FP->Env->Heap->Prop} {n sz:Nat} {z:List AV} {ps:List (Nat×Nat×Opd)},regA P Γ n0 (⟨d,none,.bsl n sz z ps⟩::os) E H Q=zax (zey (val E) z ps) λcs=>n*sz=z.length/\regA P Γ n0 os (updO E d (.sl H.length 0 n sz (some n))) (H++[some cs]) λl=>Q (([],[H.length])::l))/\
 (∀{P Γ n0 E H d os Q ag sz x},regA P Γ n0 (⟨d,none,.load ag sz x⟩::os) E H Q=((ag=false->sz=1)/\zax (ldA ag sz (val E x) H) λr=>regA P Γ n0 os (updO E d r.1) H λl=>Q ((r.2,[])::l)))/\
 (∀{P Γ n0 E H os Q sz x v},regA P Γ n0 (⟨none,none,.store sz x v⟩::os) E H Q=zax (stA sz (val E x) (val E v) H) λr=>regA P Γ n0 os E (H.set r.1 (some r.2)) λl=>Q (([r.1],[r.1])::l))/\
 (∀{P Γ n0 E H d os Q x},regA P Γ n0 (⟨d,none,.nilck x⟩::os) E H Q=zax (nilA (val E x)) (goon P Γ n0 d os E H Q))/\
 (∀{P Γ n0 E H d os Q op x y},regA P Γ n0 (⟨d,none,.bin op x y⟩::os) E H Q=zax (binA op (val E x) (val E y)) (goon P Γ n0 d os E H Q))/\
 (∀{P Γ n0 E H d os Q neg x y},regA P Γ n0 (⟨d,none,.beq neg x y⟩::os) E H Q=zax (beqA neg (val E x) (val E y)) (goon P Γ n0 d os E H Q))/\
 (∀{P Γ n0 E H d os Q neg x},regA P Γ n0 (⟨d,none,.snil neg x⟩::os) E H Q=zax (zyt neg (val E x)) (goon P Γ n0 d os E H Q))/\
 (∀{P Γ n0 E H d os Q op x},regA P Γ n0 (⟨d,none,.un op x⟩::os) E H Q=zax (unA op (val E x)) (goon P Γ n0 d os E H Q))/\
 (∀{P Γ n0 E H d os Q k x},regA P Γ n0 (⟨d,none,.conv k x⟩::os) E H Q=zax (qid k (val E x)) (goon P Γ n0 d os E H Q))/\
 (∀{P Γ n0 E H d os Q sz bytes z x y},regA P Γ n0 (⟨d,none,.mksl sz bytes z x y⟩::os) E H Q=((z.length=sz/\0<sz)/\zax (qie bytes (val E x) (val E y)) λr=>regA P Γ n0 os (updO E d (.sl H.length 0 r.1.toNat sz (some r.2.toNat))) (H++[some (zeh r.2.toNat z)]) λl=>Q (([],[H.length])::l)))/\
 (∀{P Γ n0 E H d os Q sz x lo hi mx},regA P Γ n0 (⟨d,none,.slice sz x lo hi mx⟩::os) E H Q=zax (zdy (val E) sz (val E x) lo hi mx) (goon P Γ n0 d os E H Q))/\
 (∀{P Γ n0 E H d os Q off x},regA P Γ n0 (⟨d,none,.fld off x⟩::os) E H Q=zax (fldA off (val E x)) (goon P Γ n0 d os E H Q))/\
 (∀{P Γ n0 E H d os Q ag sz off x},regA P Γ n0 (⟨d,none,.part ag sz off x⟩::os) E H Q=zax (qif ag sz off (val E x)) (goon P Γ n0 d os E H Q))/\
 (∀{P Γ n0 E H d os Q sz x i},regA P Γ n0 (⟨d,none,.idx sz x i⟩::os) E H Q=zax (idxA sz (val E x) (val E i)) (goon P Γ n0 d os E H Q))/\
 (∀{P Γ n0 E H d os Q n sz x i},regA P Γ n0 (⟨d,none,.idxa n sz x i⟩::os) E H Q=zax (zyu n sz (val E x) (val E i)) (goon P Γ n0 d os E H Q))/\
 (∀{P Γ n0 E H d os Q n sz ag x i},regA P Γ n0 (⟨d,none,.idxv n ag sz x i⟩::os) E H Q=zax (qig n ag sz (val E x) (val E i)) (goon P Γ n0 d os E H Q))/\
 (∀{P Γ n0 E H d os Q x i},regA P Γ n0 (⟨d,none,.idxs x i⟩::os) E H Q=zax (qih (val E x) (val E i)) (goon P Γ n0 d os E H Q))/\
 (∀{P Γ n0 E H d os Q x i},regA P Γ n0 (⟨d,none,.ext x i⟩::os) E H Q=zax (extA i (val E x)) (goon P Γ n0 d os E H Q))/\
 (∀{P Γ n0 E H d os Q x},regA P Γ n0 (⟨d,none,.len false x⟩::os) E H Q=zax (zyv (val E x)) (goon P Γ n0 d os E H Q))/\
 (∀{P Γ n0 E H d os Q x},regA P Γ n0 (⟨d,none,.len true x⟩::os) E H Q=zax (zvt (val E x)) (goon P Γ n0 d os E H Q))/\
 (∀{P Γ n0 E H d os Q n},regA P Γ n0 (⟨d,none,.lenk n⟩::os) E H Q=goon P Γ n0 d os E H Q (.int .i64 n))/\
 (∀{P Γ n0 E H d os Q x y},regA P Γ n0 (⟨d,none,.max x y⟩::os) E H Q=zax (maxA (val E x) (val E y)) (goon P Γ n0 d os E H Q))/\
 (∀{P Γ n0 E H d os Q f caps},regA P Γ n0 (⟨d,none,.mkfn f caps⟩::os) E H Q=goon P Γ n0 d os E H Q (.clo f (caps.map (val E))))/\
 (∀{P Γ n0 E H d os Q sz bytes s x},regA P Γ n0 (⟨d,none,.append sz bytes s x⟩::os) E H Q=zax (zby n0 H.length H sz bytes (val E s) (val E x)) λr=>regA P Γ n0 os (updO E d r.1) (zad r.2.1 (H++[none])) λl=>Q ((r.2.2,keys r.2.1)::l))/\
 (∀{P Γ n0 E H d f args os Q},regA P Γ n0 (⟨d,none,.call f args⟩::os) E H Q=zls P Γ f (args.map (val E)) H (zay P Γ n0 d os E H Q))/\
 (∀{P Γ n0 E H d x args os Q},regA P Γ n0 (⟨d,none,.callc x args⟩::os) E H Q= ∃f caps,val E x= .clo f caps/\okC (okFn P) f=true/\zls P Γ (cloF f) (cloA f (args.map (val E)) caps) H (zay P Γ n0 d os E H Q))/\
 (∀{P Γ n0 E H d g want k os Q},regA P Γ n0 (⟨d,some (g,want),k⟩::os) E H Q=zax (zvo (E g)) λb=>(b=want->regA P Γ n0 (⟨d,none,k⟩::os) (upd E g (.bool want)) H Q)/\(b=!want->regA P Γ n0 os (updO (upd E g (.bool !want)) d .junk) H (λl=>Q (([],[])::l))))/\
 (∀{P Γ n0 E H Q},regA P Γ n0 [] E H Q=Q [] E H)/\
 (∀{P Γ n0 E H d os Q v},zay P Γ n0 d os E H Q v [] [] 0=regA P Γ n0 os (updO E d v) H (λl=>Q (([],[])::l)))/\
 (∀{b},zvo (.bool b)=some b)/\
 (∀{b},zvp (.bool b)=some (some b))/\
 (zvp .anyb=some none)/\
 (∀{t A B},both (some t) A B=((t=true->A)/\(t=false->B)))/\
 (∀{A B},both none A B=(A/\B))/\
 (∀{x y t},qic (.bool t) x y=some (if t=true then x else y))/\
 (∀{H id off sz ag},ldA ag sz (.ptr id off) H=(getB H id).bind λcs=>need (off+sz<=cs.length) (some (ldv ag sz off cs,[id])))/\
 (∀{H sz p cs ag},ldA ag sz (.iptr cs p) H=need (p+sz<=cs.length) (some (ldv ag sz p cs,[])))/\
 (∀{off sz cs},ldv false sz off cs=cs.getD off .junk)/\
 (∀{off sz cs},ldv true sz off cs= .agg ((cs.drop off).take sz))/\
 (∀{H id off sz v},stA sz (.ptr id off) v H=(getB H id).bind λcs=>need (v.firm=true/\v.cells.length=sz/\AV.scalL v.cells=true/\off+sz<=cs.length) (some (id,setL cs off v.cells)))/\
 (∀{id off},nilA (.ptr id off)=some (.ptr id off))/\
 (∀{p cs},nilA (.iptr cs p)=some (.iptr cs p))/\
 (∀{k a b},binA .add (.int k a) (.int k b)=some (.int k (k.wrap (a+b))))/\
 (∀{k a b},binA .sub (.int k a) (.int k b)=some (.int k (k.wrap (a-b))))/\
 (∀{k a b},binA .mul (.int k a) (.int k b)=some (.int k (k.wrap (a*b))))/\
 (∀{k a b},binA .quo (.int k a) (.int k b)=need (b≠0) (some (.int k (k.wrap (a.tdiv b)))))/\
 (∀{k a b},binA .rem (.int k a) (.int k b)=need (b≠0) (some (.int k (a.tmod b))))/\
 (∀{k k' a b},binA .shl (.int k a) (.int k' b)=need (0<=b) (some (.int k (k.wrap (a*2^(min b.toNat k.bits))))))/\
 (∀{k k' a b},binA .shr (.int k a) (.int k' b)=need (0<=b) (some (.int k (a.fdiv (2^(min b.toNat k.bits))))))/\
 (∀{k a b},binA .and (.int k a) (.int k b)=some (.int k (k.wrap (BitVec.ofInt k.bits a &&& BitVec.ofInt k.bits b).toNat)))/\
 (∀{k a b},binA .or (.int k a) (.int k b)=some (.int k (k.wrap (BitVec.ofInt k.bits a ||| BitVec.ofInt k.bits b).toNat)))/\
 (∀{k a b},binA .andNot (.int k a) (.int k b)=some (.int k (k.wrap (BitVec.ofInt k.bits a &&& ~~~ BitVec.ofInt k.bits b).toNat)))/\
 (∀{k a b},binA .eql (.int k a) (.int k b)=some (.bool (decide (a=b))))/\
 (∀{k a b},binA .neq (.int k a) (.int k b)=some (.bool (decide (a≠b))))/\
 (∀{k a b},binA .lss (.int k a) (.int k b)=some (.bool (decide (a<b))))/\
 (∀{k a b},binA .leq (.int k a) (.int k b)=some (.bool (decide (a<=b))))/\
 (∀{k a b},binA .gtr (.int k a) (.int k b)=some (.bool (decide (b<a))))/\
 (∀{k a b},binA .geq (.int k a) (.int k b)=some (.bool (decide (b<=a))))/\
 (∀{s t},binA .eql (.str s) (.str t)=some (.bool (s.toList == t.toList)))/\
 (∀{s t},binA .add (.str s) (.str t)=need ((s.size+t.size:Nat)<=IntKind.i64.max) (some (.str (s++t))))/\
 (∀{neg s t},beqA neg (.bool s) (.bool t)=some (.bool (if neg=true then !(s == t)else(s == t))))/\
 (∀{n c cs neg},zyt neg (.vec cs n c)=if n=0 then some .anyb else some (.bool neg))/\
 (∀{id off n sz c neg},zyt neg (.sl id off n sz c)=some (.bool neg))/\
 (∀{k a},unA .neg (.int k a)=some (.int k (k.wrap (0-a))))/\
 (∀{t},unA .not (.bool t)=some (.bool !t))/\
 (∀{k k' a},qid k (.int k' a)=some (.int k (k.wrap a)))/\
 (∀{k k' a b bytes},qie bytes (.int k a) (.int k' b)=need (0<=a/\a<=b/\b*bytes<=2^48/\b<2^63) (some (a,b)))/\
 (∀{k a},zgc (.int k a)=need (0<=a) (some a.toNat))/\
 (∀{V d},zbm V d none=some d)/\
 (∀{V d z},zbm V d (some z)=zgc (V z))/\
 (∀{n sz c cs V lo hi},zdy V sz (.vec cs n c) lo hi none=(zbm V n hi).bind λh=>(zbm V 0 lo).bind λl=>need (l<=h/\h<=n/\n*sz<=cs.length) (some (.vec ((cs.drop (l*sz)).take ((h-l)*sz)) (h-l) (zdx l c))))/\
 (∀{id off n sz c V lo hi s},zdy V sz (.sl id off n s c) lo hi none=(zbm V n hi).bind λh=>(zbm V 0 lo).bind λl=>need (s=sz/\l<=h/\h<=n) (some (if l=h then zjg id off sz l c else .sl id (off+l*sz) (h-l) sz (zdx l c))))/\
 (∀{n sz c cs V lo hi m},zdy V sz (.vec cs n c) lo hi (some m)=(zbm V n hi).bind λh=>(zbm V 0 lo).bind λl=>(zgc (V m)).bind λm=>need (hi.isSome=true/\l<=h/\h<=m/\m<=n/\n*sz<=cs.length) (some (.vec ((cs.drop (l*sz)).take ((h-l)*sz)) (h-l) (some (m-l)))))/\
 (∀{id off n sz c V lo hi m s},zdy V sz (.sl id off n s c) lo hi (some m)=(zbm V n hi).bind λh=>(zbm V 0 lo).bind λl=>(zgc (V m)).bind λm=>need (hi.isSome=true/\s=sz/\l<=h/\h<=m/\m<=n) (some (if l=h then .vec [] 0 (some (m-l))else .sl id (off+l*sz) (h-l) sz (some (m-l)))))/\
 (∀{l},zdx l none=none)/\
 (∀{c},zdx 0 c=c)/\
 (∀{id off o},fldA off (.ptr id o)=some (.ptr id (o+off)))/\
 (∀{off p cs},fldA off (.iptr cs p)=some (.iptr cs (p+off)))/\
 (∀{off sz cs ag},qif ag sz off (.agg cs)=need (off+sz<=cs.length/\(ag=false->sz=1)) (some (ldv ag sz off cs)))/\
 (∀{id off n sz c k a s},idxA sz (.sl id off n s c) (.int k a)=need (s=sz/\0<=a/\a<n) (some (.ptr id (off+a.toNat*sz))))/\
 (∀{n sz c cs k a},idxA sz (.vec cs n c) (.int k a)=need (0<=a/\a<n) (some (.iptr cs (a.toNat*sz))))/\
 (∀{id off n sz k a},zyu n sz (.ptr id off) (.int k a)=need (0<=a/\a<n) (some (.ptr id (off+a.toNat*sz))))/\
 (∀{n sz p cs k a},zyu n sz (.iptr cs p) (.int k a)=need (0<=a/\a<n) (some (.iptr cs (p+a.toNat*sz))))/\
 (∀{n sz cs k a ag},qig n ag sz (.agg cs) (.int k a)=need (0<=a/\a<n/\a.toNat*sz+sz<=cs.length/\(ag=false->sz=1)) (some (ldv ag sz (a.toNat*sz) cs)))/\
 (∀{k a s},qih (.str s) (.int k a)=need (0<=a/\a<s.size) (some (.int .u8 (s.data.getD a.toNat 0).toNat)))/\
 (∀{cs i},extA i (.tup cs)=cs[i]?)/\
 (∀{n c cs},zyv (.vec cs n c)=some (.int .i64 n))/\
 (∀{id off n sz c},zyv (.sl id off n sz c)=some (.int .i64 n))/\
 (∀{s},zvt (.str s)=some (.int .i64 s.size))/\
 (∀{k k' a b},maxA (.int k a) (.int k' b)=some (.int k (if b>a then b else a)))/\
 (∀{E t},val E (.t t)=E t)/\
 (∀{x E},val E (.k x)=x)/\
 (∀{x E d},updO E (some d) x=upd E d x)/\
 (∀{x E},updO E none x=E)/\
 (∀{cs},(AV.agg cs).cells=cs)/\
 (∀{k a},(AV.int k a).cells=[.int k a])/\
 (∀{t},(AV.bool t).cells=[.bool t])/\
 (∀{n c cs},(AV.vec cs n c).cells=[.vec cs n c])/\
 (∀{id off n sz c},(AV.sl id off n sz c).cells=[.sl id off n sz c])/\
 (∀{cs},(AV.agg cs).firm=true)/\
 (∀{k a},(AV.int k a).firm=true)/\
 (∀{t},(AV.bool t).firm=true)/\
 (∀{n c cs},(AV.vec cs n c).firm=true)/\
 (∀{id off n sz c},(AV.sl id off n sz c).firm=true)/\
 (∀{cs i},setL cs i []=cs)/\
 (∀{cs i v vs},setL cs i (v::vs)=setL (cs.set i v) (i+1) vs)/\
 (AV.scalL []=true)/\
 (∀{x r},AV.scalL (x::r)=(x.scal && AV.scalL r))/\
 (∀{k a},(AV.int k a).scal=true)/\
 (∀{t},(AV.bool t).scal=true)/\
 (∀{n c cs},(AV.vec cs n c).scal=true)/\
 (∀{id off n sz c},(AV.sl id off n sz c).scal=true)/\
 (∀{cs V},zey V cs []=some cs)/\
 (∀{off:Nat} {cs:List AV} {V:Opd->AV} {s:Nat} {z:Opd} {r:List (Nat×Nat×Opd)},zey V cs ((off,s,z)::r)=need ((V z).firm=true/\(V z).cells.length=s/\off+s<=cs.length) (zey V (setL cs off (V z).cells) r))/\
 (∀{m z},zeh m [z]=List.replicate m z)/\
 (∀{α:Type} (a:α) (F:α->Prop),zax (some a) F=F a)/\
 (∀{α:Type} (c:Prop) [Decidable c] (x:Option α) (F:α->Prop),zax (need c x) F=(c/\zax x F))/\
 (∀{α:Type} (F:α->Prop),zax none F=False)/\
 (∀{α β:Type} (x:Option α) (f:α->Option β) (F:β->Prop),zax (x.bind f) F=zax x λa=>zax (f a) F)/\
 (∀{E d v t},upd E d v t=if t=d then v else E t)/\
 (∀{args t},zjc args t=args.getD t .junk)/\
 (∀{H cs},getB (some cs::H) 0=some cs)/\
 (∀{H:Heap} {c:Option (List AV)} {n:Nat},getB (c::H) (n+1)=getB H n)/\
 (∀{id off sz l q},zjg id off sz l (some q)= .vec [] 0 (zdx l (some q)))/\
 (∀{id off sz l c},zjg id off sz (l+1) c= .vec [] 0 (zdx (l+1) c))/\
 (∀{id off sz},zjg id off sz 0 none= .sl id off 0 sz none)/\
 (∀{α:Type} {x d:α} {l:List α},(x::l).getD 0 d=x)/\
 (∀{α:Type} {x d:α} {l:List α} {n:Nat},(x::l).getD (n+1) d=l.getD n d)/\
 (∀{α:Type} {d:α} {n:Nat},([]:List α).getD n d=d)/\
 (∀{α β:Type} {f:α->β} {a:α} {l:List α},(a::l).map f=f a::l.map f)/\
 (∀{α β:Type} {f:α->β},([]:List α).map f=[])/\
 (∀{α:Type} {a:α} {l:List α},(a::l).length=l.length+1)/\
 (∀{α:Type},([]:List α).length=0)/\
 (∀{α:Type} (l:List α),[]++l=l)/\
 (∀{α:Type} {a:α} {l m:List α},(a::l)++m=a::(l++m))/\
 (∀(p:Prop),(True/\p)=p)/\
 (∀(p:Prop),(p/\True)=p)/\
 (∀(p:Prop),(True->p)=p)/\
 (∀{α β:Type} (a:α) (f:α->Option β),(some a).bind f=f a)/\
 (∀{α β:Type} (f:α->Option β),(none:Option α).bind f=none)/\
 (∀(p:Prop),(False->p)=True)/\
 ((!true)=false)/\
 ((!false)=true)/\
 ((true=false)=False)/\
 ((false=true)=False)/\
 (∀(n:Nat),0+n=n)/\
 (∀(n:Nat),(n+1=0)=False)/\
 (∀{p:Prop} [Decidable p],(decide p=true)=p)/\
 (∀{p:Prop} [Decidable p],(decide p=false)= ¬p)/\
 (∀(n:Nat),n*1=n)/\
 (∀{α:Type} {a:α} {l:List α} {n:Nat},(a::l).take (n+1)=a::l.take n)/\
 (∀{α:Type} {l:List α},l.take 0=[])/\
 (∀{α:Type} {l:List α},l.drop 0=l)/\
 (∀{α:Type} {a:α} {l:List α} {n:Nat},(a::l).drop (n+1)=l.drop n)/\
 (∀{α:Type} {x a:α} {l:List α},(x::l).set 0 a=a::l)/\
 (∀{α:Type} {x a:α} {l:List α} {n:Nat},(x::l).set (n+1) a=x::l.set n a)/\
 (∀(b:Bool),(b && true)=b)/\
 (∀(b:Bool),(b && b)=b):=
 ⟨λ_=>rfl,
 λ_=>rfl,
 rfl,
 rfl,
 rfl,
 rfl,
 rfl,
 rfl,
 rfl,
 rfl,
 rfl,
 rfl,
 rfl,
 rfl,
 rfl,
 rfl,
 rfl,
 rfl,
 rfl,
 rfl,
 rfl,
 rfl,
 rfl,
 rfl,
 rfl,
 rfl,
 rfl,
 rfl,
 @zqo,
 @zys,
 @zvq,
 @zvr,
 @zvs,
 @qib,
 @qes,
 @jcb,
 @qws,
 @jcc,
 @qpl,
 @jcd,
 @qwt,
 @qpm,
 @qpn,
 @jce,
 @jcf,
 @qwu,
 @jez,
 @qwv,
 @qww,
 @qpo,
 @jcg,
 @qwx,
 @jch,
 @qwy,
 @qwz,
 @qxa,
 @jci,
 @jcj,
 @qxb,
 @qxc,
 @jck,
 @qxd,
 @qii,
 @qpj,
 @qpk,
 @zol,
 @jbz,
 @qer,
 @qet,
 @qeu,
 @qik,
 @qil,
 @qim,
 @qev,
 @qxe,
 @qpq,
 @jfa,
 @jfb,
 @qxf,
 @qpr,
 @qin,
 @qps,
 @qpt,
 @qpu,
 @qpv,
 @qpw,
 @qpx,
 @qpy,
 @qpz,
 @qxg,
 @zyw,
 @qqa,
 @qqb,
 @qqc,
 @qqd,
 @qqe,
 @qqf,
 @qio,
 @qip,
 @qiq,
 @qir,
 @qqg,
 @qxh,
 @qxi,
 @qis,
 @qit,
 @qiu,
 @zyx,
 @zyy,
 @qew,
 @qiv,
 @zyz,
 @qex,
 @zzc,
 @zzd,
 @qqh,
 @qiw,
 @qix,
 @qxj,
 @qqi,
 @qiy,
 @qez,
 @qiz,
 @qja,
 @qqj,
 @qjb,
 @qqk,
 @qfa,
 @qql,
 @jfc,
 @jfd,
 @qjc,
 @qjd,
 @qje,
 @qjf,
 @qfb,
 @qjg,
 @qqm,
 @qqn,
 @qqo,
 @qjh,
 @qqp,
 @qxk,
 @qqq,
 @qji,
 @qjj,
 @qfc,
 @qqr,
 @qjk,
 @qqs,
 @qxl,
 @qjl,
 @qfd,
 @qjm,
 @zaq,
 @zbo,
 @zbx,
 @zci,
 @zon,
 @zvu,
 @zoo,
 @qij,
 @qey,
 @zza,
 @zzb,
 by intros;rfl,
 by intros;rfl,
 by intros;rfl,
 by intros;rfl,
 by intros;rfl,
 by intros;rfl,
 by intros;rfl,
 λ_=>rfl,
 by intros;rfl,
 λp=>propext ⟨λh=>h.2,λh=>⟨trivial,h⟩⟩,
 λp=>propext ⟨λh=>h.1,λh=>⟨h,trivial⟩⟩,
 λp=>propext ⟨λh=>h trivial,λh _=>h⟩,
 by intros;rfl,
 by intros;rfl,
 λp=>propext ⟨λ_=>trivial,λ_ h=>h.elim⟩,
 by intros;rfl,
 by intros;rfl,
 by simp,
 by simp,
 Nat.zero_add,
 λn=>by simp,
 by intros;simp,
 by intros;simp,
 Nat.mul_one,
 by intros;rfl,
 by intros;simp,
 by intros;rfl,
 by intros;rfl,
 by intros;rfl,
 by intros;rfl,
 Bool.and_true,
 Bool.and_self⟩
theorem UU:(∀{E:Env} {d:Nat} {v:AV} {t:Nat},upd E d v t=if t=d then v else E t)/\
 (∀{args:List AV} {t:Nat},zjc args t=args.getD t .junk)/\
 (∀{α:Type} {x d:α} {l:List α},(x::l).getD 0 d=x)/\
 (∀{α:Type} {x d:α} {l:List α} {n:Nat},(x::l).getD (n+1) d=l.getD n d)/\
 (∀{α:Type} {_:Decidable False} (t e:α),(if False then t else e)=e):=
 ⟨@zon,
 @zvu,
 by intros;rfl,
 by intros;rfl,
 by intros;exact if_neg not_false⟩
universe u
theorem fC{p:Prop}(α:Sort u)[Nonempty α]:(α->p)↔p:=forall_const α
