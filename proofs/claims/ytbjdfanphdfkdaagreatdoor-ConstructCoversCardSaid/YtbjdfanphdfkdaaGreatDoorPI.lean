/- A part of the proof. -/
import Derived.Test.YtbjdfanphdfkdaaGreatDoorCVB0
import Derived.Test.YtbjdfanphdfkdaaGreatDoorCVB1
import Derived.Test.YtbjdfanphdfkdaaGreatDoorCVB2
import Derived.Test.YtbjdfanphdfkdaaGreatDoorCVB3
import Derived.Test.YtbjdfanphdfkdaaGreatDoorCVB4
import Derived.Test.YtbjdfanphdfkdaaGreatDoorCVB5
import Derived.Test.YtbjdfanphdfkdaaGreatDoorCVB6
import Derived.Test.YtbjdfanphdfkdaaGreatDoorCVB7
import Derived.Test.YtbjdfanphdfkdaaGreatDoorCVB8
import Derived.Test.YtbjdfanphdfkdaaGreatDoorCVB9
import Derived.Test.YtbjdfanphdfkdaaGreatDoorCVB10
import Derived.Test.YtbjdfanphdfkdaaGreatDoorCVB11
import Derived.Test.YtbjdfanphdfkdaaGreatDoorCVM0
set_option linter.all false
set_option maxRecDepth 1000000
open Option.some renaming injEq -> qX
open List renaming mem_cons_of_mem -> qZ, mem_cons_self -> qJ
namespace Go.Proofs.YtbjdfanphdfkdaaGreatDoor
open Go Go.AL Go.Proofs
noncomputable def tV:List LR3:=[xsp,xso,xsn,xsm,xsl,xsk,xsj,xsi,xsh,xsg,xsf,xse,xsd,xsc,xsb,xsa,xrz,xry,xrx,xrw,xrv,xru,xrt,xrs,xrr,xrq,xrp,xro,xrn,xrm,xrl,xrk,xrj,xri,xrh,xrg,xrf,xre,xrc,xrb,xra,xqz,xqy,xqx,xqw,xqv,xqu,xqt,xqs,xqr,xqq,xqp,xqo,xqn,xqm,xql,xqk,xqj,xqi,xqh,xqg,xqf,xqe,xqd,xqc,xqb,xqa,xpz,xpy,xpx,xpw,xpv,xpu,xpt,xps,xpr,xpq,xpp,xpo,xpn,xpm,xpl,xpk,xpj,xpi,xph,xpg,xpf,xpe,xpd,xpc,xpb,xpa,xoz,xoy,xox,xow,xov,xou,xot,xos,xoq,xop,xoo,xon,xom,xol,xok,xoj,xoi,xoh,xog,xof,xoe,xod,xoc,xob,xoa,xnz,xny,xnx,xnw,xnv,xnu,xnt,xns,xnr,xnq,xnp,xno,xnn,xnm,xnl,xnk,xnj,xni,xnh,xng,xnf,xne,xnd,xnc,xnb,xna,xmz,xmy,xmx,xmw,xmv,xmu,xmt,xms,xmr,xmq,xmp,xmo,xmn,xmm,xml,xmk,xmj,xmi,xmh,xmg,xmf,xme,xmd,xmc,xmb,xma,xlz,xly,xlx,xlw,xlv,xlu,xlt,xls,xlr,xlq,xlp,xlo,xln,xlm,xll,xlk,xlj,xli,xlh,xlg,xlf,xle,xld,xlc,xlb,bv99,bv98,bv97,bv96,bv95,bv94,bv93,bv92,bv91,bv90,bv89,bv88,bv87,bv86,bv85,bv84,bv83,bv82,bv81,bv80,bv79,bv78,bv77,bv76,bv75,bv74,bv73,bv72,bv71,bv70,bv69,bv68,bv67,bv66,bv65,bv64,bv63,bv62,bv61,bv60,bv59,bv58,bv57,bv56,bv55,bv54,bv53,bv52,bv51,bv50,bv49,bv48,bv47,bv46,bv45,bv44,bv43,bv42,bv41,bv40,bv39,bv38,bv37,bv36,bv35,bv34,bv33,bv32,bv31,bv30,bv29,bv28,bv27,bv26,bv25,bv24,bv23,bv22,bv21,bv20,bv19,bv18,bv17,bv16,bv15,bv14,bv13,bv12,bv11,bv10,bv9,bv8,bv7,bv6,bv5,bv4,bv3,bv2,bv1,bv0]
theorem qic:AllW QR tV:=⟨jlf,jle,jld,jlc,jlb,jla,jkz,jky,jkx,jkw,jkv,jku,jkt,jks,jkr,jkq,jkp,jko,jkn,jkm,jkl,jkk,jkj,jki,jkh,jkg,jkf,jke,jkd,jkc,jkb,jka,jjz,jjy,jjx,jjw,jjv,jju,jjt,jjs,jjr,jjq,jjp,jjo,jjn,jjm,jjl,jjk,jjj,jji,jjh,jjg,jjf,jje,jjd,jjc,jjb,jja,jiz,jiy,jix,jiw,jiv,jiu,jit,jis,jir,jiq,jip,jio,jin,jim,jil,jik,jij,jii,jih,jig,jif,jie,jid,jic,jib,jia,jhz,jhy,jhx,jhw,jhv,jhu,jht,jhs,jhr,jhq,jhp,jho,jhn,jhm,jhl,jhk,jhj,jhi,jhh,jhg,jhf,jhe,jhd,jhc,jhb,jha,jgz,jgy,jgx,jgw,jgv,jgu,jgt,jgs,jgr,jgq,jgp,jgo,jgn,jgm,jgl,jgk,jgj,jgi,jgh,jgg,jgf,jge,jgd,jgc,jgb,jga,jfz,jfy,jfx,jfw,jfv,jfu,jft,jfs,jfr,jfq,jfp,jfo,jfn,jfm,jfl,jfk,jfj,jfi,jfh,jfg,jff,jfe,jfd,jfc,jfb,jfa,jez,jey,jex,jew,jev,jeu,jet,jes,jer,jeq,jep,jeo,jen,jem,jel,jek,jej,jei,jeh,jeg,jef,jee,jed,jec,jeb,jea,jdz,jdy,jdx,jdw,jdv,jdu,jdt,xgo,xgn,xgm,xgl,xgk,xgj,xgi,xgh,xgf,xga,xfy,xfw,xfv,xfs,xfr,xfq,xfp,xfo,xfn,xfm,xfl,xfk,xfj,xfi,xfh,xfg,xff,xfe,xfd,xfc,xfb,xfa,xez,xey,xex,xew,xev,xeu,xet,xes,xer,xeq,xep,xeo,xen,xem,xel,xek,xej,xei,xeh,xeg,xef,xdw,xdv,xdt,jzw,jya,jus,jur,juq,jup,juo,jun,jum,jul,juk,juj,jui,juh,jug,juf,jue,jud,juc,jub,jua,jtz,jty,jtx,jtw,jtv,jtu,jtt,jts,jtr,jtq,jtp,jto,jtn,xla,xkz,xky,xkx,xkw,qhy,qhx,qhw,qhv,qhu,trivial⟩
noncomputable section
def k57T:LkT:=λn=>match rowW n tA with
 |some p=>some ([mV n],.bool (Nat.blt (nat_lit 0) p.1))
 |none=>none
def k22T:LkT:=λn=>match rowW n tA with
 |some p=>match Nat.ble p.1 (nat_lit 1)with
  |true=>none
  |false=>some ([mV n],.tup [mV (hv n p.1),.bool true])
 |none=>none
def x57:Ent:= .known (qrh cdM k57T)
def x22:Ent:= .known (qrh cdM k22T)
theorem kga:EOT Tryz.prog G okB 57 x57:=qbf λn p h=>by
 unfold k57T at h;split at h
 ·rename_i q hq;rw[qX]at h;subst h;exact(qbg kfz hq).1
 ·simp at h
theorem jxz:EOT Tryz.prog G okB 22 x22:=qbf λn p h=>by
 unfold k22T at h;split at h
 ·rename_i q hq;split at h
  ·simp at h
  ·rename_i hb;rw[qX]at h;subst h;exact(qbg kfz hq).2 hb
 ·simp at h
def frm(f:AV)(k:Nat->Nat->O):O:=natK (cdM [f]) λn=>match rowW n tV with
 |some p=>match eqA2 (nat_lit 8) (mV n) f with
  |true=>k n p.1
  |false=>none
 |none=>none
def nil0(r:O):O:=match r with
 |some (v,[])=>some (v,[])
 |_=>none
def gI(args:List AV)(H:Heap):O:=match args with
 | [f]=>match H with
  | []=>frm f λ_ _=>some (.bool true,[])
  |_=>none
 |_=>none
def gD(args:List AV)(H:Heap):O:=match args with
 | [f]=>match H with
  | []=>frm f λn _=>natK (detN n) λd=>some (J d,[])
  |_=>none
 |_=>none
def fnV(n:Nat)(a:List AV)(l:List Nat):O:=List.rec (motive:=λ_=>O) none (λi _ ih=>match eqL2 (eqA2 (nat_lit 8)) [J (iG i),J (iF i)] a with
 |true=>nil0 (gVv n (iG i) (iT i))
 |false=>ih) l
def gV(args:List AV)(H:Heap):O:=match args with
 |f::a=>match H with
  | []=>frm f λn h=>fnV n a (itL h)
  |_=>none
 |_=>none
def fnS(n:Nat)(l:AV)(is:List Nat):O:=List.rec (motive:=λ_=>O) none (λi _ ih=>match gLv n (iG i)with
 |some (u,[])=>match eqA2 (nat_lit 8) u l with
  |true=>nil0 (gSv n (iG i))
  |false=>ih
 |_=>ih) is
def gS(args:List AV)(H:Heap):O:=match args with
 | [f,l]=>match H with
  | []=>frm f λn h=>fnS n l (itL h)
  |_=>none
 |_=>none
theorem zsu{f:AV}{k:Nat->Nat->O}{R:AV×Heap}(h:frm f k=some R):∃n q v,f=mV n/\QR n q v/\k n q=some R:=by
 unfold frm at h;rw[zbf]at h;split at h
 ·rename_i p hp;split at h
  ·rename_i he;exact⟨_,_,_,(zpz 8 _ _ he).symm,qbg qic hp,h⟩
  ·simp at h
 ·simp at h
theorem qae{r:O}{R:AV×Heap}(h:nil0 r=some R):r=some (R.1,[])/\R.2=[]:=by
 unfold nil0 at h;split at h
 ·simp only[qX]at h;subst h;exact⟨rfl,rfl⟩
 ·simp at h
theorem qid:EOT Tryz.prog G okB 114 (.known gI):=by
 intro args H v H' h;unfold gI at h;split at h
 ·split at h
  ·obtain⟨n,q,w,rfl,hq,h⟩:=zsu h;simp only[qX,Prod.mk.injEq]at h;obtain⟨rfl,rfl⟩:=h;exact hq.1
  ·simp at h
 ·simp at h
theorem qie:EOT Tryz.prog G okB 115 (.known gD):=by
 intro args H v H' h;unfold gD at h;split at h
 ·split at h
  ·obtain⟨n,q,w,rfl,hq,h⟩:=zsu h;rw[zbf]at h;simp only[qX,Prod.mk.injEq]at h;obtain⟨rfl,rfl⟩:=h;exact hq.2.1
  ·simp at h
 ·simp at h
theorem qhz{n:Nat}{a:List AV}{R:AV×Heap}:∀{l:List Nat},(∀i,i∈l->QI n i)->fnV n a l=some R->Rt 117 (mV n::a) [] R.1 R.2:=by
 intro l
 induction l with
 |nil=>intro _ h;exact absurd (show(none:O)=some R from h) (by simp)
 |cons i l ih=>
  intro hq h
  have h:(match eqL2 (eqA2 (nat_lit 8)) [J (iG i),J (iF i)] a with
   |true=>nil0 (gVv n (iG i) (iT i))
   |false=>fnV n a l)=some R:=h
  split at h
  ·rename_i he;obtain⟨h1,h2⟩:=qae h;rw[<-zzu (zpz 8) _ _ he,h2];exact(hq i qJ).1 _ h1
  ·exact ih (λj hj=>hq j (qZ _ hj)) h
theorem qlm:EOT Tryz.prog G okB 117 (.known gV):=by
 intro args H v H' h;unfold gV at h;split at h
 ·split at h
  ·obtain⟨n,q,w,rfl,hq,h⟩:=zsu h;exact qhz (R:=(v,H')) hq.2.2 h
  ·simp at h
 ·simp at h
theorem qib{n:Nat}{u:AV}{R:AV×Heap}:∀{l:List Nat},(∀i,i∈l->QI n i)->fnS n u l=some R->Rt 119 [mV n,u] [] R.1 R.2:=by
 intro l
 induction l with
 |nil=>intro _ h;exact absurd (show(none:O)=some R from h) (by simp)
 |cons i l ih=>
  intro hq h;have hl:∀j,j∈l->QI n j:=λj hj=>hq j (qZ _ hj)
  have h:(match gLv n (iG i)with
   |some (u',[])=>match eqA2 (nat_lit 8) u' u with
    |true=>nil0 (gSv n (iG i))
    |false=>fnS n u l
   |_=>fnS n u l)=some R:=h
  split at h
  ·rename_i u' hu;split at h
   ·rename_i he;obtain⟨h1,h2⟩:=qae h;rw[h2,<-zpz 8 _ _ he];exact(hq i qJ).2 _ _ hu h1
   ·exact ih hl h
  ·exact ih hl h
theorem qny:EOT Tryz.prog G okB 119 (.known gS):=by
 intro args H v H' h;unfold gS at h;split at h
 ·split at h
  ·obtain⟨n,q,w,rfl,hq,h⟩:=zsu h;exact qib (R:=(v,H')) hq.2.2 h
  ·simp at h
 ·simp at h
def rn2(f:Nat)(a:List AV):O:=frun (exT (TM e9 x22 x57 (.known gI) (.known gD) (.known gV) (.known gS) x173 x174 x178 x201 (.known zyd) x220) (nat_lit 1000)) f a []
theorem zyc{f:Nat}{a:List AV}{v:AV}(h:rn2 f a=some (v,[])):Rt f a [] v []:=runM k9 jxz kga qid qie qlm qny qrm qro qrp qrq zvh qrr h
theorem jyb{f:Nat}{a:List AV}{v:AV}(h:okV (rn2 f a) v=true):Rt f a [] v []:=zyc (qes h)
def zQ(n k:Nat):AV:= .int .i64 (qgk (Nat.mod (Nat.div n k) (nat_lit 16)) (nat_lit 8))
def isoV(n:Nat):AV:= .vec [.vec [zQ n 4294967296,zQ n 268435456,zQ n 16777216] 3 none,.vec [zQ n 1048576,zQ n 65536,zQ n 4096] 3 none,.vec [zQ n 256,zQ n 16,zQ n 1] 3 none] 3 (some 3)
def fR(t:Nat):AV:=match Nat.beq t (nat_lit 0)with
 |true=> .tup [.vec [] 0 (some 0),.bool false,J (nat_lit 0)]
 |false=> .tup [isoV t,.bool true,J (nat_lit 0)]
def FdP(a h t:Nat):Prop:=Rt 9 [mV a,mV h,J (nat_lit 1000000)] [] (fR t) []
theorem kerF(a h t:Nat)(e:okV (rn2 (nat_lit 9) [mV a,mV h,J (nat_lit 1000000)]) (fR t)=true:=by kernel_rfl):FdP a h t:=jyb e
def FdOK:List (Nat×Nat×Nat)->Prop
 | []=>True
 |x::l=>FdP x.1 x.2.1 x.2.2/\FdOK l
def gFl(args:List AV)(l:List (Nat×Nat×Nat)):O:=List.rec (motive:=λ_=>O) none (λx _ ih=>match eqL2 (eqA2 (nat_lit 8)) [mV x.1,mV x.2.1,J (nat_lit 1000000)] args with
 |true=>some (fR x.2.2,[])
 |false=>ih) l
def gF(l:List (Nat×Nat×Nat))(args:List AV)(H:Heap):O:=match H with
 | []=>gFl args l
 |_=>none
theorem kdr{args:List AV}{R:AV×Heap}:∀{l:List (Nat×Nat×Nat)},FdOK l->gFl args l=some R->Rt 9 args [] R.1 R.2:=by
 intro l
 induction l with
 |nil=>intro _ h;exact absurd (show(none:O)=some R from h) (by simp)
 |cons x l ih=>
  intro hl h
  have h:(match eqL2 (eqA2 (nat_lit 8)) [mV x.1,mV x.2.1,J (nat_lit 1000000)] args with
   |true=>some (fR x.2.2,[])
   |false=>gFl args l)=some R:=h
  split at h
  ·rename_i he;simp only[qX]at h;subst h;rw[<-zzu (zpz 8) _ _ he];exact hl.1
  ·exact ih hl.2 h
theorem kez{l:List (Nat×Nat×Nat)}(hl:FdOK l):EOT Tryz.prog G okB 9 (.known (gF l)):=by
 intro args H v H' h;unfold gF at h;split at h
 ·exact kdr (R:=(v,H')) hl h
 ·simp at h
def rn3(l:List (Nat×Nat×Nat))(f:Nat)(a:List AV):O:=frun (exT (TM (orE (gF l) e9) x22 x57 (.known gI) (.known gD) (.known gV) (.known gS) x173 x174 x178 x201 (.known zyd) x220) (nat_lit 1000)) f a []
theorem kds{l:List (Nat×Nat×Nat)}(hl:FdOK l){f:Nat}{a:List AV}{v:AV}(h:okV (rn3 l f a) v=true):Rt f a [] v []:=runM (qrl (by kernel_rfl) zxb zxa (kez hl) k9) jxz kga qid qie qlm qny qrm qro qrp qrq zvh qrr (qes h)
def AllP(n d:Nat)(cs:List Nat):Prop:=Rt 8 [J n,J d] [] (.tup [.vec (cs.map mV) cs.length none,J 0]) []
theorem qag(n d:Nat)(cs:List Nat)(h:okV (rn2 (nat_lit 8) [J n,J d]) (.tup [.vec (cs.map mV) cs.length none,J (nat_lit 0)])=true:=by kernel_rfl):AllP n d cs:=jyb h
theorem kfa{l:List (Nat×Nat×Nat)}(hl:FdOK l)(n d:Nat)(cs:List Nat)(h:okV (rn3 l (nat_lit 8) [J n,J d]) (.tup [.vec (cs.map mV) cs.length none,J (nat_lit 0)])=true:=by kernel_rfl):AllP n d cs:=kds hl h
theorem qzm(n d:Nat)(cs:List Nat)(h:okV (run1 (nat_lit 8) [J n,J d]) (.tup [.vec (cs.map mV) cs.length none,J (nat_lit 0)])=true:=by kernel_rfl):AllP n d cs:=qbp h
