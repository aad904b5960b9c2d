/- A part of the proof. -/
import Derived.Test.YtbjdfanphdfkdaaGreatDoorCVF0
import Derived.Test.YtbjdfanphdfkdaaGreatDoorCVF1
import Derived.Test.YtbjdfanphdfkdaaGreatDoorCVF2
import Derived.Test.YtbjdfanphdfkdaaGreatDoorCVF3
import Derived.Test.YtbjdfanphdfkdaaGreatDoorCVF4
import Derived.Test.YtbjdfanphdfkdaaGreatDoorCVF5
import Derived.Test.YtbjdfanphdfkdaaGreatDoorCVF6
import Derived.Test.YtbjdfanphdfkdaaGreatDoorCVF7
set_option linter.all false
set_option maxRecDepth 1000000
namespace Go.Proofs.YtbjdfanphdfkdaaGreatDoor
open Go Go.AL Go.Proofs
def LL1:List (List Nat):=[gl0,gl1,gl2,gl3,gl4,gl5,gl6,gl7,gl8]
theorem qrx:AllG (λc=>qif 1 (f1V c)) LL1:=⟨xkl,⟨xkm,⟨xkn,⟨xko,⟨xkp,⟨xuv,⟨xuw,⟨xux,⟨xuy,trivial⟩⟩⟩⟩⟩⟩⟩⟩⟩
def LL2:List (List Nat):=[gl9,gl10,gl11,gl12,gl13,gl14,gl15,gl16,gl17,gl18,gl19,gl20,gl21,gl22,gl23,gl24,gl25,gl26,gl27,gl28,gl29,gl30,gl31,gl32,gl33,gl34,gl35,gl36,gl37,gl38,gl39,gl40]
theorem koz:AllG (λc=>qif 2 (f2V c)) LL2:=⟨xuz,⟨xgp,⟨xgq,⟨xgr,⟨xgs,⟨xgt,⟨xgu,⟨xgv,⟨xgw,⟨xgx,⟨xgy,⟨xgz,⟨xha,⟨xhb,⟨xhc,⟨xhd,⟨xhe,⟨xhf,⟨xhg,⟨xhh,⟨xhi,⟨xhj,⟨xhk,⟨xhl,⟨xhm,⟨xhn,⟨xho,⟨xhp,⟨xhq,⟨xhr,⟨xhs,⟨xht,trivial⟩⟩⟩⟩⟩⟩⟩⟩⟩⟩⟩⟩⟩⟩⟩⟩⟩⟩⟩⟩⟩⟩⟩⟩⟩⟩⟩⟩⟩⟩⟩⟩
def LL3:List (List Nat):=[gl41,gl42,gl43,gl44,gl45,gl46,gl47,gl48,gl49,gl50,gl51,gl52,gl53,gl54,gl55,gl56,gl57,gl58,gl59,gl60,gl61,gl62,gl63,gl64,gl65,gl66,gl67,gl68,gl69,gl70,gl71,gl72,gl73,gl74,gl75,gl76,gl77,gl78,gl79,gl80,gl81,gl82,gl83,gl84,gl85,gl86,gl87,gl88,gl89,gl90,gl91,gl92,gl93,gl94,gl95,gl96,gl97,gl98,gl99,xva,xvb,xvc,xvd,xve,xvf,xvg,xvh,xvi,xvj,xvk,xvl,xvm,xvn,xvo,xvp,xvq,xvr,xvs,xvt,xvu,xvv,xvw,xvx,xvy,xvz,xwa,xwb,xwc,xwd,xwe,xwf,xwg,xwh,xwi,xwj,xwk,kcg,kck,kcl,kcm,kcn,kco,kcp,kcq,kcr,kcs,kct,kcu,kcv,kcw,kcx,kcy,kcz,kdd,kde,kdf,keb,kec,ked,kee,kef,keg,keh,kei,kej,kek,kel,kem,ken,keo,kep,keq,ker,kes,ket,keu,kev,kew,kex]
theorem kpa:AllG (λc=>qif 3 (f3V c)) LL3:=⟨xhu,⟨xhv,⟨xhw,⟨xhx,⟨xhy,⟨xhz,⟨xia,⟨xib,⟨xic,⟨xid,⟨xie,⟨xif,⟨xig,⟨xih,⟨xii,⟨xij,⟨xik,⟨xil,⟨xim,⟨xin,⟨xio,⟨xip,⟨xiq,⟨xir,⟨xis,⟨xit,⟨xiu,⟨xiv,⟨xiw,⟨xix,⟨xiy,⟨xiz,⟨xja,⟨xjb,⟨xjc,⟨xjd,⟨xje,⟨xjf,⟨xjg,⟨xjh,⟨xji,⟨xjj,⟨xjk,⟨xjl,⟨xjm,⟨xjn,⟨xjo,⟨xjp,⟨xjq,⟨xjr,⟨xjs,⟨xju,⟨xjv,⟨xjx,⟨xjy,⟨xjz,⟨xka,⟨xkb,⟨xkc,⟨jmr,⟨jms,⟨jmt,⟨jmu,⟨jmv,⟨jmw,⟨jmx,⟨jmy,⟨jmz,⟨jna,⟨jnb,⟨jnc,⟨jnd,⟨jne,⟨jnf,⟨jng,⟨jnh,⟨jni,⟨jnj,⟨jnk,⟨jnl,⟨jnm,⟨jnn,⟨jno,⟨jnp,⟨jnq,⟨jnr,⟨jns,⟨jnt,⟨jnu,⟨jnv,⟨jnw,⟨jnx,⟨jny,⟨jnz,⟨joa,⟨job,⟨joc,⟨jod,⟨joe,⟨jof,⟨jog,⟨joh,⟨joi,⟨joj,⟨jok,⟨jol,⟨jom,⟨jon,⟨joo,⟨jop,⟨joq,⟨jor,⟨jos,⟨jot,⟨jou,⟨jov,⟨znn,⟨zst,⟨qqp,⟨qsl,⟨qza,⟨jlg,⟨jlh,⟨jli,⟨juv,⟨xsq,⟨xsr,⟨xss,⟨kdg,⟨kdh,⟨kdi,⟨kdj,⟨kdk,⟨kdl,⟨kdm,⟨kdn,⟨kdo,⟨kdp,⟨kdq,trivial⟩⟩⟩⟩⟩⟩⟩⟩⟩⟩⟩⟩⟩⟩⟩⟩⟩⟩⟩⟩⟩⟩⟩⟩⟩⟩⟩⟩⟩⟩⟩⟩⟩⟩⟩⟩⟩⟩⟩⟩⟩⟩⟩⟩⟩⟩⟩⟩⟩⟩⟩⟩⟩⟩⟩⟩⟩⟩⟩⟩⟩⟩⟩⟩⟩⟩⟩⟩⟩⟩⟩⟩⟩⟩⟩⟩⟩⟩⟩⟩⟩⟩⟩⟩⟩⟩⟩⟩⟩⟩⟩⟩⟩⟩⟩⟩⟩⟩⟩⟩⟩⟩⟩⟩⟩⟩⟩⟩⟩⟩⟩⟩⟩⟩⟩⟩⟩⟩⟩⟩⟩⟩⟩⟩⟩⟩⟩⟩⟩⟩⟩⟩⟩⟩⟩⟩⟩⟩⟩
theorem kpb(l:List Nat)(h:allN (okQ f2V LL2) l=true:=by kernel_rfl):allN (okQ f2V LL2) l=true:=h
theorem qbn(l:List Nat)(h:allN (okQ f3V LL3) l=true:=by kernel_rfl):allN (okQ f3V LL3) l=true:=h
