/- A part of the proof. -/
import Derived.Test.YtbjdfanphdfkdaaGreatDoorPH
set_option linter.all false
set_option maxRecDepth 1000000
namespace Go.Proofs.YtbjdfanphdfkdaaGreatDoor
open Go Go.AL Go.Proofs
noncomputable def bv21:LR3:=[rB 203435079 xic,rB 203435080 qru,rB 203435081 kcu,rB 203435082 qbm,rB 203435083 qbo,rB 203435141 xgn,rB 203435142 qzm,rB 203435143 qid,rB 203435144 qrt]
def xpc:=kerB bv21
noncomputable def bv22:LR3:=[rB 203435146 xjl,rB 203435148 ksw,rB 203437056 gs18,rB 203437062 xig,rB 203437063 xiz,rB 203437064 jah,rB 203437065 xkh,rB 203437066 kcy,rB 203437126 xid]
def xpd:=kerB bv22
noncomputable def bv23:LR3:=[rB 203437128 qif,rB 203437190 xht,rB 203437191 kcq,rB 203437192 kct,rB 203437193 zyd,rB 203437194 qrx,rB 203437254 ksb,rB 203437255 xia,rB 203437256 qru]
def xpe:=kerB bv23
noncomputable def bv24:LR3:=[rB 203437257 ksm,rB 203437259 xkq,rB 203439104 gs20,rB 203439111 jak,rB 203439112 qry,rB 203439175 jai,rB 203439176 xkk,rB 203439239 ksk]
def xpf:=kerB bv24
noncomputable def bv25:LR3:=[rB 203439240 xkc,rB 203439303 xis,rB 203439304 qif,rB 203439305 jap,rB 203441152 gs22,rB 203441288 xkv,rB 203441352 xkk,rB 203441416 ksp,rB 203441417 kcw,rB 203443200 gs25]
def xpg:=kerB bv25
noncomputable def bv26:LR3:=[rB 203445248 gs27,rB 203447296 gs30,rB 203449344 gs32,rB 203453440 gs36,rB 203455488 gs40,rB 203457536 gs42,rB 203459584 gs45,rB 203461632 gs48,rB 203463680 gs50,rB 203465728 gs52,rB 203467776 gs58,rB 203471872 gs60,rB 203473920 gs63,rB 203475968 gs68,rB 203478016 gs70,rB 203480064 gs73,rB 203482112 gs75,rB 203484160 gs78,rB 203486208 gs82,rB 203490304 gs84]
def xph:=kerB bv26
noncomputable def bv27:LR3:=[rB 203496448 gs91,rB 203498496 gs93,rB 203506688 kra,rB 203510784 kre,rB 203516928 kri,rB 203523072 krl,rB 203525120 kck,rB 203535360 krq,rB 203539456 krs,rB 337515522 xeu,rB 337515523 qhy,rB 337515524 xft,rB 337515525 qia,rB 337515526 xgo]
def xpi:=kerB bv27
noncomputable def bv28:LR3:=[rB 337515527 qrs,rB 337515528 xhk,rB 337515529 qbk,rB 337515530 xil,rB 337515531 jac,rB 337515532 xjk,rB 337515533 zyd,rB 337515534 jao,rB 337515535 jat]
def xpj:=kerB bv28
noncomputable def bv29:LR3:=[rB 337515586 xeq,rB 337515587 xez,rB 337515588 qze,rB 337515589 qro,rB 337515590 qzj,rB 337515591 kco,rB 337515592 qzq,rB 337515593 qzr,rB 337515594 kcp,rB 337515595 xio,rB 337515596 jae]
def xpk:=kerB bv29
noncomputable def bv30:LR3:=[rB 337515597 xjt,rB 337515599 xkm,rB 337515600 jav,rB 337517571 xfv,rB 337517573 qzn,rB 337517576 xjf,rB 337517637 qrr,rB 337517641 qbm]
def xpl:=kerB bv30
noncomputable def bv31:LR3:=[rB 337517642 xkl,rB 337519621 qrt,rB 337519622 xjd,rB 337519624 jau,rB 337519684 xha,rB 337519686 xiw,rB 337519687 jam,rB 337519748 qbh]
def xpm:=kerB bv31
noncomputable def bv32:LR3:=[rB 337519750 qzw,rB 337519751 xje,rB 337519753 xlc,rB 337523910 zyc,rB 337523911 kcz,rB 337642496 gs1,rB 337646592 gs14,rB 337646594 xfc,rB 337646595 xfn,rB 337646596 xgc,rB 337646597 qzi]
def xpn:=kerB bv32
noncomputable def bv33:LR3:=[rB 337646598 xgx,rB 337646599 qzo,rB 337646600 xhx,rB 337646601 qzv,rB 337646602 ksj,rB 337646603 xjc,rB 337646604 kss,rB 337646606 kcx,rB 337646607 kcy]
def xpo:=kerB bv33
noncomputable def bv34:LR3:=[rB 337646659 qhy,rB 337646661 qia,rB 337646663 qrs,rB 337646664 xhk,rB 337646665 qbk,rB 337646667 jac,rB 337646669 zyd,rB 337646670 jao]
def xpp:=kerB bv34
noncomputable def bv35:LR3:=[rB 337646671 jat,rB 337648640 gs17,rB 337648643 xgh,rB 337648644 qzl,rB 337648646 xie,rB 337648647 qbl,rB 337648648 xjo,rB 337648649 xki,rB 337648650 xkx]
def xpq:=kerB bv35
noncomputable def bv36:LR3:=[rB 337648707 xfx,rB 337648709 xhd,rB 337648711 kcr,rB 337650688 gs23,rB 337650692 xhv,rB 337650693 jaa,rB 337650694 xjv,rB 337650695 qrw,rB 337650759 qbo,rB 337650820 xgw,rB 337650821 xhr]
def xpr:=kerB bv36
noncomputable def bv37:LR3:=[rB 337650822 xiu,rB 337650823 jah,rB 337650824 kcx,rB 337652736 gs28,rB 337652741 jal,rB 337652742 xky,rB 337652805 xjq,rB 337654784 gs34,rB 337654982 kcv,rB 337656832 gs36,rB 337658880 gs43,rB 337660928 gs47]
def xps:=kerB bv37
noncomputable def bv38:LR3:=[rB 337662976 gs54,rB 337667072 gs66,rB 337669120 gs71,rB 337671168 gs77,rB 337673216 gs81,rB 337675264 gs86,rB 337679360 gs95,rB 337683456 krb,rB 337685504 krf,rB 337691648 krm,rB 337697792 kcl,rB 337699840 kcm,rB 337777667 qhy,rB 337777669 qia,rB 337777671 qrs]
def xpt:=kerB bv38
noncomputable def bv39:LR3:=[rB 337777672 xhk,rB 337777673 qbk,rB 337777675 jac,rB 337777677 zyd,rB 337777678 jao,rB 337777679 jat,rB 337777732 qze,rB 337777733 qro,rB 337777734 qzj]
def xpu:=kerB bv39
noncomputable def bv40:LR3:=[rB 337777735 kco,rB 337777736 qzq,rB 337777737 qzr,rB 337777738 kcp,rB 337777739 xio,rB 337777740 jae,rB 337777741 xjt,rB 337777743 xkm,rB 337777744 jav]
def xpv:=kerB bv40
noncomputable def bv41:LR3:=[rB 337779717 qzn,rB 337779781 qrr,rB 337779785 qbm,rB 337781765 qrt,rB 337781768 jau,rB 337781831 jam,rB 337781892 qbh,rB 337781894 qzw,rB 337781897 xlc]
def xpw:=kerB bv41

