/- A part of the proof. -/
import Derived.Test.YtbjdfanphdfkdaaGreatDoorPH
set_option linter.all false
set_option maxRecDepth 1000000
namespace Go.Proofs.YtbjdfanphdfkdaaGreatDoor
open Go Go.AL Go.Proofs
set_option maxHeartbeats 4000000
noncomputable def xnf:LR3:=[rA 337650693 14360551632097576,rA 337650755 489]
def jfx:=kerR xnf
noncomputable def xng:LR3:=[rA 337650756 7526838913512,rA 337650757 2601474538,rA 337650819 617]
def jfy:=kerR xng
noncomputable def xnh:LR3:=[rA 337650820 38640538270286692582]
def jfz:=kerR xnh
noncomputable def xni:LR3:=[rA 337650821 18865251308228968]
def jga:=kerR xni
noncomputable def xnj:LR3:=[rA 337650822 18865260438704424,rA 337652612 619,rA 337652676 491,rA 337652736 547082,rA 337652740 491]
def jgb:=kerR xnj
noncomputable def xnk:LR3:=[rA 337652804 491,rA 337652868 619,rA 337654784 1128816776,rA 337656832 1137209482,rA 337658880 2896217526408,rA 337660928 1422561420,rA 337662976 286858,rA 337667072 872702090,rA 337669120 140,rA 337671168 142,rA 337673216 140,rA 337675264 426124,rA 337679360 430220,rA 337683456 208,rA 337777602 741,rA 337777603 743,rA 337777604 873]
def jgc:=kerR xnk
noncomputable def xnl:LR3:=[rA 337777605 875,rA 337777606 877,rA 337777666 549,rA 337777667 551,rA 337777668 681,rA 337777669 683]
def jgd:=kerR xnl
noncomputable def xnm:LR3:=[rA 337777670 685,rA 337777671 687,rA 337777672 881,rA 337777673 883,rA 337777674 1141]
def jge:=kerR xnm
noncomputable def xnn:LR3:=[rA 337777730 741,rA 337777731 743,rA 337777732 873,rA 337777733 875,rA 337777734 877]
def jgf:=kerR xnn
noncomputable def xno:LR3:=[rA 337777735 879,rA 337777736 1073,rA 337777737 1075]
def jgg:=kerR xno
noncomputable def xnp:LR3:=[rA 337777738 1333,rA 337777739 1335,rA 337779651 551,rA 337779652 553]
def jgh:=kerR xnp
noncomputable def xnq:LR3:=[rA 337779653 683,rA 337779654 685,rA 337779715 551,rA 337779716 553,rA 337779717 683,rA 337779718 685,rA 337779719 687]
def jgi:=kerR xnq
noncomputable def xnr:LR3:=[rA 337779779 551,rA 337779780 553,rA 337779781 683,rA 337779782 685,rA 337779783 687,rA 337781636 745,rA 337781637 747]
def jgj:=kerR xnr
noncomputable def xns:LR3:=[rA 337781638 877,rA 337781700 553,rA 337781701 555,rA 337781764 553,rA 337781765 555,rA 337781828 553,rA 337781829 555]
def jgk:=kerR xns
noncomputable def xnt:LR3:=[rA 337781892 745,rA 337781893 747,rA 337781894 877,rA 337783685 555,rA 337783941 555,rA 341709762 741]
def jgl:=kerR xnt
noncomputable def xnu:LR3:=[rA 341709763 743,rA 341709764 745,rA 341709765 747,rA 341709766 1005,rA 341709767 1007]
def jgm:=kerR xnu
noncomputable def xnv:LR3:=[rA 341709768 1201,rA 341709769 1203,rA 341709770 1205]
def jgn:=kerR xnv
noncomputable def xnw:LR3:=[rA 341709771 1207,rA 341709772 1209,rA 341709773 1211]
def jgo:=kerR xnw
noncomputable def xnx:LR3:=[rA 341709774 1661,rA 341709826 741]
def jgp:=kerR xnx
noncomputable def xny:LR3:=[rA 341709827 14691910236902]
def jgq:=kerR xny
noncomputable def xnz:LR3:=[rA 341709828 6411217486182,rA 341709829 6419810828646]
def jgr:=kerR xnz
noncomputable def xoa:LR3:=[rA 341709830 52475617232399581542]
def jgs:=kerR xoa
noncomputable def xob:LR3:=[rA 341709831 4224405864,rA 341709832 10319112655208]
def jgt:=kerR xob
noncomputable def xoc:LR3:=[rA 341709833 2464106]
def jgu:=kerR xoc
