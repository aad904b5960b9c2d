/- A part of the proof. -/
import Derived.Test.YtbjdfanphdfkdaaGreatDoorPH
set_option linter.all false
set_option maxRecDepth 1000000
namespace Go.Proofs.YtbjdfanphdfkdaaGreatDoor
open Go Go.AL Go.Proofs
set_option maxHeartbeats 4000000
noncomputable def bv54:LR3:=[rA 203430923 2064601576,rA 203430924 5929119470056,rA 203430925 1004008]
def xem:=kerR bv54
noncomputable def bv55:LR3:=[rA 203430979 27874064916754596]
def xen:=kerR bv55
noncomputable def bv56:LR3:=[rA 203430980 4480912040]
def xeo:=kerR bv56
noncomputable def bv57:LR3:=[rA 203430981 10293607748072,rA 203430982 2874499560]
def xep:=kerR bv57
noncomputable def bv58:LR3:=[rA 203430983 4228304027942,rA 203430984 1008106,rA 203430985 1008104,rA 203430986 1008104]
def xeq:=kerR bv58
noncomputable def bv59:LR3:=[rA 203430987 5362183786984,rA 203430988 5345003917800]
def xer:=kerR bv59
noncomputable def bv60:LR3:=[rA 203430989 1008106,rA 203432835 937,rA 203432836 681,rA 203432837 811,rA 203432838 813]
def xes:=kerR bv60
noncomputable def bv61:LR3:=[rA 203432899 681,rA 203432900 553,rA 203432901 683,rA 203432902 685,rA 203432960 1380597892,rA 203432963 681]
def xet:=kerR bv61
noncomputable def bv62:LR3:=[rA 203432964 47860534256419815590]
def xeu:=kerR bv62
noncomputable def bv63:LR3:=[rA 203432965 14290724854644902]
def xev:=kerR bv63
noncomputable def bv64:LR3:=[rA 203432966 34023240910913618086]
def xew:=kerR bv64
noncomputable def bv65:LR3:=[rA 203432967 12091726572245352,rA 203432968 14379827449516392]
def xex:=kerR bv65
noncomputable def bv66:LR3:=[rA 203432969 15541478664130920,rA 203432970 5362183786856]
def xey:=kerR bv66
noncomputable def bv67:LR3:=[rA 203433027 681,rA 203433028 6960167600294,rA 203433029 2866106728]
def xez:=kerR bv67
noncomputable def bv68:LR3:=[rA 203433030 2874499562,rA 203433031 9777410166950]
def xfa:=kerR bv68
noncomputable def bv69:LR3:=[rA 203433032 1008106,rA 203433033 4245492289896,rA 203433034 1003880,rA 203433091 937]
def xfb:=kerR bv69
noncomputable def bv70:LR3:=[rA 203433092 9176907858150]
def xfc:=kerR bv70
noncomputable def bv71:LR3:=[rA 203433093 43253351847287406758]
def xfd:=kerR bv71
noncomputable def bv72:LR3:=[rA 203433094 14309424605380774]
def xfe:=kerR bv72
noncomputable def bv73:LR3:=[rA 203433095 21115401312878758]
def xff:=kerR bv73
noncomputable def bv74:LR3:=[rA 203433096 4795248103784,rA 203433097 5911939600744]
def xfg:=kerR bv74
noncomputable def bv75:LR3:=[rA 203433098 6478875283816,rA 203433099 5362183786856]
def xfh:=kerR bv75
noncomputable def bv76:LR3:=[rA 203434884 811,rA 203434885 555,rA 203434886 685,rA 203434948 683,rA 203434949 555,rA 203434950 685,rA 203435008 1388990598,rA 203435012 683]
def xfi:=kerR bv76
noncomputable def bv77:LR3:=[rA 203435013 1137194,rA 203435014 5886974841064,rA 203435015 12091726571983080]
def xfj:=kerR bv77
noncomputable def bv78:LR3:=[rA 203435016 12126928123941096,rA 203435076 683]
def xfk:=kerR bv78
