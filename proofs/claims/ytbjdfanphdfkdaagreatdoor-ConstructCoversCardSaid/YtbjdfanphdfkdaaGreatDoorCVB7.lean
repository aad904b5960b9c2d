/- A part of the proof. -/
import Derived.Test.YtbjdfanphdfkdaaGreatDoorPH
set_option linter.all false
set_option maxRecDepth 1000000
namespace Go.Proofs.YtbjdfanphdfkdaaGreatDoor
open Go Go.AL Go.Proofs
set_option maxHeartbeats 4000000
noncomputable def xod:LR3:=[rA 341709834 21203929724047720]
def jgv:=kerR xod
noncomputable def xoe:LR3:=[rA 341709835 5063795050,rA 341709836 5072183658]
def jgw:=kerR xoe
noncomputable def xof:LR3:=[rA 341709837 5080572266]
def jgx:=kerR xof
noncomputable def xog:LR3:=[rA 341709838 29227633007612264]
def jgy:=kerR xog
noncomputable def xoh:LR3:=[rA 341711811 615,rA 341711812 617,rA 341711813 619,rA 341711814 621]
def jgz:=kerR xoh
noncomputable def xoi:LR3:=[rA 341711875 8627416152678,rA 341711876 3138603624]
def jha:=kerR xoi
noncomputable def xoj:LR3:=[rA 341711877 6427868615016]
def jhb:=kerR xoj
noncomputable def xok:LR3:=[rA 341711878 21151144575979878]
def jhc:=kerR xok
noncomputable def xol:LR3:=[rA 341711879 16613476194275688,rA 341711880 3427492202]
def jhd:=kerR xol
noncomputable def xom:LR3:=[rA 341713796 745,rA 341713797 747,rA 341713798 749,rA 341713860 617,rA 341713861 619,rA 341713862 621]
def jhe:=kerR xom
noncomputable def xon:LR3:=[rA 341713924 47859406707514097830]
def jhf:=kerR xon
noncomputable def xoo:LR3:=[rA 341713925 2601736810,rA 341713926 2605932906,rA 341713988 745]
def jhg:=kerR xoo
noncomputable def xop:LR3:=[rA 341713989 21152236031135910]
def jhh:=kerR xop
noncomputable def xoq:LR3:=[rA 341713990 3143066026,rA 341715844 747,rA 341715845 619,rA 341715908 619,rA 341715909 619,rA 341715972 619]
def jhi:=kerR xoq
noncomputable def xos:LR3:=[rA 341715973 14360552169230504,rA 341716036 747]
def jhj:=kerR xos
noncomputable def xot:LR3:=[rA 341716037 21152235494002920,rA 341718149 749,rA 341840896 1368009028,rA 341840898 549]
def jhk:=kerR xot
noncomputable def xou:LR3:=[rA 341840899 17476399217190]
def jhl:=kerR xou
noncomputable def xov:LR3:=[rA 341840900 11375393980774,rA 341840901 4769738080614]
def jhm:=kerR xov
noncomputable def xow:LR3:=[rA 341840902 54850138486663233894]
def jhn:=kerR xow
noncomputable def xox:LR3:=[rA 341840903 6993725833574]
def jho:=kerR xox
noncomputable def xoy:LR3:=[rA 341840904 17738250811294054]
def jhp:=kerR xoy
noncomputable def xoz:LR3:=[rA 341840905 8678435148134,rA 341840906 2601210216]
def jhq:=kerR xoz
noncomputable def xpa:LR3:=[rA 341840907 2601210216,rA 341840908 7029167706472,rA 341840909 741736]
def jhr:=kerR xpa
noncomputable def xpb:LR3:=[rA 341842882 743,rA 341842883 551,rA 341842884 553,rA 341842885 555,rA 341842886 557,rA 341842944 1384790342,rA 341842946 551,rA 341842947 551]
def jhs:=kerR xpb
noncomputable def xpc:LR3:=[rA 341842948 12037816398725478,rA 341842949 1137194,rA 341842950 4786926342504]
def jht:=kerR xpc
noncomputable def xpd:LR3:=[rA 341842951 5894222598504,rA 341842952 6461158281576,rA 341843010 743]
def jhu:=kerR xpd
