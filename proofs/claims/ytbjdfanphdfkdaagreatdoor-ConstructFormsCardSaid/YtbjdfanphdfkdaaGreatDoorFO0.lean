/- A part of the proof. -/
import Derived.Test.YtbjdfanphdfkdaaGreatDoorPH
set_option linter.all false
set_option maxRecDepth 1000000
namespace Go.Proofs.YtbjdfanphdfkdaaGreatDoor
open Go Go.AL Go.Proofs
theorem zvh:allN okF1 [1,2,3,4,5,6,7,8,9]=true:=by kernel_rfl
def kpg:=jmm mv0
def kph:=jmm mv1
def kpi:=jmm mv2
def kpj:=jmm mv3
def kpk:=zad lv0
def kpl:=zad lv1
def kpm:=zad lv2
def kpn:=zad lv3
def kpo:=zad lv4
def kpp:=zad lv5
def kpq:=zad lv6
def kpr:=zad lv7
def kps:=zad lv8
def kpt:=zad lv9
def xsz:=zad lv10
def xta:=zad lv11
def xtb:=zad lv12
def xtc:=zad lv13
def xtd:=zad lv14
def xte:=zad lv15
def xtf:=zad lv16

