/- A part of the proof. -/
import Derived.Test.YtbjdfanphdfkdaaGreatDoorCVN
set_option linter.all false
set_option maxRecDepth 1000000
namespace Go.Proofs.YtbjdfanphdfkdaaGreatDoor
open Go Go.AL Go.Proofs
set_option maxHeartbeats 4000000
def kpg:=kpb mv0
def kph:=kpb mv1
def kpk:=qbn lv0
def kpl:=qbn lv1
def kpm:=qbn lv2
def kpn:=qbn lv3
def kpo:=qbn lv4
def kpp:=qbn lv5
def kpq:=qbn lv6
def kpr:=qbn lv7
def kps:=qbn lv8
def kpt:=qbn lv9
def xsz:=qbn lv10
def xta:=qbn lv11
def xtb:=qbn lv12
def xtc:=qbn lv13
def xtd:=qbn lv14
def xte:=qbn lv15
def xtf:=qbn lv16
def xtg:=qbn lv17
def xth:=qbn lv18
