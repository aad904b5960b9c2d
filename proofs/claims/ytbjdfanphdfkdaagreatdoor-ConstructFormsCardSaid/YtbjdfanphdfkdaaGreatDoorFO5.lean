/- A part of the proof. -/
import Derived.Test.YtbjdfanphdfkdaaGreatDoorPH
set_option linter.all false
set_option maxRecDepth 1000000
namespace Go.Proofs.YtbjdfanphdfkdaaGreatDoor
open Go Go.AL Go.Proofs
def xwi:=zad lv97
def xwj:=zad lv98
def xwk:=zad lv99
def jmn:=zad kgz
def jmo:=zad kha
def jmp:=zad khb
def jmq:=zad khc
def jmr:=zad khd
def jms:=zad khe
def jmt:=zad khf
def jmu:=zad khg
def jmv:=zad khh
def jmw:=zad khi
def jmx:=zad khj
def jmy:=zad khk
def jmz:=zad khl
def jna:=zad khm
def jnb:=zad khn
def jnc:=zad kho
def jnd:=zad khp
