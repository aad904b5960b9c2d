/- A part of the proof. -/
import Derived.Test.YtbjdfanphdfkdaaGreatDoorPH
set_option linter.all false
set_option maxRecDepth 1000000
namespace Go.Proofs.YtbjdfanphdfkdaaGreatDoor
open Go Go.AL Go.Proofs
def xuu:=zad lv57
def xuv:=zad lv58
def xuw:=zad lv59
def xux:=zad lv60
def xuy:=zad lv61
def xuz:=zad lv62
def xva:=zad lv63
def xvb:=zad lv64
def xvc:=zad lv65
def xvd:=zad lv66
def xve:=zad lv67
def xvf:=zad lv68
def xvg:=zad lv69
def xvh:=zad lv70
def xvi:=zad lv71
def xvj:=zad lv72
def xvk:=zad lv73
def xvl:=zad lv74
def xvm:=zad lv75
def xvn:=zad lv76
