/- A part of the proof. -/
import Derived.Test.YtbjdfanphdfkdaaGreatDoorPH
set_option linter.all false
set_option maxRecDepth 1000000
namespace Go.Proofs.YtbjdfanphdfkdaaGreatDoor
open Go Go.AL Go.Proofs
def xvo:=zad lv77
def xvp:=zad lv78
def xvq:=zad lv79
def xvr:=zad lv80
def xvs:=zad lv81
def xvt:=zad lv82
def xvu:=zad lv83
def xvv:=zad lv84
def xvw:=zad lv85
def xvx:=zad lv86
def xvy:=zad lv87
def xvz:=zad lv88
def xwa:=zad lv89
def xwb:=zad lv90
def xwc:=zad lv91
def xwd:=zad lv92
def xwe:=zad lv93
def xwf:=zad lv94
def xwg:=zad lv95
def xwh:=zad lv96
